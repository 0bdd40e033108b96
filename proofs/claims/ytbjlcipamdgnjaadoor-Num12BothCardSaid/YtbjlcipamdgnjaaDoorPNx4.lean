/- Written by this session's own program (xprint, made over the kit's print): Lean functions with the same answers as the Go functions, and the proofs of that. Not trusted: Lean checks it. -/
import Derived.Test.YtbjlcipamdgnjaaDoorPNx0
import Derived.Test.YtbjlcipamdgnjaaDoorPNx2
import Derived.Test.YtbjlcipamdgnjaaDoorPNx3
import Derived.Test.YtbjlcipamdgnjaaDoorXW
namespace Go.Proofs.YtbjlcipamdgnjaaDoor.PN
open Go.Proofs.YtbjlcipamdgnjaaDoor.XW Go.RowKit Go.Proofs.YtbjlcipamdgnjaaDoorW.PrintWords Go.Proofs.YtbjlcipamdgnjaaDoorW.PrintLast Go.Proofs.YtbjlcipamdgnjaaDoorW.PrintMore
attribute [local go_sem] max2_int min2_int max_two min_two max_three min_three max_four min_four   -- for this text's walks alone
set_option linter.unusedVariables false
set_option linter.unusedSimpArgs false

/-! ### big_above: function 67 -/
def big_above.f (a0 : ByteArray) (a1 : ByteArray) : Option (Int) := if (a0.size : Int) = (a1.size : Int) then ((strings_Compare.f a0 a1).bind fun t126 => (some t126)) else (if (a0.size : Int) < (a1.size : Int) then (some (-1)) else (some 1))
set_option maxHeartbeats 8000000 in
set_option maxRecDepth 100000 in
theorem big_above.calls (a0 : ByteArray) (a1 : ByteArray) (r : Int) (w : World) (h : big_above.f a0 a1 = some r) :
  Calls Tryd.prog 67 #[.string a0, .string a1] w fun e w' => e = .returned (.int .i64 r) ∧ Below w.heap.size w w' := by
 have HB := Aside0.mk (Below.refl w.heap.size w)
 have H : (if (a0.size : Int) = (a1.size : Int) then ((strings_Compare.f a0 a1).bind fun t126 => (some t126)) else (if (a0.size : Int) < (a1.size : Int) then (some (-1)) else (some 1))) = some r := h
 clear h
 by_cases c3 : (a0.size : Int) = (a1.size : Int)
 ·rw [if_pos c3] at H
  have c3b0 : ((a0.size : Int) == (a1.size : Int)) = true := beq_iff_eq.mpr c3
  have c3b1 : ((a0.size : Int) != (a1.size : Int)) = false := bne_eq_false_iff_eq.mpr c3
  have c3b2 : (a0.size == a1.size) = true := by first | simpa using c3 | (simp at c3 ⊢; omega)
  clear c3
  replace H := Option.bind_eq_some_iff.mp H
  obtain ⟨t126, A40, H⟩ := H
  replace H : (some t126) = some r := H
  have A4 := Aside0.mk A40
  clear A40
  obtain rfl := Option.some.inj H
  go_enter Tryd.func67, Tryd.ntmps67
  go_wp2_with (first | ((with_reducible refine gate_callee (f := 76) rfl ?_); refine goesL_ (some 17) rfl rfl Tryd.func76 (by kernel_rfl) rfl #[.string a0, .string a1] rfl (by (try simp only [List.map_toArray, List.map_cons, List.map_nil]); first | done | rfl | (simp only [List.length_drop, List.length_take]; rfl)) ?_; (with_reducible refine (strings_Compare.calls a0 a1 t126 _ A4.out).mono ?_); rintro e w5 ⟨rfl, hb⟩; refine ⟨_, rfl, ?_⟩; have n0_ := Aside0.mk (below_step bl hb); clear HB; have HB := n0_; clear n0_; (try clear hb); (try clear hb2); (try clear hk); (try clear hi)))
  go_ret
  exact ⟨by first | rfl | (simp [errW_none, errW_some] <;> rfl) | (simp [*, errW_none, errW_some] <;> rfl) | ((generalize ByteArray.toList _ = z_); cases z_ <;> first | rfl | (simp; done)), bl⟩
 ·rw [if_neg c3] at H
  have c3b0 : ((a0.size : Int) == (a1.size : Int)) = false := beq_eq_false_iff_ne.mpr c3
  have c3b1 : ((a0.size : Int) != (a1.size : Int)) = true := bne_iff_ne.mpr c3
  have c3b2 : (a0.size == a1.size) = false := by first | simpa using c3 | (simp at c3 ⊢; omega)
  by_cases c6 : (a0.size : Int) < (a1.size : Int)
  ·rw [if_pos c6] at H
   have c6b0 : decide ((a0.size : Int) < (a1.size : Int)) = true := decide_eq_true c6
   have c6b1 : decide (a0.size < a1.size) = true := decide_eq_true (Int.ofNat_lt.mp c6)
   clear c6
   obtain rfl := Option.some.inj H
   go_enter Tryd.func67, Tryd.ntmps67
   go_wp2
   go_ret
   exact ⟨by first | rfl | (simp [errW_none, errW_some] <;> rfl) | (simp [*, errW_none, errW_some] <;> rfl) | ((generalize ByteArray.toList _ = z_); cases z_ <;> first | rfl | (simp; done)), bl⟩
  ·rw [if_neg c6] at H
   have c6b0 : decide ((a0.size : Int) < (a1.size : Int)) = false := decide_eq_false c6
   have c6b1 : decide (a0.size < a1.size) = false := decide_eq_false (fun h => c6 (Int.ofNat_lt.mpr h))
   clear c6
   obtain rfl := Option.some.inj H
   go_enter Tryd.func67, Tryd.ntmps67
   go_wp2
   go_ret
   exact ⟨by first | rfl | (simp [errW_none, errW_some] <;> rfl) | (simp [*, errW_none, errW_some] <;> rfl) | ((generalize ByteArray.toList _ = z_); cases z_ <;> first | rfl | (simp; done)), bl⟩

/-! ### big_less: function 68 -/

def big_less.f (a0 : ByteArray) (a1 : ByteArray) : Option (ByteArray) := if (a0.data.toList.all fun x => decide (48 ≤ x.toNat ∧ x.toNat ≤ 57)) = true ∧ (a1.data.toList.all fun x => decide (48 ≤ x.toNat ∧ x.toNat ≤ 57)) = true ∧ a0.size ≤ 1000000 ∧ a1.size ≤ 1000000 then some ⟨(Go.Proofs.YtbjlcipamdgnjaaDoor.Room.lesL a0.data.toList a1.data.toList).toArray⟩ else none
theorem big_less.calls (a0 : ByteArray) (a1 : ByteArray) (r : ByteArray) (w : World) (h : big_less.f a0 a1 = some r) :
  Calls Tryd.prog 68 #[.string a0, .string a1] w fun e w' => e = .returned (.string r) ∧ Below w.heap.size w w' := by
 unfold big_less.f at h
 split at h
 ·rename_i hc
  obtain ⟨h1, h2, h3, h4⟩ := hc
  obtain rfl := Option.some.inj h
  exact Go.Proofs.YtbjlcipamdgnjaaDoor.Room.less_calls a0 a1 (fun x hx => of_decide_eq_true (p := 48 ≤ x.toNat ∧ x.toNat ≤ 57) (List.all_eq_true.1 h1 x hx)) (fun x hx => of_decide_eq_true (p := 48 ≤ x.toNat ∧ x.toNat ≤ 57) (List.all_eq_true.1 h2 x hx)) h3 h4 w
 ·cases h

/-! ### big_Add: function 52 -/
mutual
def big_Add.j0 : Nat → ByteArray → Int → Bool → Option (ByteArray)
 | 0, _, _, _ => none
 | k + 1, x0, x1, x18 => if x18 = true then (some (⟨#[]⟩ : ByteArray)) else ((big_parts.f x0).bind fun bt128 => (if bt128.1 = true then (big_Add.j1 k (wrap64 (-x1)) bt128.1 bt128.2) else (big_Add.j1 k x1 bt128.1 bt128.2)))
def big_Add.j1 : Nat → Int → Bool → ByteArray → Option (ByteArray)
 | 0, _, _, _ => none
 | k + 1, x1, x5, x6 => if x1 ≥ 0 then ((big_times.f k x6 1 x1).bind fun t130 => ((big_Norm.f k x5 t130).bind fun t131 => (some t131))) else ((strconv_Itoa.f (wrap64 (-x1))).bind fun t132 => ((big_above.f x6 t132).bind fun t133 => (if t133 < 0 then ((big_less.f t132 x6).bind fun t134 => ((big_Norm.f k (!x5) t134).bind fun t135 => (some t135))) else ((big_less.f x6 t132).bind fun t136 => ((big_Norm.f k x5 t136).bind fun t137 => (some t137))))))
end
def big_Add.f (k : Nat) (a0 : ByteArray) (a1 : Int) : Option (ByteArray) := (big_Good.f k a0).bind fun t127 => (if t127 = true then (if a1 > 1099511627776 then (big_Add.j0 k a0 a1 true) else (big_Add.j0 k a0 a1 (decide (a1 < (-1099511627776))))) else (big_Add.j0 k a0 a1 true))
theorem big_Add.mono_l : ∀ k, (∀ y0 y1 y2, LeO (big_Add.j0 k y0 y1 y2) (big_Add.j0 (k + 1) y0 y1 y2)) ∧ (∀ y0 y1 y2, LeO (big_Add.j1 k y0 y1 y2) (big_Add.j1 (k + 1) y0 y1 y2))
 | 0 => ⟨fun _ _ _ r h => by simp [big_Add.j0] at h, fun _ _ _ r h => by simp [big_Add.j1] at h⟩
 | k + 1 => by
  obtain ⟨ih0, ih1⟩ := big_Add.mono_l k
  refine ⟨?_, ?_⟩
  ·intro y0 y1 y2
   unfold big_Add.j0
   repeat' first
   | (with_reducible exact ih0 _ _ _)
   | (with_reducible exact ih1 _ _ _)
   | (with_reducible exact big_Good.mono _ _)
   | (with_reducible exact big_Norm.mono _ _ _)
   | (with_reducible exact big_times.mono _ _ _ _)
   | (with_reducible exact LeO.refl _)
   | (with_reducible exact LeO.none _)
   | (with_reducible refine LeO.ite ?_ ?_)
   | (with_reducible refine LeO.bind ?_ (fun _ => ?_))
   | exact ih0 _ _ _
   | exact ih1 _ _ _
   | exact big_Good.mono _ _
   | exact big_Norm.mono _ _ _
   | exact big_times.mono _ _ _ _
   | exact LeO.none _
   | refine LeO.ite ?_ ?_
   | refine LeO.bind ?_ (fun _ => ?_)
  ·intro y0 y1 y2
   unfold big_Add.j1
   repeat' first
   | (with_reducible exact ih0 _ _ _)
   | (with_reducible exact ih1 _ _ _)
   | (with_reducible exact big_Good.mono _ _)
   | (with_reducible exact big_Norm.mono _ _ _)
   | (with_reducible exact big_times.mono _ _ _ _)
   | (with_reducible exact LeO.refl _)
   | (with_reducible exact LeO.none _)
   | (with_reducible refine LeO.ite ?_ ?_)
   | (with_reducible refine LeO.bind ?_ (fun _ => ?_))
   | exact ih0 _ _ _
   | exact ih1 _ _ _
   | exact big_Good.mono _ _
   | exact big_Norm.mono _ _ _
   | exact big_times.mono _ _ _ _
   | exact LeO.none _
   | refine LeO.ite ?_ ?_
   | refine LeO.bind ?_ (fun _ => ?_)
theorem big_Add.mono : ∀ a0 a1 k, LeO (big_Add.f k a0 a1) (big_Add.f (k + 1) a0 a1) := by
 intro a0 a1 k
 obtain ⟨ih0, ih1⟩ := big_Add.mono_l k
 unfold big_Add.f
 repeat' first
   | (with_reducible exact ih0 _ _ _)
   | (with_reducible exact ih1 _ _ _)
   | (with_reducible exact big_Good.mono _ _)
   | (with_reducible exact big_Norm.mono _ _ _)
   | (with_reducible exact big_times.mono _ _ _ _)
   | (with_reducible exact LeO.refl _)
   | (with_reducible exact LeO.none _)
   | (with_reducible refine LeO.ite ?_ ?_)
   | (with_reducible refine LeO.bind ?_ (fun _ => ?_))
   | exact ih0 _ _ _
   | exact ih1 _ _ _
   | exact big_Good.mono _ _
   | exact big_Norm.mono _ _ _
   | exact big_times.mono _ _ _ _
   | exact LeO.none _
   | refine LeO.ite ?_ ?_
   | refine LeO.bind ?_ (fun _ => ?_)
set_option maxHeartbeats 8000000 in
set_option maxRecDepth 100000 in
theorem big_Add.calls (k : Nat) (a0 : ByteArray) (a1 : Int) (r : ByteArray) (w : World) (hG : Go.Proofs.YtbjlcipamdgnjaaDoor.Room.PowTab w) (h : big_Add.f k a0 a1 = some r) :
  Calls Tryd.prog 52 #[.string a0, .int .i64 a1] w fun e w' => e = .returned (.string r) ∧ Below w.heap.size w w' := by
 have HG := Aside0.mk hG
 clear hG
 have HB := Aside0.mk (Below.refl w.heap.size w)
 have H : ((big_Good.f k a0).bind fun t127 => (if t127 = true then (if a1 > 1099511627776 then (big_Add.j0 k a0 a1 true) else (big_Add.j0 k a0 a1 (decide (a1 < (-1099511627776))))) else (big_Add.j0 k a0 a1 true))) = some r := h
 clear h
 have HC3 := Aside0.mk H
 clear H
 go_enter Tryd.func52, Tryd.ntmps52
 go_upto_region 1 with (fail)
 go_cut [18] (fun v18 wc => ∃ (kq : Nat) (x18_2 : Bool), v18 = .bool x18_2 ∧ Aside0 (big_Add.j0 kq a0 a1 x18_2 = some r) ∧ Aside0 (kq ≤ k) ∧ Aside0 (Below w.heap.size w wc))
 case first =>
  have H := HC3.out
  clear HC3
  replace H := Option.bind_eq_some_iff.mp H
  obtain ⟨t127, A40, H⟩ := H
  replace H : (if t127 = true then (if a1 > 1099511627776 then (big_Add.j0 k a0 a1 true) else (big_Add.j0 k a0 a1 (decide (a1 < (-1099511627776))))) else (big_Add.j0 k a0 a1 true)) = some r := H
  have A4 := Aside0.mk A40
  clear A40
  by_cases c5 : t127 = true
  ·subst c5
   have H1 : (if a1 > 1099511627776 then (big_Add.j0 k a0 a1 true) else (big_Add.j0 k a0 a1 (decide (a1 < (-1099511627776))))) = some r := by rw [if_pos rfl] at H; exact H
   clear H
   have H := H1
   clear H1
   by_cases c6 : a1 > 1099511627776
   ·rw [if_pos c6] at H
    have c6b0 : decide (1099511627776 < a1) = true := decide_eq_true c6
    clear c6
    (first | rw [c6b0] | (simp only [i64_w, i32_w]; rw [c6b0]) | skip)
    have H' := Aside0.mk H
    clear H
    go_wp2_with (first | ((with_reducible refine gate_callee (f := 50) rfl ?_); refine goesL_ (some 9) rfl rfl Tryd.func50 (by kernel_rfl) rfl #[.string a0] rfl (by (try simp only [List.map_toArray, List.map_cons, List.map_nil]); first | done | rfl | (simp only [List.length_drop, List.length_take]; rfl)) ?_; (with_reducible refine (big_Good.calls k a0 true _ A4.out).mono ?_); rintro e w' ⟨rfl, ⟨nd, rfl⟩⟩; refine ⟨_, rfl, ?_⟩))
    go_meet
    case rel => exact ⟨_, (true), (by first | rfl | (simp; done) | (simp [*]; done) | (simp [wrap64]; done)), H', ⟨by first | omega | exact Nat.le_refl _⟩, ⟨bl⟩⟩
   ·rw [if_neg c6] at H
    have c6b0 : decide (1099511627776 < a1) = false := decide_eq_false c6
    clear c6
    (first | rw [c6b0] | (simp only [i64_w, i32_w]; rw [c6b0]) | skip)
    have H' := Aside0.mk H
    clear H
    go_wp2_with (first | ((with_reducible refine gate_callee (f := 50) rfl ?_); refine goesL_ (some 9) rfl rfl Tryd.func50 (by kernel_rfl) rfl #[.string a0] rfl (by (try simp only [List.map_toArray, List.map_cons, List.map_nil]); first | done | rfl | (simp only [List.length_drop, List.length_take]; rfl)) ?_; (with_reducible refine (big_Good.calls k a0 true _ A4.out).mono ?_); rintro e w' ⟨rfl, ⟨nd, rfl⟩⟩; refine ⟨_, rfl, ?_⟩))
    go_meet
    case rel => exact ⟨_, (decide (a1 < (-1099511627776))), (by first | rfl | (simp; done) | (simp [*]; done) | (simp [wrap64]; done)), H', ⟨by first | omega | exact Nat.le_refl _⟩, ⟨bl⟩⟩
  ·replace c5 := Bool.eq_false_iff.mpr c5
   subst c5
   have H1 : (big_Add.j0 k a0 a1 true) = some r := by rw [if_neg (show ¬ (false = true) by decide)] at H; exact H
   clear H
   have H := H1
   clear H1
   have H' := Aside0.mk H
   clear H
   go_wp2_with (first | ((with_reducible refine gate_callee (f := 50) rfl ?_); refine goesL_ (some 9) rfl rfl Tryd.func50 (by kernel_rfl) rfl #[.string a0] rfl (by (try simp only [List.map_toArray, List.map_cons, List.map_nil]); first | done | rfl | (simp only [List.length_drop, List.length_take]; rfl)) ?_; (with_reducible refine (big_Good.calls k a0 false _ A4.out).mono ?_); rintro e w' ⟨rfl, ⟨nd, rfl⟩⟩; refine ⟨_, rfl, ?_⟩))
   go_meet
   case rel => exact ⟨_, (true), (by first | rfl | (simp; done) | (simp [*]; done) | (simp [wrap64]; done)), H', ⟨by first | omega | exact Nat.le_refl _⟩, ⟨bl⟩⟩
 case rest =>
  clear HC3
  try clear p2; try clear c5; try clear c6; try clear c6b0
  obtain ⟨kq, x18_2, rfl, HA, HJ2, HB⟩ := hcut
  cases kq with
  | zero => exact absurd HA.out (by simp [big_Add.j0])
  | succ kj2 =>
   have H := HA.out
   clear HA
   simp only [big_Add.j0] at H
   by_cases c7 : x18_2 = true
   ·subst c7
    have H1 : (some (⟨#[]⟩ : ByteArray)) = some r := by rw [if_pos rfl] at H; exact H
    clear H
    have H := H1
    clear H1
    obtain rfl := Option.some.inj H
    go_wp2
    go_ret
    exact ⟨by first | rfl | (simp [errW_none, errW_some] <;> rfl) | (simp [*, errW_none, errW_some] <;> rfl) | ((generalize ByteArray.toList _ = z_); cases z_ <;> first | rfl | (simp; done)), bl⟩
   ·replace c7 := Bool.eq_false_iff.mpr c7
    subst c7
    have H1 : ((big_parts.f a0).bind fun bt128 => (if bt128.1 = true then (big_Add.j1 kj2 (wrap64 (-a1)) bt128.1 bt128.2) else (big_Add.j1 kj2 a1 bt128.1 bt128.2))) = some r := by rw [if_neg (show ¬ (false = true) by decide)] at H; exact H
    clear H
    have H := H1
    clear H1
    replace H := Option.bind_eq_some_iff.mp H
    obtain ⟨⟨t128, t129⟩, A80, H⟩ := H
    replace H : (if t128 = true then (big_Add.j1 kj2 (wrap64 (-a1)) t128 t129) else (big_Add.j1 kj2 a1 t128 t129)) = some r := H
    have A8 := Aside0.mk A80
    clear A80
    have HC9 := Aside0.mk H
    clear H
    go_upto_if 24 with (first | ((with_reducible refine gate_callee (f := 62) rfl ?_); refine goesL_ (some 21) rfl rfl Tryd.func62 (by kernel_rfl) rfl #[.string a0] rfl (by (try simp only [List.map_toArray, List.map_cons, List.map_nil]); first | done | rfl | (simp only [List.length_drop, List.length_take]; rfl)) ?_; (with_reducible refine (big_parts.calls a0 t128 t129 _ A8.out).mono ?_); rintro e w' ⟨rfl, ⟨nd, rfl⟩⟩; refine ⟨_, rfl, ?_⟩))
    (try simp only [Act.put, List.setIfInBounds_toArray, List.set_cons_zero, List.set_cons_succ])
    go_cut [1] (fun v1 wc => ∃ (kq : Nat) (x1_8 : Int), v1 = .int .i64 x1_8 ∧ Aside0 (big_Add.j1 kq x1_8 t128 t129 = some r) ∧ Aside0 (kq ≤ kj2) ∧ Aside0 (Below w.heap.size w wc))
    case first =>
     have H := HC9.out
     clear HC9
     by_cases c10 : t128 = true
     ·subst c10
      have H1 : (big_Add.j1 kj2 (wrap64 (-a1)) true t129) = some r := by rw [if_pos rfl] at H; exact H
      clear H
      have H := H1
      clear H1
      have H' := Aside0.mk H
      clear H
      go_wp2
      go_meet
      case rel => exact ⟨_, (wrap64 (-a1)), (by first | rfl | (simp; done) | (simp [*]; done) | (simp [wrap64]; done)), H', ⟨by have := HJ2.out; first | omega | exact Nat.le_refl _⟩, ⟨bl⟩⟩
     ·replace c10 := Bool.eq_false_iff.mpr c10
      subst c10
      have H1 : (big_Add.j1 kj2 a1 false t129) = some r := by rw [if_neg (show ¬ (false = true) by decide)] at H; exact H
      clear H
      have H := H1
      clear H1
      have H' := Aside0.mk H
      clear H
      go_wp2
      go_meet
      case rel => exact ⟨_, (a1), (by first | rfl | (simp; done) | (simp [*]; done) | (simp [wrap64]; done)), H', ⟨by have := HJ2.out; first | omega | exact Nat.le_refl _⟩, ⟨bl⟩⟩
    case rest =>
     clear HC9
     try clear c1; try clear p2; try clear c5; try clear c6; try clear c6b0; try clear p6; try clear c7; try clear c10; try clear p2
     obtain ⟨kq, x1_8, rfl, HA, HJ8, HB⟩ := hcut
     cases kq with
     | zero => exact absurd HA.out (by simp [big_Add.j1])
     | succ kj8 =>
      have H := HA.out
      clear HA
      simp only [big_Add.j1] at H
      by_cases c11 : x1_8 ≥ 0
      ·rw [if_pos c11] at H
       have c11b0 : decide (0 ≤ x1_8) = true := decide_eq_true c11
       clear c11
       replace H := Option.bind_eq_some_iff.mp H
       obtain ⟨t130, A120, H⟩ := H
       replace H : ((big_Norm.f kj8 t128 t130).bind fun t131 => (some t131)) = some r := H
       have A12 := Aside0.mk A120
       clear A120
       replace H := Option.bind_eq_some_iff.mp H
       obtain ⟨t131, A130, H⟩ := H
       replace H : (some t131) = some r := H
       have A13 := Aside0.mk A130
       clear A130
       obtain rfl := Option.some.inj H
       go_wp2_with (first | ((with_reducible refine gate_callee (f := 44) rfl ?_); refine goesL_ (some 32) rfl rfl Tryd.func44 (by kernel_rfl) rfl #[.string t129, .int .i64 1, .int .i64 x1_8] rfl (by (try simp only [List.map_toArray, List.map_cons, List.map_nil]); first | done | rfl | (simp only [List.length_drop, List.length_take]; rfl)) ?_; (with_reducible refine (big_times.calls kj8 t129 1 x1_8 t130 _ ?side1 A12.out).mono ?_); (case side1 => exact Go.Proofs.YtbjlcipamdgnjaaDoor.Room.PowTab_below HG.out bl); rintro e w14 ⟨rfl, hb⟩; refine ⟨_, rfl, ?_⟩; have n0_ := Aside0.mk (below_step bl hb); clear HB; have HB := n0_; clear n0_; (try clear hb); (try clear hb2); (try clear hk); (try clear hi)) | ((with_reducible refine gate_callee (f := 24) rfl ?_); refine goesL_ (some 33) rfl rfl Tryd.func24 (by kernel_rfl) rfl #[.bool t128, .string t130] rfl (by (try simp only [List.map_toArray, List.map_cons, List.map_nil]); first | done | rfl | (simp only [List.length_drop, List.length_take]; rfl)) ?_; (with_reducible refine (big_Norm.calls kj8 t128 t130 t131 _ A13.out).mono ?_); rintro e w15 ⟨rfl, hb⟩; refine ⟨_, rfl, ?_⟩; have n0_ := Aside0.mk (below_step bl hb); clear HB; have HB := n0_; clear n0_; (try clear hb); (try clear hb2); (try clear hk); (try clear hi)))
       go_ret
       exact ⟨by first | rfl | (simp [errW_none, errW_some] <;> rfl) | (simp [*, errW_none, errW_some] <;> rfl) | ((generalize ByteArray.toList _ = z_); cases z_ <;> first | rfl | (simp; done)), bl⟩
      ·rw [if_neg c11] at H
       have c11b0 : decide (0 ≤ x1_8) = false := decide_eq_false c11
       clear c11
       replace H := Option.bind_eq_some_iff.mp H
       obtain ⟨t132, A160, H⟩ := H
       replace H : ((big_above.f t129 t132).bind fun t133 => (if t133 < 0 then ((big_less.f t132 t129).bind fun t134 => ((big_Norm.f kj8 (!t128) t134).bind fun t135 => (some t135))) else ((big_less.f t129 t132).bind fun t136 => ((big_Norm.f kj8 t128 t136).bind fun t137 => (some t137))))) = some r := H
       have A16 := Aside0.mk A160
       clear A160
       replace H := Option.bind_eq_some_iff.mp H
       obtain ⟨t133, A170, H⟩ := H
       replace H : (if t133 < 0 then ((big_less.f t132 t129).bind fun t134 => ((big_Norm.f kj8 (!t128) t134).bind fun t135 => (some t135))) else ((big_less.f t129 t132).bind fun t136 => ((big_Norm.f kj8 t128 t136).bind fun t137 => (some t137)))) = some r := H
       have A17 := Aside0.mk A170
       clear A170
       by_cases c18 : t133 < 0
       ·rw [if_pos c18] at H
        have c18b0 : decide (t133 < 0) = true := decide_eq_true c18
        clear c18
        replace H := Option.bind_eq_some_iff.mp H
        obtain ⟨t134, A190, H⟩ := H
        replace H : ((big_Norm.f kj8 (!t128) t134).bind fun t135 => (some t135)) = some r := H
        have A19 := Aside0.mk A190
        clear A190
        replace H := Option.bind_eq_some_iff.mp H
        obtain ⟨t135, A200, H⟩ := H
        replace H : (some t135) = some r := H
        have A20 := Aside0.mk A200
        clear A200
        obtain rfl := Option.some.inj H
        go_wp2_with (first | ((with_reducible refine gate_callee (f := 66) rfl ?_); refine goesL_ (some 36) rfl rfl Tryd.func66 (by kernel_rfl) rfl #[.int .i64 (wrap64 (-x1_8))] rfl (by (try simp only [List.map_toArray, List.map_cons, List.map_nil]); first | done | rfl | (simp only [List.length_drop, List.length_take]; rfl)) ?_; (with_reducible refine (strconv_Itoa.calls (wrap64 (-x1_8)) t132 _ ?side1 A16.out).mono ?_); (case side1 => exact Go.Proofs.YtbjlcipamdgnjaaDoor.Room.PowTab_below HG.out bl); rintro e w21 ⟨rfl, hb⟩; refine ⟨_, rfl, ?_⟩; have n0_ := Aside0.mk (below_step bl hb); clear HB; have HB := n0_; clear n0_; (try clear hb); (try clear hb2); (try clear hk); (try clear hi)) | ((with_reducible refine gate_callee (f := 67) rfl ?_); refine goesL_ (some 39) rfl rfl Tryd.func67 (by kernel_rfl) rfl #[.string t129, .string t132] rfl (by (try simp only [List.map_toArray, List.map_cons, List.map_nil]); first | done | rfl | (simp only [List.length_drop, List.length_take]; rfl)) ?_; (with_reducible refine (big_above.calls t129 t132 t133 _ A17.out).mono ?_); rintro e w22 ⟨rfl, hb⟩; refine ⟨_, rfl, ?_⟩; have n0_ := Aside0.mk (below_step bl hb); clear HB; have HB := n0_; clear n0_; (try clear hb); (try clear hb2); (try clear hk); (try clear hi)) | ((with_reducible refine gate_callee (f := 68) rfl ?_); refine goesL_ (some 45) rfl rfl Tryd.func68 (by kernel_rfl) rfl #[.string t132, .string t129] rfl (by (try simp only [List.map_toArray, List.map_cons, List.map_nil]); first | done | rfl | (simp only [List.length_drop, List.length_take]; rfl)) ?_; (with_reducible refine (big_less.calls t132 t129 t134 _ A19.out).mono ?_); rintro e w23 ⟨rfl, hb⟩; refine ⟨_, rfl, ?_⟩; have n0_ := Aside0.mk (below_step bl hb); clear HB; have HB := n0_; clear n0_; (try clear hb); (try clear hb2); (try clear hk); (try clear hi)) | ((with_reducible refine gate_callee (f := 24) rfl ?_); refine goesL_ (some 46) rfl rfl Tryd.func24 (by kernel_rfl) rfl #[.bool (!t128), .string t134] rfl (by (try simp only [List.map_toArray, List.map_cons, List.map_nil]); first | done | rfl | (simp only [List.length_drop, List.length_take]; rfl)) ?_; (with_reducible refine (big_Norm.calls kj8 (!t128) t134 t135 _ A20.out).mono ?_); rintro e w24 ⟨rfl, hb⟩; refine ⟨_, rfl, ?_⟩; have n0_ := Aside0.mk (below_step bl hb); clear HB; have HB := n0_; clear n0_; (try clear hb); (try clear hb2); (try clear hk); (try clear hi)))
        go_ret
        exact ⟨by first | rfl | (simp [errW_none, errW_some] <;> rfl) | (simp [*, errW_none, errW_some] <;> rfl) | ((generalize ByteArray.toList _ = z_); cases z_ <;> first | rfl | (simp; done)), bl⟩
       ·rw [if_neg c18] at H
        have c18b0 : decide (t133 < 0) = false := decide_eq_false c18
        clear c18
        replace H := Option.bind_eq_some_iff.mp H
        obtain ⟨t136, A250, H⟩ := H
        replace H : ((big_Norm.f kj8 t128 t136).bind fun t137 => (some t137)) = some r := H
        have A25 := Aside0.mk A250
        clear A250
        replace H := Option.bind_eq_some_iff.mp H
        obtain ⟨t137, A260, H⟩ := H
        replace H : (some t137) = some r := H
        have A26 := Aside0.mk A260
        clear A260
        obtain rfl := Option.some.inj H
        go_wp2_with (first | ((with_reducible refine gate_callee (f := 66) rfl ?_); refine goesL_ (some 36) rfl rfl Tryd.func66 (by kernel_rfl) rfl #[.int .i64 (wrap64 (-x1_8))] rfl (by (try simp only [List.map_toArray, List.map_cons, List.map_nil]); first | done | rfl | (simp only [List.length_drop, List.length_take]; rfl)) ?_; (with_reducible refine (strconv_Itoa.calls (wrap64 (-x1_8)) t132 _ ?side1 A16.out).mono ?_); (case side1 => exact Go.Proofs.YtbjlcipamdgnjaaDoor.Room.PowTab_below HG.out bl); rintro e w27 ⟨rfl, hb⟩; refine ⟨_, rfl, ?_⟩; have n0_ := Aside0.mk (below_step bl hb); clear HB; have HB := n0_; clear n0_; (try clear hb); (try clear hb2); (try clear hk); (try clear hi)) | ((with_reducible refine gate_callee (f := 67) rfl ?_); refine goesL_ (some 39) rfl rfl Tryd.func67 (by kernel_rfl) rfl #[.string t129, .string t132] rfl (by (try simp only [List.map_toArray, List.map_cons, List.map_nil]); first | done | rfl | (simp only [List.length_drop, List.length_take]; rfl)) ?_; (with_reducible refine (big_above.calls t129 t132 t133 _ A17.out).mono ?_); rintro e w28 ⟨rfl, hb⟩; refine ⟨_, rfl, ?_⟩; have n0_ := Aside0.mk (below_step bl hb); clear HB; have HB := n0_; clear n0_; (try clear hb); (try clear hb2); (try clear hk); (try clear hi)) | ((with_reducible refine gate_callee (f := 68) rfl ?_); refine goesL_ (some 50) rfl rfl Tryd.func68 (by kernel_rfl) rfl #[.string t129, .string t132] rfl (by (try simp only [List.map_toArray, List.map_cons, List.map_nil]); first | done | rfl | (simp only [List.length_drop, List.length_take]; rfl)) ?_; (with_reducible refine (big_less.calls t129 t132 t136 _ A25.out).mono ?_); rintro e w29 ⟨rfl, hb⟩; refine ⟨_, rfl, ?_⟩; have n0_ := Aside0.mk (below_step bl hb); clear HB; have HB := n0_; clear n0_; (try clear hb); (try clear hb2); (try clear hk); (try clear hi)) | ((with_reducible refine gate_callee (f := 24) rfl ?_); refine goesL_ (some 51) rfl rfl Tryd.func24 (by kernel_rfl) rfl #[.bool t128, .string t136] rfl (by (try simp only [List.map_toArray, List.map_cons, List.map_nil]); first | done | rfl | (simp only [List.length_drop, List.length_take]; rfl)) ?_; (with_reducible refine (big_Norm.calls kj8 t128 t136 t137 _ A26.out).mono ?_); rintro e w30 ⟨rfl, hb⟩; refine ⟨_, rfl, ?_⟩; have n0_ := Aside0.mk (below_step bl hb); clear HB; have HB := n0_; clear n0_; (try clear hb); (try clear hb2); (try clear hk); (try clear hi)))
        go_ret
        exact ⟨by first | rfl | (simp [errW_none, errW_some] <;> rfl) | (simp [*, errW_none, errW_some] <;> rfl) | ((generalize ByteArray.toList _ = z_); cases z_ <;> first | rfl | (simp; done)), bl⟩

/-! ### dec_nought: function 53 -/
def dec_nought.f (a0 : Bool) : Option (Int × Bool × ByteArray × ByteArray) := some (0, a0, (⟨#[48]⟩ : ByteArray), (⟨#[48]⟩ : ByteArray))
set_option maxHeartbeats 8000000 in
set_option maxRecDepth 100000 in
theorem dec_nought.calls (a0 : Bool) (r1 : Int) (r2 : Bool) (r3 : ByteArray) (r4 : ByteArray) (w : World) (h : dec_nought.f a0 = some (r1, r2, r3, r4)) :
  Calls Tryd.prog 53 #[.bool a0] w fun e w' => e = .returned (.agg #[.int .i64 r1, .bool r2, .string r3, .string r4]) ∧ Below w.heap.size w w' := by
 have hu28 := Tryd.underlying28
 have HB := Aside0.mk (Below.refl w.heap.size w)
 have H : (some (0, a0, (⟨#[48]⟩ : ByteArray), (⟨#[48]⟩ : ByteArray))) = some (r1, r2, r3, r4) := h
 clear h
 simp only [Option.some.injEq, Prod.mk.injEq] at H
 obtain ⟨rfl, rfl, rfl, rfl⟩ := H
 go_enter Tryd.func53, Tryd.ntmps53
 go_wp2_with (first | ((with_reducible refine gate_dst (N := 2) rfl ?_); refine box_event ?hg (N := 2) ?hd (cs := #[.int .i64 0, .bool false, .string (⟨#[]⟩ : ByteArray), .string (⟨#[]⟩ : ByteArray)]) (t := 28) ?hr ?_; (case hd => rfl); (case hg => rfl); (case hr => first | (go_simp; done) | (go_simp; rfl)); intro gb138 hg w2 hbox hb; have n0_ := Aside0.mk (below_step bl hb); have n1_ := Aside0.mk (hbox); have n2_ := Aside0.mk ((by rw [hg]; exact (below_size bl) : w.heap.size ≤ gb138)); have n3_ := Aside0.mk ((by rw [hg]; exact (below_size bl) : w.heap.size ≤ gb138)); clear HB; have HB := n0_; have BK138 := n1_; have GW138 := n2_; have GE138 := n3_; clear n0_ n1_ n2_ n3_; clear hb hbox hg; have hcz3_0 : w2.cell? ⟨gb138, 0, none⟩ = some (.int .i64 0) := (blk_cell BK138.out 0).trans rfl; have hcz3_1 : w2.cell? ⟨gb138, 1, none⟩ = some (.bool false) := (blk_cell BK138.out 1).trans rfl; have hcz3_2 : w2.cell? ⟨gb138, 2, none⟩ = some (.string (⟨#[]⟩ : ByteArray)) := (blk_cell BK138.out 2).trans rfl; have hcz3_3 : w2.cell? ⟨gb138, 3, none⟩ = some (.string (⟨#[]⟩ : ByteArray)) := (blk_cell BK138.out 3).trans rfl; have hfz3_0 := blk_frozen BK138.out 0; have hfz3_1 := blk_frozen BK138.out 1; have hfz3_2 := blk_frozen BK138.out 2; have hfz3_3 := blk_frozen BK138.out 3))
 refine bodyPost_ret (results_cell_row rfl _ _ gb138 28 #[.int .i64 0, .bool a0, .string (⟨#[48]⟩ : ByteArray), .string (⟨#[48]⟩ : ByteArray)] (0, 0) _ rfl bk Tryd.underlying28 rfl (by kernel_rfl)) rfl ?_
 exact ⟨by first | rfl | (simp [errW_none, errW_some] <;> rfl) | (simp [*, errW_none, errW_some] <;> rfl) | ((generalize ByteArray.toList _ = z_); cases z_ <;> first | rfl | (simp; done)), bl⟩

/-! ### dec_Make: function 29 -/
def dec_Make.j0 : Nat → Bool → ByteArray → ByteArray → ByteArray → Bool → Option (Int × Bool × ByteArray × ByteArray × Bool)
 | 0, _, _, _, _, _ => none
 | k + 1, x0, x2, x3, x10, x26 => if x26 = true then (some (0, false, (⟨#[]⟩ : ByteArray), (⟨#[]⟩ : ByteArray), false)) else ((strings_TrimRight.f x10 (⟨#[48]⟩ : ByteArray)).bind fun t142 => ((big_Add.f k x3 (wrap64 ((wrap64 ((x10.size : Int) - (t142.size : Int))) - (x2.size : Int)))).bind fun t143 => ((strings_TrimLeft.f t142 (⟨#[48]⟩ : ByteArray)).bind fun t144 => (if t144.toList = ([] : List UInt8) then ((dec_nought.f x0).bind fun bt145 => (some (bt145.1, bt145.2.1, bt145.2.2.1, bt145.2.2.2, true))) else (some (0, x0, t144, t143, true))))))
def dec_Make.f (k : Nat) (a0 : Bool) (a1 : ByteArray) (a2 : ByteArray) (a3 : ByteArray) : Option (Int × Bool × ByteArray × ByteArray × Bool) := if a1.size + a2.size ≤ 9223372036854775807 then (if (a1 ++ a2).toList = ([] : List UInt8) then (dec_Make.j0 k a0 a2 a3 (a1 ++ a2) true) else ((dec_digits.f (a1 ++ a2)).bind fun t140 => (if t140 = true then ((big_Good.f k a3).bind fun t141 => (dec_Make.j0 k a0 a2 a3 (a1 ++ a2) (!t141))) else (dec_Make.j0 k a0 a2 a3 (a1 ++ a2) true)))) else (none)
theorem dec_Make.mono_l : ∀ k, (∀ y0 y1 y2 y3 y4, LeO (dec_Make.j0 k y0 y1 y2 y3 y4) (dec_Make.j0 (k + 1) y0 y1 y2 y3 y4))
 | 0 => fun _ _ _ _ _ r h => by simp [dec_Make.j0] at h
 | k + 1 => by
  have ih0 := dec_Make.mono_l k
  ·intro y0 y1 y2 y3 y4
   unfold dec_Make.j0
   repeat' first
   | (with_reducible exact ih0 _ _ _ _ _)
   | (with_reducible exact big_Add.mono _ _ _)
   | (with_reducible exact big_Good.mono _ _)
   | (with_reducible exact LeO.refl _)
   | (with_reducible exact LeO.none _)
   | (with_reducible refine LeO.ite ?_ ?_)
   | (with_reducible refine LeO.bind ?_ (fun _ => ?_))
   | exact ih0 _ _ _ _ _
   | exact big_Add.mono _ _ _
   | exact big_Good.mono _ _
   | exact LeO.none _
   | refine LeO.ite ?_ ?_
   | refine LeO.bind ?_ (fun _ => ?_)
theorem dec_Make.mono : ∀ a0 a1 a2 a3 k, LeO (dec_Make.f k a0 a1 a2 a3) (dec_Make.f (k + 1) a0 a1 a2 a3) := by
 intro a0 a1 a2 a3 k
 have ih0 := dec_Make.mono_l k
 unfold dec_Make.f
 repeat' first
   | (with_reducible exact ih0 _ _ _ _ _)
   | (with_reducible exact big_Add.mono _ _ _)
   | (with_reducible exact big_Good.mono _ _)
   | (with_reducible exact LeO.refl _)
   | (with_reducible exact LeO.none _)
   | (with_reducible refine LeO.ite ?_ ?_)
   | (with_reducible refine LeO.bind ?_ (fun _ => ?_))
   | exact ih0 _ _ _ _ _
   | exact big_Add.mono _ _ _
   | exact big_Good.mono _ _
   | exact LeO.none _
   | refine LeO.ite ?_ ?_
   | refine LeO.bind ?_ (fun _ => ?_)
set_option maxHeartbeats 8000000 in
set_option maxRecDepth 100000 in
theorem dec_Make.calls (k : Nat) (a0 : Bool) (a1 : ByteArray) (a2 : ByteArray) (a3 : ByteArray) (r1 : Int) (r2 : Bool) (r3 : ByteArray) (r4 : ByteArray) (r5 : Bool) (w : World) (hG : Go.Proofs.YtbjlcipamdgnjaaDoor.Room.PowTab w) (h : dec_Make.f k a0 a1 a2 a3 = some (r1, r2, r3, r4, r5)) :
  Calls Tryd.prog 29 #[.bool a0, .string a1, .string a2, .string a3] w fun e w' => e = .returned (.tuple #[.agg #[.int .i64 r1, .bool r2, .string r3, .string r4], .bool r5]) ∧ Below w.heap.size w w' := by
 have hu28 := Tryd.underlying28
 have HG := Aside0.mk hG
 clear hG
 have HB := Aside0.mk (Below.refl w.heap.size w)
 have H : (if a1.size + a2.size ≤ 9223372036854775807 then (if (a1 ++ a2).toList = ([] : List UInt8) then (dec_Make.j0 k a0 a2 a3 (a1 ++ a2) true) else ((dec_digits.f (a1 ++ a2)).bind fun t140 => (if t140 = true then ((big_Good.f k a3).bind fun t141 => (dec_Make.j0 k a0 a2 a3 (a1 ++ a2) (!t141))) else (dec_Make.j0 k a0 a2 a3 (a1 ++ a2) true)))) else (none)) = some (r1, r2, r3, r4, r5) := h
 clear h
 by_cases c5 : a1.size + a2.size ≤ 9223372036854775807
 ·rw [if_pos c5] at H
  have c5b0 := eq_true c5
  have c5b1 : decide (a1.size + a2.size ≤ 9223372036854775807) = true := decide_eq_true c5
  try have c5b2 : (9223372036854775807 < a1.size + a2.size) = False := eq_false (Nat.not_lt.2 c5)
  have HC6 := Aside0.mk H
  clear H
  go_enter Tryd.func29, Tryd.ntmps29
  go_upto_region 2 with (first | ((with_reducible refine gate_dst (N := 8) rfl ?_); refine box_event ?hg (N := 8) ?hd (cs := #[.int .i64 0, .bool false, .string (⟨#[]⟩ : ByteArray), .string (⟨#[]⟩ : ByteArray)]) (t := 28) ?hr ?_; (case hd => rfl); (case hg => rfl); (case hr => first | (go_simp; done) | (go_simp; rfl)); intro gb139 hg w7 hbox hb; have n0_ := Aside0.mk (below_step bl hb); have n1_ := Aside0.mk (hbox); have n2_ := Aside0.mk ((by rw [hg]; exact (below_size bl) : w.heap.size ≤ gb139)); have n3_ := Aside0.mk ((by rw [hg]; exact (below_size bl) : w.heap.size ≤ gb139)); clear HB; have HB := n0_; have BK139 := n1_; have GW139 := n2_; have GE139 := n3_; clear n0_ n1_ n2_ n3_; clear hb hbox hg))
  (try simp only [Act.put, List.setIfInBounds_toArray, List.set_cons_zero, List.set_cons_succ])
  go_cut [26] (fun v26 wc => ∃ (kq : Nat) (x26_5 : Bool), v26 = .bool x26_5 ∧ Aside0 (dec_Make.j0 kq a0 a2 a3 (a1 ++ a2) x26_5 = some (r1, r2, r3, r4, r5)) ∧ Aside0 (kq ≤ k) ∧ Aside0 (wc.heap[gb139]? = some (.cells #[.int .i64 0, .bool false, .string (⟨#[]⟩ : ByteArray), .string (⟨#[]⟩ : ByteArray)] 28 (0, 0))) ∧ Aside0 (Below w.heap.size w wc))
  case first =>
   have H := HC6.out
   clear HC6
   by_cases c8 : (a1 ++ a2).toList = ([] : List UInt8)
   ·rw [if_pos c8] at H
    have c8b0 : ((a1 ++ a2).toList == ([] : List UInt8)) = true := beq_iff_eq.mpr c8
    have c8b1 : ((a1 ++ a2).toList != ([] : List UInt8)) = false := bne_eq_false_iff_eq.mpr c8
    clear c8
    (first | rw [c8b0] | (simp only [i64_w, i32_w]; rw [c8b0]) | skip)
    have H' := Aside0.mk H
    clear H
    go_wp2
    go_meet
    case rel => exact ⟨_, (true), (by first | rfl | (simp; done) | (simp [*]; done) | (simp [wrap64]; done)), H', ⟨by first | omega | exact Nat.le_refl _⟩, ⟨by (with_reducible repeat (first | refine blk_drewN ?_ _ | refine blk_drew ?_ | refine blk_alloc ?_ _)); exact BK139.out⟩, ⟨bl⟩⟩
   ·rw [if_neg c8] at H
    have c8b0 : ((a1 ++ a2).toList == ([] : List UInt8)) = false := beq_eq_false_iff_ne.mpr c8
    have c8b1 : ((a1 ++ a2).toList != ([] : List UInt8)) = true := bne_iff_ne.mpr c8
    (first | rw [c8b0] | (simp only [i64_w, i32_w]; rw [c8b0]) | skip)
    replace H := Option.bind_eq_some_iff.mp H
    obtain ⟨t140, A90, H⟩ := H
    replace H : (if t140 = true then ((big_Good.f k a3).bind fun t141 => (dec_Make.j0 k a0 a2 a3 (a1 ++ a2) (!t141))) else (dec_Make.j0 k a0 a2 a3 (a1 ++ a2) true)) = some (r1, r2, r3, r4, r5) := H
    have A9 := Aside0.mk A90
    clear A90
    by_cases c10 : t140 = true
    ·subst c10
     have H1 : ((big_Good.f k a3).bind fun t141 => (dec_Make.j0 k a0 a2 a3 (a1 ++ a2) (!t141))) = some (r1, r2, r3, r4, r5) := by rw [if_pos rfl] at H; exact H
     clear H
     have H := H1
     clear H1
     replace H := Option.bind_eq_some_iff.mp H
     obtain ⟨t141, A110, H⟩ := H
     replace H : (dec_Make.j0 k a0 a2 a3 (a1 ++ a2) (!t141)) = some (r1, r2, r3, r4, r5) := H
     have A11 := Aside0.mk A110
     clear A110
     have H' := Aside0.mk H
     clear H
     go_wp2_with (first | (go_at_call 49; (try (rename_i hK_; simp only [List.append] at hK_)); (with_reducible refine (dec_digits.calls (a1 ++ a2) true _ A9.out).mono ?_); rintro e w12 ⟨rfl, hb⟩; have n0_ := Aside0.mk (blk_below (g := gb139) (o := .cells #[.int .i64 0, .bool false, .string (⟨#[]⟩ : ByteArray), .string (⟨#[]⟩ : ByteArray)] 28 (0, 0)) bk hb); have n1_ := Aside0.mk (below_step bl hb); clear BK139; clear HB; have BK139 := n0_; have HB := n1_; clear n0_ n1_; (try clear hb); (try clear hb2); (try clear hk); (try clear hi)) | (go_at_call 50; (try (rename_i hK_; simp only [List.append] at hK_)); (with_reducible refine (big_Good.calls k a3 t141 _ A11.out).mono ?_); rintro e w' ⟨rfl, ⟨nd, rfl⟩⟩))
     go_meet
     case rel => exact ⟨_, (!t141), (by first | rfl | (simp; done) | (simp [*]; done) | (simp [wrap64]; done)), H', ⟨by first | omega | exact Nat.le_refl _⟩, ⟨by (with_reducible repeat (first | refine blk_drewN ?_ _ | refine blk_drew ?_ | refine blk_alloc ?_ _)); exact BK139.out⟩, ⟨bl⟩⟩
    ·replace c10 := Bool.eq_false_iff.mpr c10
     subst c10
     have H1 : (dec_Make.j0 k a0 a2 a3 (a1 ++ a2) true) = some (r1, r2, r3, r4, r5) := by rw [if_neg (show ¬ (false = true) by decide)] at H; exact H
     clear H
     have H := H1
     clear H1
     have H' := Aside0.mk H
     clear H
     go_wp2_with (first | (go_at_call 49; (try (rename_i hK_; simp only [List.append] at hK_)); (with_reducible refine (dec_digits.calls (a1 ++ a2) false _ A9.out).mono ?_); rintro e w13 ⟨rfl, hb⟩; have n0_ := Aside0.mk (blk_below (g := gb139) (o := .cells #[.int .i64 0, .bool false, .string (⟨#[]⟩ : ByteArray), .string (⟨#[]⟩ : ByteArray)] 28 (0, 0)) bk hb); have n1_ := Aside0.mk (below_step bl hb); clear BK139; clear HB; have BK139 := n0_; have HB := n1_; clear n0_ n1_; (try clear hb); (try clear hb2); (try clear hk); (try clear hi)))
     go_meet
     case rel => exact ⟨_, (true), (by first | rfl | (simp; done) | (simp [*]; done) | (simp [wrap64]; done)), H', ⟨by first | omega | exact Nat.le_refl _⟩, ⟨by (with_reducible repeat (first | refine blk_drewN ?_ _ | refine blk_drew ?_ | refine blk_alloc ?_ _)); exact BK139.out⟩, ⟨bl⟩⟩
  case rest =>
   clear HC6
   try clear c1; try clear c2; try clear p2; try clear c5; try clear c5b0; try clear c5b1; try clear c5b2; try clear c8; try clear c8b0; try clear c8b1; try clear c10
   obtain ⟨kq, x26_5, rfl, HA, HJ5, BK139, HB⟩ := hcut
   cases kq with
   | zero => exact absurd HA.out (by simp [dec_Make.j0])
   | succ kj5 =>
    have H := HA.out
    clear HA
    simp only [dec_Make.j0] at H
    by_cases c14 : x26_5 = true
    ·subst c14
     have H1 : (some (0, false, (⟨#[]⟩ : ByteArray), (⟨#[]⟩ : ByteArray), false)) = some (r1, r2, r3, r4, r5) := by rw [if_pos rfl] at H; exact H
     clear H
     have H := H1
     clear H1
     simp only [Option.some.injEq, Prod.mk.injEq] at H
     obtain ⟨rfl, rfl, rfl, rfl, rfl⟩ := H
     have hcz15_0 : wc.cell? ⟨gb139, 0, none⟩ = some (.int .i64 0) := (blk_cell BK139.out 0).trans rfl
     have hcz15_1 : wc.cell? ⟨gb139, 1, none⟩ = some (.bool false) := (blk_cell BK139.out 1).trans rfl
     have hcz15_2 : wc.cell? ⟨gb139, 2, none⟩ = some (.string (⟨#[]⟩ : ByteArray)) := (blk_cell BK139.out 2).trans rfl
     have hcz15_3 : wc.cell? ⟨gb139, 3, none⟩ = some (.string (⟨#[]⟩ : ByteArray)) := (blk_cell BK139.out 3).trans rfl
     have hfz15_0 := blk_frozen BK139.out 0
     have hfz15_1 := blk_frozen BK139.out 1
     have hfz15_2 := blk_frozen BK139.out 2
     have hfz15_3 := blk_frozen BK139.out 3
     go_wp2
     refine bodyPost_ret (results_ct rfl _ _ gb139 28 #[.int .i64 0, .bool false, .string (⟨#[]⟩ : ByteArray), .string (⟨#[]⟩ : ByteArray)] (0, 0) _ rfl bk Tryd.underlying28 rfl (by kernel_rfl)) rfl ?_
     exact ⟨by first | rfl | (simp [errW_none, errW_some] <;> rfl) | (simp [*, errW_none, errW_some] <;> rfl) | ((generalize ByteArray.toList _ = z_); cases z_ <;> first | rfl | (simp; done)), bl⟩
    ·replace c14 := Bool.eq_false_iff.mpr c14
     subst c14
     have H1 : ((strings_TrimRight.f (a1 ++ a2) (⟨#[48]⟩ : ByteArray)).bind fun t142 => ((big_Add.f kj5 a3 (wrap64 ((wrap64 (((a1 ++ a2).size : Int) - (t142.size : Int))) - (a2.size : Int)))).bind fun t143 => ((strings_TrimLeft.f t142 (⟨#[48]⟩ : ByteArray)).bind fun t144 => (if t144.toList = ([] : List UInt8) then ((dec_nought.f a0).bind fun bt145 => (some (bt145.1, bt145.2.1, bt145.2.2.1, bt145.2.2.2, true))) else (some (0, a0, t144, t143, true)))))) = some (r1, r2, r3, r4, r5) := by rw [if_neg (show ¬ (false = true) by decide)] at H; exact H
     clear H
     have H := H1
     clear H1
     replace H := Option.bind_eq_some_iff.mp H
     obtain ⟨t142, A160, H⟩ := H
     replace H : ((big_Add.f kj5 a3 (wrap64 ((wrap64 (((a1 ++ a2).size : Int) - (t142.size : Int))) - (a2.size : Int)))).bind fun t143 => ((strings_TrimLeft.f t142 (⟨#[48]⟩ : ByteArray)).bind fun t144 => (if t144.toList = ([] : List UInt8) then ((dec_nought.f a0).bind fun bt145 => (some (bt145.1, bt145.2.1, bt145.2.2.1, bt145.2.2.2, true))) else (some (0, a0, t144, t143, true))))) = some (r1, r2, r3, r4, r5) := H
     have A16 := Aside0.mk A160
     clear A160
     replace H := Option.bind_eq_some_iff.mp H
     obtain ⟨t143, A170, H⟩ := H
     replace H : ((strings_TrimLeft.f t142 (⟨#[48]⟩ : ByteArray)).bind fun t144 => (if t144.toList = ([] : List UInt8) then ((dec_nought.f a0).bind fun bt145 => (some (bt145.1, bt145.2.1, bt145.2.2.1, bt145.2.2.2, true))) else (some (0, a0, t144, t143, true)))) = some (r1, r2, r3, r4, r5) := H
     have A17 := Aside0.mk A170
     try (have A17z := Aside0.mk A17.out; rw [show wrap64 (((a1.size : Int) + (a2.size : Int)) - (t142.size : Int)) = ((a1.size : Int) + (a2.size : Int)) - (t142.size : Int) from by first | omega | (unfold wrap64; omega) | ((try have hc5_ := c5; try simp only [ByteArray.size_append] at hc5_); unfold wrap64; omega)] at A17z; rw [show wrap64 (((((a1.size : Int) + (a2.size : Int)) - (t142.size : Int))) - (a2.size : Int)) = ((((a1.size : Int) + (a2.size : Int)) - (t142.size : Int))) - (a2.size : Int) from by first | omega | (unfold wrap64; omega) | ((try have hc5_ := c5; try simp only [ByteArray.size_append] at hc5_); unfold wrap64; omega)] at A17z)
     (try simp only [ByteArray.size_append, Int.natCast_add] at A17)
     clear A170
     replace H := Option.bind_eq_some_iff.mp H
     obtain ⟨t144, A180, H⟩ := H
     replace H : (if t144.toList = ([] : List UInt8) then ((dec_nought.f a0).bind fun bt145 => (some (bt145.1, bt145.2.1, bt145.2.2.1, bt145.2.2.2, true))) else (some (0, a0, t144, t143, true))) = some (r1, r2, r3, r4, r5) := H
     have A18 := Aside0.mk A180
     clear A180
     by_cases c19 : t144.toList = ([] : List UInt8)
     ·rw [if_pos c19] at H
      have c19b0 : (t144.toList == ([] : List UInt8)) = true := beq_iff_eq.mpr c19
      have c19b1 : (t144.toList != ([] : List UInt8)) = false := bne_eq_false_iff_eq.mpr c19
      clear c19
      replace H := Option.bind_eq_some_iff.mp H
      obtain ⟨⟨t145, t146, t147, t148⟩, A200, H⟩ := H
      replace H : (some (t145, t146, t147, t148, true)) = some (r1, r2, r3, r4, r5) := H
      have A20 := Aside0.mk A200
      clear A200
      simp only [Option.some.injEq, Prod.mk.injEq] at H
      obtain ⟨rfl, rfl, rfl, rfl, rfl⟩ := H
      go_wp2_with (first | ((with_reducible refine gate_callee (f := 51) rfl ?_); refine goesL_ (some 29) rfl rfl Tryd.func51 (by kernel_rfl) rfl #[.string (a1 ++ a2), .string (⟨#[48]⟩ : ByteArray)] rfl (by (try simp only [List.map_toArray, List.map_cons, List.map_nil]); first | done | rfl | (simp only [List.length_drop, List.length_take]; rfl)) ?_; (with_reducible refine (strings_TrimRight.calls (a1 ++ a2) (⟨#[48]⟩ : ByteArray) t142 _ A16.out).mono ?_); rintro e w21 ⟨rfl, hb⟩; refine ⟨_, rfl, ?_⟩; have n0_ := Aside0.mk (blk_below (g := gb139) (o := .cells #[.int .i64 0, .bool false, .string (⟨#[]⟩ : ByteArray), .string (⟨#[]⟩ : ByteArray)] 28 (0, 0)) bk hb); have n1_ := Aside0.mk (below_step bl hb); clear BK139; clear HB; have BK139 := n0_; have HB := n1_; clear n0_ n1_; (try clear hb); (try clear hb2); (try clear hk); (try clear hi)) | ((with_reducible refine gate_callee (f := 52) rfl ?_); refine goesL_ (some 39) rfl rfl Tryd.func52 (by kernel_rfl) rfl #[.string a3, .int .i64 (wrap64 ((wrap64 (((a1.size : Int) + (a2.size : Int)) - (t142.size : Int))) - (a2.size : Int)))] rfl (by (try simp only [List.map_toArray, List.map_cons, List.map_nil]); first | done | rfl | (simp only [List.length_drop, List.length_take]; rfl)) ?_; (with_reducible refine (big_Add.calls kj5 a3 (wrap64 ((wrap64 (((a1.size : Int) + (a2.size : Int)) - (t142.size : Int))) - (a2.size : Int))) t143 _ ?side1 A17.out).mono ?_); (case side1 => exact Go.Proofs.YtbjlcipamdgnjaaDoor.Room.PowTab_below HG.out bl); rintro e w22 ⟨rfl, hb⟩; refine ⟨_, rfl, ?_⟩; have n0_ := Aside0.mk (blk_below (g := gb139) (o := .cells #[.int .i64 0, .bool false, .string (⟨#[]⟩ : ByteArray), .string (⟨#[]⟩ : ByteArray)] 28 (0, 0)) bk hb); have n1_ := Aside0.mk (below_step bl hb); clear BK139; clear HB; have BK139 := n0_; have HB := n1_; clear n0_ n1_; (try clear hb); (try clear hb2); (try clear hk); (try clear hi)) | ((with_reducible refine gate_callee (f := 52) rfl ?_); refine goesL_ (some 39) rfl rfl Tryd.func52 (by kernel_rfl) rfl #[.string a3, .int .i64 ((((((a1.size : Int) + (a2.size : Int)) - (t142.size : Int))) - (a2.size : Int)))] rfl (by (try simp only [List.map_toArray, List.map_cons, List.map_nil]); first | done | rfl | (simp only [List.length_drop, List.length_take]; rfl)) ?_; (with_reducible refine (big_Add.calls kj5 a3 ((((((a1.size : Int) + (a2.size : Int)) - (t142.size : Int))) - (a2.size : Int))) t143 _ ?side1 A17z.out).mono ?_); (case side1 => exact Go.Proofs.YtbjlcipamdgnjaaDoor.Room.PowTab_below HG.out bl); rintro e w22 ⟨rfl, hb⟩; refine ⟨_, rfl, ?_⟩; have n0_ := Aside0.mk (blk_below (g := gb139) (o := .cells #[.int .i64 0, .bool false, .string (⟨#[]⟩ : ByteArray), .string (⟨#[]⟩ : ByteArray)] 28 (0, 0)) bk hb); have n1_ := Aside0.mk (below_step bl hb); clear BK139; clear HB; have BK139 := n0_; have HB := n1_; clear n0_ n1_; (try clear hb); (try clear hb2); (try clear hk); (try clear hi)) | ((with_reducible refine gate_callee (f := 46) rfl ?_); refine goesL_ (some 41) rfl rfl Tryd.func46 (by kernel_rfl) rfl #[.string t142, .string (⟨#[48]⟩ : ByteArray)] rfl (by (try simp only [List.map_toArray, List.map_cons, List.map_nil]); first | done | rfl | (simp only [List.length_drop, List.length_take]; rfl)) ?_; (with_reducible refine (strings_TrimLeft.calls t142 (⟨#[48]⟩ : ByteArray) t144 _ A18.out).mono ?_); rintro e w23 ⟨rfl, hb⟩; refine ⟨_, rfl, ?_⟩; have n0_ := Aside0.mk (blk_below (g := gb139) (o := .cells #[.int .i64 0, .bool false, .string (⟨#[]⟩ : ByteArray), .string (⟨#[]⟩ : ByteArray)] 28 (0, 0)) bk hb); have n1_ := Aside0.mk (below_step bl hb); clear BK139; clear HB; have BK139 := n0_; have HB := n1_; clear n0_ n1_; (try clear hb); (try clear hb2); (try clear hk); (try clear hi)) | ((with_reducible refine gate_callee (f := 53) rfl ?_); refine goesL_ (some 45) rfl rfl Tryd.func53 (by kernel_rfl) rfl #[.bool a0] rfl (by (try simp only [List.map_toArray, List.map_cons, List.map_nil]); first | done | rfl | (simp only [List.length_drop, List.length_take]; rfl)) ?_; (with_reducible refine (dec_nought.calls a0 t145 t146 t147 t148 _ A20.out).mono ?_); rintro e w24 ⟨rfl, hb⟩; refine ⟨_, rfl, ?_⟩; have n0_ := Aside0.mk (blk_below (g := gb139) (o := .cells #[.int .i64 0, .bool false, .string (⟨#[]⟩ : ByteArray), .string (⟨#[]⟩ : ByteArray)] 28 (0, 0)) bk hb); have n1_ := Aside0.mk (below_step bl hb); clear BK139; clear HB; have BK139 := n0_; have HB := n1_; clear n0_ n1_; (try clear hb); (try clear hb2); (try clear hk); (try clear hi); have hcz25_0 : w24.cell? ⟨gb139, 0, none⟩ = some (.int .i64 0) := (blk_cell BK139.out 0).trans rfl; have hcz25_1 : w24.cell? ⟨gb139, 1, none⟩ = some (.bool false) := (blk_cell BK139.out 1).trans rfl; have hcz25_2 : w24.cell? ⟨gb139, 2, none⟩ = some (.string (⟨#[]⟩ : ByteArray)) := (blk_cell BK139.out 2).trans rfl; have hcz25_3 : w24.cell? ⟨gb139, 3, none⟩ = some (.string (⟨#[]⟩ : ByteArray)) := (blk_cell BK139.out 3).trans rfl; have hfz25_0 := blk_frozen BK139.out 0; have hfz25_1 := blk_frozen BK139.out 1; have hfz25_2 := blk_frozen BK139.out 2; have hfz25_3 := blk_frozen BK139.out 3))
      refine bodyPost_ret (results_ct rfl _ _ gb139 28 #[.int .i64 t145, .bool t146, .string t147, .string t148] (0, 0) _ rfl bk Tryd.underlying28 rfl (by kernel_rfl)) rfl ?_
      exact ⟨by first | rfl | (simp [errW_none, errW_some] <;> rfl) | (simp [*, errW_none, errW_some] <;> rfl) | ((generalize ByteArray.toList _ = z_); cases z_ <;> first | rfl | (simp; done)), bl⟩
     ·rw [if_neg c19] at H
      have c19b0 : (t144.toList == ([] : List UInt8)) = false := beq_eq_false_iff_ne.mpr c19
      have c19b1 : (t144.toList != ([] : List UInt8)) = true := bne_iff_ne.mpr c19
      simp only [Option.some.injEq, Prod.mk.injEq] at H
      obtain ⟨rfl, rfl, rfl, rfl, rfl⟩ := H
      go_wp2_with (first | ((with_reducible refine gate_callee (f := 51) rfl ?_); refine goesL_ (some 29) rfl rfl Tryd.func51 (by kernel_rfl) rfl #[.string (a1 ++ a2), .string (⟨#[48]⟩ : ByteArray)] rfl (by (try simp only [List.map_toArray, List.map_cons, List.map_nil]); first | done | rfl | (simp only [List.length_drop, List.length_take]; rfl)) ?_; (with_reducible refine (strings_TrimRight.calls (a1 ++ a2) (⟨#[48]⟩ : ByteArray) t142 _ A16.out).mono ?_); rintro e w26 ⟨rfl, hb⟩; refine ⟨_, rfl, ?_⟩; have n0_ := Aside0.mk (blk_below (g := gb139) (o := .cells #[.int .i64 0, .bool false, .string (⟨#[]⟩ : ByteArray), .string (⟨#[]⟩ : ByteArray)] 28 (0, 0)) bk hb); have n1_ := Aside0.mk (below_step bl hb); clear BK139; clear HB; have BK139 := n0_; have HB := n1_; clear n0_ n1_; (try clear hb); (try clear hb2); (try clear hk); (try clear hi)) | ((with_reducible refine gate_callee (f := 52) rfl ?_); refine goesL_ (some 39) rfl rfl Tryd.func52 (by kernel_rfl) rfl #[.string a3, .int .i64 (wrap64 ((wrap64 (((a1.size : Int) + (a2.size : Int)) - (t142.size : Int))) - (a2.size : Int)))] rfl (by (try simp only [List.map_toArray, List.map_cons, List.map_nil]); first | done | rfl | (simp only [List.length_drop, List.length_take]; rfl)) ?_; (with_reducible refine (big_Add.calls kj5 a3 (wrap64 ((wrap64 (((a1.size : Int) + (a2.size : Int)) - (t142.size : Int))) - (a2.size : Int))) t143 _ ?side1 A17.out).mono ?_); (case side1 => exact Go.Proofs.YtbjlcipamdgnjaaDoor.Room.PowTab_below HG.out bl); rintro e w27 ⟨rfl, hb⟩; refine ⟨_, rfl, ?_⟩; have n0_ := Aside0.mk (blk_below (g := gb139) (o := .cells #[.int .i64 0, .bool false, .string (⟨#[]⟩ : ByteArray), .string (⟨#[]⟩ : ByteArray)] 28 (0, 0)) bk hb); have n1_ := Aside0.mk (below_step bl hb); clear BK139; clear HB; have BK139 := n0_; have HB := n1_; clear n0_ n1_; (try clear hb); (try clear hb2); (try clear hk); (try clear hi)) | ((with_reducible refine gate_callee (f := 52) rfl ?_); refine goesL_ (some 39) rfl rfl Tryd.func52 (by kernel_rfl) rfl #[.string a3, .int .i64 ((((((a1.size : Int) + (a2.size : Int)) - (t142.size : Int))) - (a2.size : Int)))] rfl (by (try simp only [List.map_toArray, List.map_cons, List.map_nil]); first | done | rfl | (simp only [List.length_drop, List.length_take]; rfl)) ?_; (with_reducible refine (big_Add.calls kj5 a3 ((((((a1.size : Int) + (a2.size : Int)) - (t142.size : Int))) - (a2.size : Int))) t143 _ ?side1 A17z.out).mono ?_); (case side1 => exact Go.Proofs.YtbjlcipamdgnjaaDoor.Room.PowTab_below HG.out bl); rintro e w27 ⟨rfl, hb⟩; refine ⟨_, rfl, ?_⟩; have n0_ := Aside0.mk (blk_below (g := gb139) (o := .cells #[.int .i64 0, .bool false, .string (⟨#[]⟩ : ByteArray), .string (⟨#[]⟩ : ByteArray)] 28 (0, 0)) bk hb); have n1_ := Aside0.mk (below_step bl hb); clear BK139; clear HB; have BK139 := n0_; have HB := n1_; clear n0_ n1_; (try clear hb); (try clear hb2); (try clear hk); (try clear hi)) | ((with_reducible refine gate_callee (f := 46) rfl ?_); refine goesL_ (some 41) rfl rfl Tryd.func46 (by kernel_rfl) rfl #[.string t142, .string (⟨#[48]⟩ : ByteArray)] rfl (by (try simp only [List.map_toArray, List.map_cons, List.map_nil]); first | done | rfl | (simp only [List.length_drop, List.length_take]; rfl)) ?_; (with_reducible refine (strings_TrimLeft.calls t142 (⟨#[48]⟩ : ByteArray) t144 _ A18.out).mono ?_); rintro e w28 ⟨rfl, hb⟩; refine ⟨_, rfl, ?_⟩; have n0_ := Aside0.mk (blk_below (g := gb139) (o := .cells #[.int .i64 0, .bool false, .string (⟨#[]⟩ : ByteArray), .string (⟨#[]⟩ : ByteArray)] 28 (0, 0)) bk hb); have n1_ := Aside0.mk (below_step bl hb); clear BK139; clear HB; have BK139 := n0_; have HB := n1_; clear n0_ n1_; (try clear hb); (try clear hb2); (try clear hk); (try clear hi); have hcz29_0 : w28.cell? ⟨gb139, 0, none⟩ = some (.int .i64 0) := (blk_cell BK139.out 0).trans rfl; have hcz29_1 : w28.cell? ⟨gb139, 1, none⟩ = some (.bool false) := (blk_cell BK139.out 1).trans rfl; have hcz29_2 : w28.cell? ⟨gb139, 2, none⟩ = some (.string (⟨#[]⟩ : ByteArray)) := (blk_cell BK139.out 2).trans rfl; have hcz29_3 : w28.cell? ⟨gb139, 3, none⟩ = some (.string (⟨#[]⟩ : ByteArray)) := (blk_cell BK139.out 3).trans rfl; have hfz29_0 := blk_frozen BK139.out 0; have hfz29_1 := blk_frozen BK139.out 1; have hfz29_2 := blk_frozen BK139.out 2; have hfz29_3 := blk_frozen BK139.out 3))
      refine bodyPost_ret (results_ct rfl _ _ gb139 28 #[.int .i64 0, .bool a0, .string t144, .string t143] (0, 0) _ rfl bk Tryd.underlying28 rfl (by kernel_rfl)) rfl ?_
      exact ⟨by first | rfl | (simp [errW_none, errW_some] <;> rfl) | (simp [*, errW_none, errW_some] <;> rfl) | ((generalize ByteArray.toList _ = z_); cases z_ <;> first | rfl | (simp; done)), bl⟩
 ·rw [if_neg c5] at H
  exact absurd H (by simp)

end Go.Proofs.YtbjlcipamdgnjaaDoor.PN
