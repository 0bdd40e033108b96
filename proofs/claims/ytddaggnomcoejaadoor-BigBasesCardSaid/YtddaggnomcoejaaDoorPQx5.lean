/- Written by this session's own program (xprint, made over the kit's print): Lean functions with the same answers as the Go functions, and the proofs of that. Not trusted: Lean checks it. -/
import Derived.Test.YtddaggnomcoejaaDoorPQx0
import Derived.Test.YtddaggnomcoejaaDoorPQx1
import Derived.Test.YtddaggnomcoejaaDoorPQx2
import Derived.Test.YtddaggnomcoejaaDoorPQx3
namespace Go.Proofs.YtddaggnomcoejaaDoor.PQ
open Go.RowKit Go.Proofs.YtddaggnomcoejaaDoorW.PrintWords Go.Proofs.YtddaggnomcoejaaDoorW.PrintLast Go.Proofs.YtddaggnomcoejaaDoorW.PrintMore
attribute [local go_sem] max2_int min2_int max_two min_two max_three min_three max_four min_four   -- for this text's walks alone
set_option linter.unusedVariables false
set_option linter.unusedSimpArgs false

/-! ### targumlaw4_BigBases: function 6 -/
mutual
def targumlaw4_BigBases.l0 : Nat → Int → Bool → ByteArray → ByteArray → ByteArray → Int → Option (Bool)
  | 0, _, _, _, _, _, _ => none
  | k + 1, x0, x1, x5, x6, x7, x8 => if x8 < 64 then (if 0 ≤ (IntKind.u64.wrap (x8)) then ((some (([(IntKind.u64.wrap (48 + (Go.bits .and .u64 (shr .u64 x0 (IntKind.u64.wrap (x8))) 1))) % 256] : List Int) : List Int)).bind fun y185 => (if (strOfNums y185).size + x5.size ≤ 9223372036854775807 then (targumlaw4_BigBases.l0 k x0 x1 ((strOfNums y185) ++ x5) x6 x7 (wrap64 (x8 + 1))) else (none))) else (none)) else (targumlaw4_BigBases.l1 k x0 x1 x5 x6 x7 0)
def targumlaw4_BigBases.l1 : Nat → Int → Bool → ByteArray → ByteArray → ByteArray → Int → Option (Bool)
  | 0, _, _, _, _, _, _ => none
  | k + 1, x0, x1, x5, x6, x7, x9 => if x9 < 22 then (if 0 ≤ (IntKind.u64.wrap (wrap64 (3 * x9))) then ((some (([(IntKind.u64.wrap (48 + (Go.bits .and .u64 (shr .u64 x0 (IntKind.u64.wrap (wrap64 (3 * x9)))) 7))) % 256] : List Int) : List Int)).bind fun y188 => (if (strOfNums y188).size + x6.size ≤ 9223372036854775807 then (targumlaw4_BigBases.l1 k x0 x1 x5 ((strOfNums y188) ++ x6) x7 (wrap64 (x9 + 1))) else (none))) else (none)) else (targumlaw4_BigBases.l2 k x0 x1 x5 x6 x7 0)
def targumlaw4_BigBases.l2 : Nat → Int → Bool → ByteArray → ByteArray → ByteArray → Int → Option (Bool)
  | 0, _, _, _, _, _, _ => none
  | k + 1, x0, x1, x5, x6, x7, x10 => if x10 < 16 then (if 0 ≤ (IntKind.u64.wrap (wrap64 (4 * x10))) then (if ((Go.bits .and .u64 (shr .u64 x0 (IntKind.u64.wrap (wrap64 (4 * x10)))) 15) % 256) > 9 then (if x1 = true then ((some (([(((65 + ((Go.bits .and .u64 (shr .u64 x0 (IntKind.u64.wrap (wrap64 (4 * x10)))) 15) % 256)) % 256) - 10) % 256] : List Int) : List Int)).bind fun y191 => (if (strOfNums y191).size + x7.size ≤ 9223372036854775807 then (targumlaw4_BigBases.l2 k x0 x1 x5 x6 ((strOfNums y191) ++ x7) (wrap64 (x10 + 1))) else (none))) else ((some (([(((97 + ((Go.bits .and .u64 (shr .u64 x0 (IntKind.u64.wrap (wrap64 (4 * x10)))) 15) % 256)) % 256) - 10) % 256] : List Int) : List Int)).bind fun y194 => (if (strOfNums y194).size + x7.size ≤ 9223372036854775807 then (targumlaw4_BigBases.l2 k x0 x1 x5 x6 ((strOfNums y194) ++ x7) (wrap64 (x10 + 1))) else (none)))) else ((some (([(48 + ((Go.bits .and .u64 (shr .u64 x0 (IntKind.u64.wrap (wrap64 (4 * x10)))) 15) % 256)) % 256] : List Int) : List Int)).bind fun y197 => (if (strOfNums y197).size + x7.size ≤ 9223372036854775807 then (targumlaw4_BigBases.l2 k x0 x1 x5 x6 ((strOfNums y197) ++ x7) (wrap64 (x10 + 1))) else (none)))) else (none)) else ((big_Base.f k x5 2).bind fun t200 => ((big_Add.f k (⟨#[48]⟩ : ByteArray) (wrap64 (x0 / 4294967296))).bind fun t201 => ((big_MulAdd.f k t201 4294967296 0).bind fun t202 => ((big_Add.f k t202 (wrap64 (Go.bits .and .u64 x0 4294967295))).bind fun t203 => (if t200.toList = ([] : List UInt8) then (some false) else ((big_Base.f k x6 8).bind fun t204 => (if t200.toList = t204.toList then ((big_Base.f k x7 16).bind fun t205 => (if t200.toList = t205.toList then (some (t200.toList == t203.toList)) else (some false))) else (some false))))))))
end
def targumlaw4_BigBases.f (k : Nat) (a0 : Int) (a1 : Bool) : Option (Bool) := (targumlaw4_known.f k).bind fun t184 => (if t184 = true then (targumlaw4_BigBases.l0 k a0 a1 (⟨#[]⟩ : ByteArray) (⟨#[]⟩ : ByteArray) (⟨#[]⟩ : ByteArray) 0) else (some false))
theorem targumlaw4_BigBases.mono_l : ∀ k, (∀ y0 y1 y2 y3 y4 y5, LeO (targumlaw4_BigBases.l0 k y0 y1 y2 y3 y4 y5) (targumlaw4_BigBases.l0 (k + 1) y0 y1 y2 y3 y4 y5)) ∧ (∀ y0 y1 y2 y3 y4 y5, LeO (targumlaw4_BigBases.l1 k y0 y1 y2 y3 y4 y5) (targumlaw4_BigBases.l1 (k + 1) y0 y1 y2 y3 y4 y5)) ∧ (∀ y0 y1 y2 y3 y4 y5, LeO (targumlaw4_BigBases.l2 k y0 y1 y2 y3 y4 y5) (targumlaw4_BigBases.l2 (k + 1) y0 y1 y2 y3 y4 y5))
  | 0 => ⟨fun _ _ _ _ _ _ r h => by simp [targumlaw4_BigBases.l0] at h, fun _ _ _ _ _ _ r h => by simp [targumlaw4_BigBases.l1] at h, fun _ _ _ _ _ _ r h => by simp [targumlaw4_BigBases.l2] at h⟩
  | k + 1 => by
    obtain ⟨ih0, ih1, ih2⟩ := targumlaw4_BigBases.mono_l k
    refine ⟨?_, ?_, ?_⟩
    · intro y0 y1 y2 y3 y4 y5
      unfold targumlaw4_BigBases.l0
      repeat' first
      | (with_reducible exact ih0 _ _ _ _ _ _)
      | (with_reducible exact ih1 _ _ _ _ _ _)
      | (with_reducible exact ih2 _ _ _ _ _ _)
      | (with_reducible exact big_Add.mono _ _ _)
      | (with_reducible exact big_Base.mono _ _ _)
      | (with_reducible exact big_MulAdd.mono _ _ _ _)
      | (with_reducible exact targumlaw4_known.mono _)
      | (with_reducible exact LeO.refl _)
      | (with_reducible exact LeO.none _)
      | (with_reducible refine LeO.ite ?_ ?_)
      | (with_reducible refine LeO.bind ?_ (fun _ => ?_))
      | exact ih0 _ _ _ _ _ _
      | exact ih1 _ _ _ _ _ _
      | exact ih2 _ _ _ _ _ _
      | exact big_Add.mono _ _ _
      | exact big_Base.mono _ _ _
      | exact big_MulAdd.mono _ _ _ _
      | exact targumlaw4_known.mono _
      | exact LeO.none _
      | refine LeO.ite ?_ ?_
      | refine LeO.bind ?_ (fun _ => ?_)
    · intro y0 y1 y2 y3 y4 y5
      unfold targumlaw4_BigBases.l1
      repeat' first
      | (with_reducible exact ih0 _ _ _ _ _ _)
      | (with_reducible exact ih1 _ _ _ _ _ _)
      | (with_reducible exact ih2 _ _ _ _ _ _)
      | (with_reducible exact big_Add.mono _ _ _)
      | (with_reducible exact big_Base.mono _ _ _)
      | (with_reducible exact big_MulAdd.mono _ _ _ _)
      | (with_reducible exact targumlaw4_known.mono _)
      | (with_reducible exact LeO.refl _)
      | (with_reducible exact LeO.none _)
      | (with_reducible refine LeO.ite ?_ ?_)
      | (with_reducible refine LeO.bind ?_ (fun _ => ?_))
      | exact ih0 _ _ _ _ _ _
      | exact ih1 _ _ _ _ _ _
      | exact ih2 _ _ _ _ _ _
      | exact big_Add.mono _ _ _
      | exact big_Base.mono _ _ _
      | exact big_MulAdd.mono _ _ _ _
      | exact targumlaw4_known.mono _
      | exact LeO.none _
      | refine LeO.ite ?_ ?_
      | refine LeO.bind ?_ (fun _ => ?_)
    · intro y0 y1 y2 y3 y4 y5
      unfold targumlaw4_BigBases.l2
      repeat' first
      | (with_reducible exact ih0 _ _ _ _ _ _)
      | (with_reducible exact ih1 _ _ _ _ _ _)
      | (with_reducible exact ih2 _ _ _ _ _ _)
      | (with_reducible exact big_Add.mono _ _ _)
      | (with_reducible exact big_Base.mono _ _ _)
      | (with_reducible exact big_MulAdd.mono _ _ _ _)
      | (with_reducible exact targumlaw4_known.mono _)
      | (with_reducible exact LeO.refl _)
      | (with_reducible exact LeO.none _)
      | (with_reducible refine LeO.ite ?_ ?_)
      | (with_reducible refine LeO.bind ?_ (fun _ => ?_))
      | exact ih0 _ _ _ _ _ _
      | exact ih1 _ _ _ _ _ _
      | exact ih2 _ _ _ _ _ _
      | exact big_Add.mono _ _ _
      | exact big_Base.mono _ _ _
      | exact big_MulAdd.mono _ _ _ _
      | exact targumlaw4_known.mono _
      | exact LeO.none _
      | refine LeO.ite ?_ ?_
      | refine LeO.bind ?_ (fun _ => ?_)
theorem targumlaw4_BigBases.mono : ∀ a0 a1 k, LeO (targumlaw4_BigBases.f k a0 a1) (targumlaw4_BigBases.f (k + 1) a0 a1) := by
  intro a0 a1 k
  obtain ⟨ih0, ih1, ih2⟩ := targumlaw4_BigBases.mono_l k
  unfold targumlaw4_BigBases.f
  repeat' first
      | (with_reducible exact ih0 _ _ _ _ _ _)
      | (with_reducible exact ih1 _ _ _ _ _ _)
      | (with_reducible exact ih2 _ _ _ _ _ _)
      | (with_reducible exact big_Add.mono _ _ _)
      | (with_reducible exact big_Base.mono _ _ _)
      | (with_reducible exact big_MulAdd.mono _ _ _ _)
      | (with_reducible exact targumlaw4_known.mono _)
      | (with_reducible exact LeO.refl _)
      | (with_reducible exact LeO.none _)
      | (with_reducible refine LeO.ite ?_ ?_)
      | (with_reducible refine LeO.bind ?_ (fun _ => ?_))
      | exact ih0 _ _ _ _ _ _
      | exact ih1 _ _ _ _ _ _
      | exact ih2 _ _ _ _ _ _
      | exact big_Add.mono _ _ _
      | exact big_Base.mono _ _ _
      | exact big_MulAdd.mono _ _ _ _
      | exact targumlaw4_known.mono _
      | exact LeO.none _
      | refine LeO.ite ?_ ?_
      | refine LeO.bind ?_ (fun _ => ?_)
set_option maxHeartbeats 8000000 in
set_option maxRecDepth 100000 in
theorem targumlaw4_BigBases.calls (k : Nat) (a0 : Int) (a1 : Bool) (r : Bool) (w : World) (hG : Go.Proofs.YtddaggnomcoejaaDoor.Room.PowTab w) (h : targumlaw4_BigBases.f k a0 a1 = some r) :
    Calls Tryd.prog 6 #[.int .u64 a0, .bool a1] w fun e w' => e = .returned (.bool r) ∧ Below w.heap.size w w' := by
  have HG := Aside0.mk hG
  clear hG
  have HB := Aside0.mk (Below.refl w.heap.size w)
  have H : ((targumlaw4_known.f k).bind fun t184 => (if t184 = true then (targumlaw4_BigBases.l0 k a0 a1 (⟨#[]⟩ : ByteArray) (⟨#[]⟩ : ByteArray) (⟨#[]⟩ : ByteArray) 0) else (some false))) = some r := h
  clear h
  replace H := Option.bind_eq_some_iff.mp H
  obtain ⟨t184, A30, H⟩ := H
  replace H : (if t184 = true then (targumlaw4_BigBases.l0 k a0 a1 (⟨#[]⟩ : ByteArray) (⟨#[]⟩ : ByteArray) (⟨#[]⟩ : ByteArray) 0) else (some false)) = some r := H
  have A3 := Aside0.mk A30
  clear A30
  by_cases c4 : t184 = true
  · subst c4
    have H1 : (targumlaw4_BigBases.l0 k a0 a1 (⟨#[]⟩ : ByteArray) (⟨#[]⟩ : ByteArray) (⟨#[]⟩ : ByteArray) 0) = some r := by rw [if_pos rfl] at H; exact H
    clear H
    have H := H1
    clear H1
    have H' := Aside0.mk H
    clear H
    go_enter Tryd.func6, Tryd.ntmps6
    go_wp2_with (first | ((with_reducible refine gate_callee (f := 14) rfl ?_); refine goesL_ (some 15) rfl rfl Tryd.func14 (by kernel_rfl) rfl #[] rfl (by (try simp only [List.map_toArray, List.map_cons, List.map_nil]); first | done | rfl | (simp only [List.length_drop, List.length_take]; rfl)) ?_; (with_reducible refine (targumlaw4_known.calls k  true _ ?side1 A3.out).mono ?_); (case side1 => exact Go.Proofs.YtddaggnomcoejaaDoor.Room.PowTab_below HG.out (by repeat (first | (with_reducible first | exact HB.out | apply below_alloc | apply pw_below_drewN | apply below_drew1) | exact HB.out))); rintro e w5 ⟨rfl, hb⟩; refine ⟨_, rfl, ?_⟩; have n0_ := Aside0.mk (below_step (by repeat (first | (with_reducible first | exact HB.out | apply below_alloc | apply pw_below_drewN | apply below_drew1) | exact HB.out)) hb); clear HB; have HB := n0_; clear n0_; (try clear hb); (try clear hb2); (try clear hk); (try clear hi)))
    go_loopg [5, 8] k (fun kq v5 v8 w' => ∃ (x5_1 : ByteArray) (x8_1 : Int), v5 = .string x5_1 ∧ v8 = .int .i64 x8_1 ∧ Aside0 (targumlaw4_BigBases.l0 kq a0 a1 x5_1 (⟨#[]⟩ : ByteArray) (⟨#[]⟩ : ByteArray) x8_1 = some r) ∧ Aside0 (kq ≤ k) ∧ Aside0 (Below w.heap.size w w'))
    case atStart => exact ⟨((⟨#[]⟩ : ByteArray)), (0), (by first | rfl | (simp; done) | (simp [*]; done) | (simp [wrap64]; done)), (by first | rfl | (simp; done) | (simp [*]; done) | (simp [wrap64]; done)), H', ⟨Nat.le_refl _⟩, ⟨by repeat (first | (with_reducible first | exact HB.out | apply below_alloc | apply pw_below_drewN | apply below_drew1) | exact HB.out)⟩⟩
    case round =>
      clear H'
      try clear c1
      try clear p2
      try clear c4
      obtain ⟨x5_1, x8_1, rfl, rfl, HA, HK1, HB⟩ := hrel
      cases gk with
      | zero => exact absurd HA.out (by simp [targumlaw4_BigBases.l0])
      | succ k1 =>
        have H := HA.out
        clear HA
        simp only [targumlaw4_BigBases.l0] at H
        by_cases c6 : x8_1 < 64
        · rw [if_pos c6] at H
          have c6b0 : decide (x8_1 < 64) = true := decide_eq_true c6
          clear c6
          obtain ⟨ji7, hji7⟩ : ∃ j_ : Int, (IntKind.u64.wrap (x8_1)) = j_ := ⟨_, rfl⟩
          replace H : (if 0 ≤ (ji7) then ((some (([(IntKind.u64.wrap (48 + (Go.bits .and .u64 (shr .u64 a0 (ji7)) 1))) % 256] : List Int) : List Int)).bind fun y185 => (if (strOfNums y185).size + x5_1.size ≤ 9223372036854775807 then (targumlaw4_BigBases.l0 k1 a0 a1 ((strOfNums y185) ++ x5_1) (⟨#[]⟩ : ByteArray) (⟨#[]⟩ : ByteArray) (wrap64 (x8_1 + 1))) else (none))) else (none)) = some r := by first | (rw [hji7] at H; exact H) | (simp only [hji7] at H ⊢; exact H)
          by_cases c8 : 0 ≤ (ji7)
          · rw [if_pos c8] at H
            have c8b0 := eq_true c8
            have c8b1 : decide (0 ≤ (ji7)) = true := decide_eq_true c8
            clear c8
            obtain ⟨ji9, hji9⟩ : ∃ j_ : Int, (shr .u64 a0 (ji7)) = j_ := ⟨_, rfl⟩
            replace H : ((some (([(IntKind.u64.wrap (48 + (Go.bits .and .u64 (ji9) 1))) % 256] : List Int) : List Int)).bind fun y185 => (if (strOfNums y185).size + x5_1.size ≤ 9223372036854775807 then (targumlaw4_BigBases.l0 k1 a0 a1 ((strOfNums y185) ++ x5_1) (⟨#[]⟩ : ByteArray) (⟨#[]⟩ : ByteArray) (wrap64 (x8_1 + 1))) else (none))) = some r := by first | (rw [hji9] at H; exact H) | (simp only [hji9] at H ⊢; exact H)
            have hji9_ : (a0 / 2 ^ min (ji7).toNat 64) = ji9 := hji9
            have hji9z : (ji7) ≤ 64 → (a0 / 2 ^ (ji7).toNat) = ji9 := shr_small hji9
            obtain ⟨y185, hy185⟩ : ∃ y_ : List Int, y_ = (([(IntKind.u64.wrap (48 + (Go.bits .and .u64 (ji9) 1))) % 256] : List Int)) := ⟨_, rfl⟩
            replace H : (if (strOfNums y185).size + x5_1.size ≤ 9223372036854775807 then (targumlaw4_BigBases.l0 k1 a0 a1 ((strOfNums y185) ++ x5_1) (⟨#[]⟩ : ByteArray) (⟨#[]⟩ : ByteArray) (wrap64 (x8_1 + 1))) else (none)) = some r := by first | (rw [hy185]; with_reducible exact H) | (have H2_ := (Option.bind_some _ _).symm.trans H; rw [hy185]; with_reducible exact H2_) | (have H2_ := (Option.bind_some _ _).symm.trans H; with_reducible exact H2_) | with_reducible exact H | (rw [hy185]; exact H) | exact H
            have Ny185 := Aside0.mk hy185
            clear hy185
            by_cases c10 : (strOfNums y185).size + x5_1.size ≤ 9223372036854775807
            · rw [if_pos c10] at H
              have c10b0 := eq_true c10
              have c10b1 : decide ((strOfNums y185).size + x5_1.size ≤ 9223372036854775807) = true := decide_eq_true c10
              try have c10b2 : (9223372036854775807 < (strOfNums y185).size + x5_1.size) = False := eq_false (Nat.not_lt.2 c10)
              have H' := Aside0.mk H
              clear H
              go_wp2_with (first | ((with_reducible refine gate_dst (N := 28) rfl ?_); refine Kd.R_lit (Kd.int .u8) _ 5 ?hg (N := 28) ?hd (xs := ([(IntKind.u64.wrap (48 + (Go.bits .and .u64 (ji9) 1))) % 256] : List Int)) (inner := [.int .u8 ((IntKind.u64.wrap (48 + (Go.bits .and .u64 (ji9) 1))) % 256)]) (ok := fun _ => True) (okp := fun _ => True) ?hr ?hp (fun _ hk => hk) trivial (Below.refl _ _) (Nat.le_refl _) (by simp) ?_; (case hd => rfl); (case hg => rfl); (case hr => first | (go_simp; done) | (go_simp; rfl)); (case hp => exact (Reps.one (show Kd.M (Kd.int .u8) _ _ _ ((IntKind.u64.wrap (48 + (Go.bits .and .u64 (ji9) 1))) % 256) [.int .u8 ((IntKind.u64.wrap (48 + (Go.bits .and .u64 (ji9) 1))) % 256)] from rfl) (Reps.none _ _))); intro v186 w11 ho12 hb hg_ hnew_; clear hg_ hnew_; (first | rw [← Ny185.out] at ho12 | (simp only [Int.reduceToNat] at ho12; rw [← Ny185.out] at ho12)); have n0_ := Aside0.mk (Kd.R_lower ho12 (below_size (by repeat (first | (with_reducible first | exact HB.out | apply below_alloc | apply pw_below_drewN | apply below_drew1) | exact HB.out)))); have n1_ := Aside0.mk (below_step (by repeat (first | (with_reducible first | exact HB.out | apply below_alloc | apply pw_below_drewN | apply below_drew1) | exact HB.out)) hb); clear HB; have HO187 := n0_; have HB := n1_; clear n0_ n1_; clear hb ho12; have hcv13 := own_string (P := Tryd.prog) Tryd.underlying31 Tryd.underlying5 Tryd.underlying9 (Kd.own_of_R HO187.out)))
              go_roundg k1
              case measure => have := HK1.out; omega
              case rel => exact ⟨((strOfNums y185) ++ x5_1), (wrap64 (x8_1 + 1)), (by first | rfl | (simp; done) | (simp [*]; done) | (simp [wrap64]; done)), (by first | rfl | (simp; done) | (simp [*]; done) | (simp [wrap64]; done)), H', ⟨by have := HK1.out; omega⟩, ⟨by repeat (first | (with_reducible first | exact HB.out | apply below_alloc | apply pw_below_drewN | apply below_drew1) | exact HB.out)⟩⟩
            · rw [if_neg c10] at H
              exact absurd H (by simp)
          · rw [if_neg c8] at H
            exact absurd H (by simp)
        · rw [if_neg c6] at H
          have c6b0 : decide (x8_1 < 64) = false := decide_eq_false c6
          clear c6
          have H' := Aside0.mk H
          clear H
          go_wp2
          go_loopg [6, 9] k1 (fun kq v6 v9 w' => ∃ (x6_2 : ByteArray) (x9_2 : Int), v6 = .string x6_2 ∧ v9 = .int .i64 x9_2 ∧ Aside0 (targumlaw4_BigBases.l1 kq a0 a1 x5_1 x6_2 (⟨#[]⟩ : ByteArray) x9_2 = some r) ∧ Aside0 (kq ≤ k1) ∧ Aside0 (Below w.heap.size w w'))
          case atStart => exact ⟨((⟨#[]⟩ : ByteArray)), (0), (by first | rfl | (simp; done) | (simp [*]; done) | (simp [wrap64]; done)), (by first | rfl | (simp; done) | (simp [*]; done) | (simp [wrap64]; done)), H', ⟨Nat.le_refl _⟩, ⟨by repeat (first | (with_reducible first | exact HB.out | apply below_alloc | apply pw_below_drewN | apply below_drew1) | exact HB.out)⟩⟩
          case round =>
            clear H'
            try clear c1
            try clear hcv1
            try clear p2
            try clear c4
            try clear c6
            try clear c6b0
            try clear p6
            try clear c8
            try clear c8b0
            try clear c8b1
            try clear c10
            try clear c10b0
            try clear c10b1
            try clear c10b2
            try clear hcv13
            try clear p2
            obtain ⟨x6_2, x9_2, rfl, rfl, HA, HK2, HB⟩ := hrel
            cases gk with
            | zero => exact absurd HA.out (by simp [targumlaw4_BigBases.l1])
            | succ k2 =>
              have H := HA.out
              clear HA
              simp only [targumlaw4_BigBases.l1] at H
              by_cases c14 : x9_2 < 22
              · rw [if_pos c14] at H
                have c14b0 : decide (x9_2 < 22) = true := decide_eq_true c14
                clear c14
                obtain ⟨ji15, hji15⟩ : ∃ j_ : Int, (IntKind.u64.wrap (wrap64 (3 * x9_2))) = j_ := ⟨_, rfl⟩
                replace H : (if 0 ≤ (ji15) then ((some (([(IntKind.u64.wrap (48 + (Go.bits .and .u64 (shr .u64 a0 (ji15)) 7))) % 256] : List Int) : List Int)).bind fun y188 => (if (strOfNums y188).size + x6_2.size ≤ 9223372036854775807 then (targumlaw4_BigBases.l1 k2 a0 a1 x5_1 ((strOfNums y188) ++ x6_2) (⟨#[]⟩ : ByteArray) (wrap64 (x9_2 + 1))) else (none))) else (none)) = some r := by first | (rw [hji15] at H; exact H) | (simp only [hji15] at H ⊢; exact H)
                by_cases c16 : 0 ≤ (ji15)
                · rw [if_pos c16] at H
                  have c16b0 := eq_true c16
                  have c16b1 : decide (0 ≤ (ji15)) = true := decide_eq_true c16
                  clear c16
                  obtain ⟨ji17, hji17⟩ : ∃ j_ : Int, (shr .u64 a0 (ji15)) = j_ := ⟨_, rfl⟩
                  replace H : ((some (([(IntKind.u64.wrap (48 + (Go.bits .and .u64 (ji17) 7))) % 256] : List Int) : List Int)).bind fun y188 => (if (strOfNums y188).size + x6_2.size ≤ 9223372036854775807 then (targumlaw4_BigBases.l1 k2 a0 a1 x5_1 ((strOfNums y188) ++ x6_2) (⟨#[]⟩ : ByteArray) (wrap64 (x9_2 + 1))) else (none))) = some r := by first | (rw [hji17] at H; exact H) | (simp only [hji17] at H ⊢; exact H)
                  have hji17_ : (a0 / 2 ^ min (ji15).toNat 64) = ji17 := hji17
                  have hji17z : (ji15) ≤ 64 → (a0 / 2 ^ (ji15).toNat) = ji17 := shr_small hji17
                  obtain ⟨y188, hy188⟩ : ∃ y_ : List Int, y_ = (([(IntKind.u64.wrap (48 + (Go.bits .and .u64 (ji17) 7))) % 256] : List Int)) := ⟨_, rfl⟩
                  replace H : (if (strOfNums y188).size + x6_2.size ≤ 9223372036854775807 then (targumlaw4_BigBases.l1 k2 a0 a1 x5_1 ((strOfNums y188) ++ x6_2) (⟨#[]⟩ : ByteArray) (wrap64 (x9_2 + 1))) else (none)) = some r := by first | (rw [hy188]; with_reducible exact H) | (have H2_ := (Option.bind_some _ _).symm.trans H; rw [hy188]; with_reducible exact H2_) | (have H2_ := (Option.bind_some _ _).symm.trans H; with_reducible exact H2_) | with_reducible exact H | (rw [hy188]; exact H) | exact H
                  have Ny188 := Aside0.mk hy188
                  clear hy188
                  by_cases c18 : (strOfNums y188).size + x6_2.size ≤ 9223372036854775807
                  · rw [if_pos c18] at H
                    have c18b0 := eq_true c18
                    have c18b1 : decide ((strOfNums y188).size + x6_2.size ≤ 9223372036854775807) = true := decide_eq_true c18
                    try have c18b2 : (9223372036854775807 < (strOfNums y188).size + x6_2.size) = False := eq_false (Nat.not_lt.2 c18)
                    have H' := Aside0.mk H
                    clear H
                    go_wp2_with (first | ((with_reducible refine gate_dst (N := 44) rfl ?_); refine Kd.R_lit (Kd.int .u8) _ 5 ?hg (N := 44) ?hd (xs := ([(IntKind.u64.wrap (48 + (Go.bits .and .u64 (ji17) 7))) % 256] : List Int)) (inner := [.int .u8 ((IntKind.u64.wrap (48 + (Go.bits .and .u64 (ji17) 7))) % 256)]) (ok := fun _ => True) (okp := fun _ => True) ?hr ?hp (fun _ hk => hk) trivial (Below.refl _ _) (Nat.le_refl _) (by simp) ?_; (case hd => rfl); (case hg => rfl); (case hr => first | (go_simp; done) | (go_simp; rfl)); (case hp => exact (Reps.one (show Kd.M (Kd.int .u8) _ _ _ ((IntKind.u64.wrap (48 + (Go.bits .and .u64 (ji17) 7))) % 256) [.int .u8 ((IntKind.u64.wrap (48 + (Go.bits .and .u64 (ji17) 7))) % 256)] from rfl) (Reps.none _ _))); intro v189 w19 ho20 hb hg_ hnew_; clear hg_ hnew_; (first | rw [← Ny188.out] at ho20 | (simp only [Int.reduceToNat] at ho20; rw [← Ny188.out] at ho20)); have n0_ := Aside0.mk (Kd.R_lower ho20 (below_size (by repeat (first | (with_reducible first | exact HB.out | apply below_alloc | apply pw_below_drewN | apply below_drew1) | exact HB.out)))); have n1_ := Aside0.mk (below_step (by repeat (first | (with_reducible first | exact HB.out | apply below_alloc | apply pw_below_drewN | apply below_drew1) | exact HB.out)) hb); clear HB; have HO190 := n0_; have HB := n1_; clear n0_ n1_; clear hb ho20; have hcv21 := own_string (P := Tryd.prog) Tryd.underlying31 Tryd.underlying5 Tryd.underlying9 (Kd.own_of_R HO190.out)))
                    go_roundg k2
                    case measure => have := HK1.out; have := HK2.out; omega
                    case rel => exact ⟨((strOfNums y188) ++ x6_2), (wrap64 (x9_2 + 1)), (by first | rfl | (simp; done) | (simp [*]; done) | (simp [wrap64]; done)), (by first | rfl | (simp; done) | (simp [*]; done) | (simp [wrap64]; done)), H', ⟨by have := HK1.out; have := HK2.out; omega⟩, ⟨by repeat (first | (with_reducible first | exact HB.out | apply below_alloc | apply pw_below_drewN | apply below_drew1) | exact HB.out)⟩⟩
                  · rw [if_neg c18] at H
                    exact absurd H (by simp)
                · rw [if_neg c16] at H
                  exact absurd H (by simp)
              · rw [if_neg c14] at H
                have c14b0 : decide (x9_2 < 22) = false := decide_eq_false c14
                clear c14
                have H' := Aside0.mk H
                clear H
                go_wp2
                go_loopg [7, 10] k2 (fun kq v7 v10 w' => ∃ (x7_3 : ByteArray) (x10_3 : Int), v7 = .string x7_3 ∧ v10 = .int .i64 x10_3 ∧ Aside0 (targumlaw4_BigBases.l2 kq a0 a1 x5_1 x6_2 x7_3 x10_3 = some r) ∧ Aside0 (kq ≤ k2) ∧ Aside0 (Below w.heap.size w w'))
                case atStart => exact ⟨((⟨#[]⟩ : ByteArray)), (0), (by first | rfl | (simp; done) | (simp [*]; done) | (simp [wrap64]; done)), (by first | rfl | (simp; done) | (simp [*]; done) | (simp [wrap64]; done)), H', ⟨Nat.le_refl _⟩, ⟨by repeat (first | (with_reducible first | exact HB.out | apply below_alloc | apply pw_below_drewN | apply below_drew1) | exact HB.out)⟩⟩
                case round =>
                  clear H'
                  try clear c1
                  try clear hcv1
                  try clear p2
                  try clear hcv2
                  try clear c4
                  try clear c6
                  try clear c6b0
                  try clear p6
                  try clear c8
                  try clear c8b0
                  try clear c8b1
                  try clear c10
                  try clear c10b0
                  try clear c10b1
                  try clear c10b2
                  try clear hcv13
                  try clear c14
                  try clear c14b0
                  try clear c16
                  try clear c16b0
                  try clear c16b1
                  try clear c18
                  try clear c18b0
                  try clear c18b1
                  try clear c18b2
                  try clear hcv21
                  try clear p2
                  try clear p6
                  obtain ⟨x7_3, x10_3, rfl, rfl, HA, HK3, HB⟩ := hrel
                  cases gk with
                  | zero => exact absurd HA.out (by simp [targumlaw4_BigBases.l2])
                  | succ k3 =>
                    have H := HA.out
                    clear HA
                    simp only [targumlaw4_BigBases.l2] at H
                    by_cases c22 : x10_3 < 16
                    · rw [if_pos c22] at H
                      have c22b0 : decide (x10_3 < 16) = true := decide_eq_true c22
                      clear c22
                      obtain ⟨ji23, hji23⟩ : ∃ j_ : Int, (IntKind.u64.wrap (wrap64 (4 * x10_3))) = j_ := ⟨_, rfl⟩
                      replace H : (if 0 ≤ (ji23) then (if ((Go.bits .and .u64 (shr .u64 a0 (ji23)) 15) % 256) > 9 then (if a1 = true then ((some (([(((65 + ((Go.bits .and .u64 (shr .u64 a0 (ji23)) 15) % 256)) % 256) - 10) % 256] : List Int) : List Int)).bind fun y191 => (if (strOfNums y191).size + x7_3.size ≤ 9223372036854775807 then (targumlaw4_BigBases.l2 k3 a0 a1 x5_1 x6_2 ((strOfNums y191) ++ x7_3) (wrap64 (x10_3 + 1))) else (none))) else ((some (([(((97 + ((Go.bits .and .u64 (shr .u64 a0 (ji23)) 15) % 256)) % 256) - 10) % 256] : List Int) : List Int)).bind fun y194 => (if (strOfNums y194).size + x7_3.size ≤ 9223372036854775807 then (targumlaw4_BigBases.l2 k3 a0 a1 x5_1 x6_2 ((strOfNums y194) ++ x7_3) (wrap64 (x10_3 + 1))) else (none)))) else ((some (([(48 + ((Go.bits .and .u64 (shr .u64 a0 (ji23)) 15) % 256)) % 256] : List Int) : List Int)).bind fun y197 => (if (strOfNums y197).size + x7_3.size ≤ 9223372036854775807 then (targumlaw4_BigBases.l2 k3 a0 a1 x5_1 x6_2 ((strOfNums y197) ++ x7_3) (wrap64 (x10_3 + 1))) else (none)))) else (none)) = some r := by first | (rw [hji23] at H; exact H) | (simp only [hji23] at H ⊢; exact H)
                      by_cases c24 : 0 ≤ (ji23)
                      · rw [if_pos c24] at H
                        have c24b0 := eq_true c24
                        have c24b1 : decide (0 ≤ (ji23)) = true := decide_eq_true c24
                        clear c24
                        obtain ⟨ji25, hji25⟩ : ∃ j_ : Int, (shr .u64 a0 (ji23)) = j_ := ⟨_, rfl⟩
                        replace H : (if ((Go.bits .and .u64 (ji25) 15) % 256) > 9 then (if a1 = true then ((some (([(((65 + ((Go.bits .and .u64 (ji25) 15) % 256)) % 256) - 10) % 256] : List Int) : List Int)).bind fun y191 => (if (strOfNums y191).size + x7_3.size ≤ 9223372036854775807 then (targumlaw4_BigBases.l2 k3 a0 a1 x5_1 x6_2 ((strOfNums y191) ++ x7_3) (wrap64 (x10_3 + 1))) else (none))) else ((some (([(((97 + ((Go.bits .and .u64 (ji25) 15) % 256)) % 256) - 10) % 256] : List Int) : List Int)).bind fun y194 => (if (strOfNums y194).size + x7_3.size ≤ 9223372036854775807 then (targumlaw4_BigBases.l2 k3 a0 a1 x5_1 x6_2 ((strOfNums y194) ++ x7_3) (wrap64 (x10_3 + 1))) else (none)))) else ((some (([(48 + ((Go.bits .and .u64 (ji25) 15) % 256)) % 256] : List Int) : List Int)).bind fun y197 => (if (strOfNums y197).size + x7_3.size ≤ 9223372036854775807 then (targumlaw4_BigBases.l2 k3 a0 a1 x5_1 x6_2 ((strOfNums y197) ++ x7_3) (wrap64 (x10_3 + 1))) else (none)))) = some r := by first | (rw [hji25] at H; exact H) | (simp only [hji25] at H ⊢; exact H)
                        have hji25_ : (a0 / 2 ^ min (ji23).toNat 64) = ji25 := hji25
                        have hji25z : (ji23) ≤ 64 → (a0 / 2 ^ (ji23).toNat) = ji25 := shr_small hji25
                        by_cases c26 : ((Go.bits .and .u64 (ji25) 15) % 256) > 9
                        · rw [if_pos c26] at H
                          have c26b0 : decide (9 < ((Go.bits .and .u64 (ji25) 15) % 256)) = true := decide_eq_true c26
                          clear c26
                          by_cases c27 : a1 = true
                          · subst c27
                            have H1 : ((some (([(((65 + ((Go.bits .and .u64 (ji25) 15) % 256)) % 256) - 10) % 256] : List Int) : List Int)).bind fun y191 => (if (strOfNums y191).size + x7_3.size ≤ 9223372036854775807 then (targumlaw4_BigBases.l2 k3 a0 true x5_1 x6_2 ((strOfNums y191) ++ x7_3) (wrap64 (x10_3 + 1))) else (none))) = some r := by rw [if_pos rfl] at H; exact H
                            clear H
                            have H := H1
                            clear H1
                            obtain ⟨y191, hy191⟩ : ∃ y_ : List Int, y_ = (([(((65 + ((Go.bits .and .u64 (ji25) 15) % 256)) % 256) - 10) % 256] : List Int)) := ⟨_, rfl⟩
                            replace H : (if (strOfNums y191).size + x7_3.size ≤ 9223372036854775807 then (targumlaw4_BigBases.l2 k3 a0 true x5_1 x6_2 ((strOfNums y191) ++ x7_3) (wrap64 (x10_3 + 1))) else (none)) = some r := by first | (rw [hy191]; with_reducible exact H) | (have H2_ := (Option.bind_some _ _).symm.trans H; rw [hy191]; with_reducible exact H2_) | (have H2_ := (Option.bind_some _ _).symm.trans H; with_reducible exact H2_) | with_reducible exact H | (rw [hy191]; exact H) | exact H
                            have Ny191 := Aside0.mk hy191
                            clear hy191
                            by_cases c28 : (strOfNums y191).size + x7_3.size ≤ 9223372036854775807
                            · rw [if_pos c28] at H
                              have c28b0 := eq_true c28
                              have c28b1 : decide ((strOfNums y191).size + x7_3.size ≤ 9223372036854775807) = true := decide_eq_true c28
                              try have c28b2 : (9223372036854775807 < (strOfNums y191).size + x7_3.size) = False := eq_false (Nat.not_lt.2 c28)
                              have H' := Aside0.mk H
                              clear H
                              go_wp2_with (first | ((with_reducible refine gate_dst (N := 71) rfl ?_); refine Kd.R_lit (Kd.int .u8) _ 5 ?hg (N := 71) ?hd (xs := ([(((65 + ((Go.bits .and .u64 (ji25) 15) % 256)) % 256) - 10) % 256] : List Int)) (inner := [.int .u8 ((((65 + ((Go.bits .and .u64 (ji25) 15) % 256)) % 256) - 10) % 256)]) (ok := fun _ => True) (okp := fun _ => True) ?hr ?hp (fun _ hk => hk) trivial (Below.refl _ _) (Nat.le_refl _) (by simp) ?_; (case hd => rfl); (case hg => rfl); (case hr => first | (go_simp; done) | (go_simp; rfl)); (case hp => exact (Reps.one (show Kd.M (Kd.int .u8) _ _ _ ((((65 + ((Go.bits .and .u64 (ji25) 15) % 256)) % 256) - 10) % 256) [.int .u8 ((((65 + ((Go.bits .and .u64 (ji25) 15) % 256)) % 256) - 10) % 256)] from rfl) (Reps.none _ _))); intro v192 w29 ho30 hb hg_ hnew_; clear hg_ hnew_; (first | rw [← Ny191.out] at ho30 | (simp only [Int.reduceToNat] at ho30; rw [← Ny191.out] at ho30)); have n0_ := Aside0.mk (Kd.R_lower ho30 (below_size (by repeat (first | (with_reducible first | exact HB.out | apply below_alloc | apply pw_below_drewN | apply below_drew1) | exact HB.out)))); have n1_ := Aside0.mk (below_step (by repeat (first | (with_reducible first | exact HB.out | apply below_alloc | apply pw_below_drewN | apply below_drew1) | exact HB.out)) hb); clear HB; have HO193 := n0_; have HB := n1_; clear n0_ n1_; clear hb ho30; have hcv31 := own_string (P := Tryd.prog) Tryd.underlying31 Tryd.underlying5 Tryd.underlying9 (Kd.own_of_R HO193.out)))
                              go_roundg k3
                              case measure => have := HK1.out; have := HK2.out; have := HK3.out; omega
                              case rel => exact ⟨((strOfNums y191) ++ x7_3), (wrap64 (x10_3 + 1)), (by first | rfl | (simp; done) | (simp [*]; done) | (simp [wrap64]; done)), (by first | rfl | (simp; done) | (simp [*]; done) | (simp [wrap64]; done)), H', ⟨by have := HK1.out; have := HK2.out; have := HK3.out; omega⟩, ⟨by repeat (first | (with_reducible first | exact HB.out | apply below_alloc | apply pw_below_drewN | apply below_drew1) | exact HB.out)⟩⟩
                            · rw [if_neg c28] at H
                              exact absurd H (by simp)
                          · replace c27 := Bool.eq_false_iff.mpr c27
                            subst c27
                            have H1 : ((some (([(((97 + ((Go.bits .and .u64 (ji25) 15) % 256)) % 256) - 10) % 256] : List Int) : List Int)).bind fun y194 => (if (strOfNums y194).size + x7_3.size ≤ 9223372036854775807 then (targumlaw4_BigBases.l2 k3 a0 false x5_1 x6_2 ((strOfNums y194) ++ x7_3) (wrap64 (x10_3 + 1))) else (none))) = some r := by rw [if_neg (show ¬ (false = true) by decide)] at H; exact H
                            clear H
                            have H := H1
                            clear H1
                            obtain ⟨y194, hy194⟩ : ∃ y_ : List Int, y_ = (([(((97 + ((Go.bits .and .u64 (ji25) 15) % 256)) % 256) - 10) % 256] : List Int)) := ⟨_, rfl⟩
                            replace H : (if (strOfNums y194).size + x7_3.size ≤ 9223372036854775807 then (targumlaw4_BigBases.l2 k3 a0 false x5_1 x6_2 ((strOfNums y194) ++ x7_3) (wrap64 (x10_3 + 1))) else (none)) = some r := by first | (rw [hy194]; with_reducible exact H) | (have H2_ := (Option.bind_some _ _).symm.trans H; rw [hy194]; with_reducible exact H2_) | (have H2_ := (Option.bind_some _ _).symm.trans H; with_reducible exact H2_) | with_reducible exact H | (rw [hy194]; exact H) | exact H
                            have Ny194 := Aside0.mk hy194
                            clear hy194
                            by_cases c32 : (strOfNums y194).size + x7_3.size ≤ 9223372036854775807
                            · rw [if_pos c32] at H
                              have c32b0 := eq_true c32
                              have c32b1 : decide ((strOfNums y194).size + x7_3.size ≤ 9223372036854775807) = true := decide_eq_true c32
                              try have c32b2 : (9223372036854775807 < (strOfNums y194).size + x7_3.size) = False := eq_false (Nat.not_lt.2 c32)
                              have H' := Aside0.mk H
                              clear H
                              go_wp2_with (first | ((with_reducible refine gate_dst (N := 71) rfl ?_); refine Kd.R_lit (Kd.int .u8) _ 5 ?hg (N := 71) ?hd (xs := ([(((97 + ((Go.bits .and .u64 (ji25) 15) % 256)) % 256) - 10) % 256] : List Int)) (inner := [.int .u8 ((((97 + ((Go.bits .and .u64 (ji25) 15) % 256)) % 256) - 10) % 256)]) (ok := fun _ => True) (okp := fun _ => True) ?hr ?hp (fun _ hk => hk) trivial (Below.refl _ _) (Nat.le_refl _) (by simp) ?_; (case hd => rfl); (case hg => rfl); (case hr => first | (go_simp; done) | (go_simp; rfl)); (case hp => exact (Reps.one (show Kd.M (Kd.int .u8) _ _ _ ((((97 + ((Go.bits .and .u64 (ji25) 15) % 256)) % 256) - 10) % 256) [.int .u8 ((((97 + ((Go.bits .and .u64 (ji25) 15) % 256)) % 256) - 10) % 256)] from rfl) (Reps.none _ _))); intro v195 w33 ho34 hb hg_ hnew_; clear hg_ hnew_; (first | rw [← Ny194.out] at ho34 | (simp only [Int.reduceToNat] at ho34; rw [← Ny194.out] at ho34)); have n0_ := Aside0.mk (Kd.R_lower ho34 (below_size (by repeat (first | (with_reducible first | exact HB.out | apply below_alloc | apply pw_below_drewN | apply below_drew1) | exact HB.out)))); have n1_ := Aside0.mk (below_step (by repeat (first | (with_reducible first | exact HB.out | apply below_alloc | apply pw_below_drewN | apply below_drew1) | exact HB.out)) hb); clear HB; have HO196 := n0_; have HB := n1_; clear n0_ n1_; clear hb ho34; have hcv35 := own_string (P := Tryd.prog) Tryd.underlying31 Tryd.underlying5 Tryd.underlying9 (Kd.own_of_R HO196.out)))
                              go_roundg k3
                              case measure => have := HK1.out; have := HK2.out; have := HK3.out; omega
                              case rel => exact ⟨((strOfNums y194) ++ x7_3), (wrap64 (x10_3 + 1)), (by first | rfl | (simp; done) | (simp [*]; done) | (simp [wrap64]; done)), (by first | rfl | (simp; done) | (simp [*]; done) | (simp [wrap64]; done)), H', ⟨by have := HK1.out; have := HK2.out; have := HK3.out; omega⟩, ⟨by repeat (first | (with_reducible first | exact HB.out | apply below_alloc | apply pw_below_drewN | apply below_drew1) | exact HB.out)⟩⟩
                            · rw [if_neg c32] at H
                              exact absurd H (by simp)
                        · rw [if_neg c26] at H
                          have c26b0 : decide (9 < ((Go.bits .and .u64 (ji25) 15) % 256)) = false := decide_eq_false c26
                          clear c26
                          obtain ⟨y197, hy197⟩ : ∃ y_ : List Int, y_ = (([(48 + ((Go.bits .and .u64 (ji25) 15) % 256)) % 256] : List Int)) := ⟨_, rfl⟩
                          replace H : (if (strOfNums y197).size + x7_3.size ≤ 9223372036854775807 then (targumlaw4_BigBases.l2 k3 a0 a1 x5_1 x6_2 ((strOfNums y197) ++ x7_3) (wrap64 (x10_3 + 1))) else (none)) = some r := by first | (rw [hy197]; with_reducible exact H) | (have H2_ := (Option.bind_some _ _).symm.trans H; rw [hy197]; with_reducible exact H2_) | (have H2_ := (Option.bind_some _ _).symm.trans H; with_reducible exact H2_) | with_reducible exact H | (rw [hy197]; exact H) | exact H
                          have Ny197 := Aside0.mk hy197
                          clear hy197
                          by_cases c36 : (strOfNums y197).size + x7_3.size ≤ 9223372036854775807
                          · rw [if_pos c36] at H
                            have c36b0 := eq_true c36
                            have c36b1 : decide ((strOfNums y197).size + x7_3.size ≤ 9223372036854775807) = true := decide_eq_true c36
                            try have c36b2 : (9223372036854775807 < (strOfNums y197).size + x7_3.size) = False := eq_false (Nat.not_lt.2 c36)
                            have H' := Aside0.mk H
                            clear H
                            go_wp2_with (first | ((with_reducible refine gate_dst (N := 71) rfl ?_); refine Kd.R_lit (Kd.int .u8) _ 5 ?hg (N := 71) ?hd (xs := ([(48 + ((Go.bits .and .u64 (ji25) 15) % 256)) % 256] : List Int)) (inner := [.int .u8 ((48 + ((Go.bits .and .u64 (ji25) 15) % 256)) % 256)]) (ok := fun _ => True) (okp := fun _ => True) ?hr ?hp (fun _ hk => hk) trivial (Below.refl _ _) (Nat.le_refl _) (by simp) ?_; (case hd => rfl); (case hg => rfl); (case hr => first | (go_simp; done) | (go_simp; rfl)); (case hp => exact (Reps.one (show Kd.M (Kd.int .u8) _ _ _ ((48 + ((Go.bits .and .u64 (ji25) 15) % 256)) % 256) [.int .u8 ((48 + ((Go.bits .and .u64 (ji25) 15) % 256)) % 256)] from rfl) (Reps.none _ _))); intro v198 w37 ho38 hb hg_ hnew_; clear hg_ hnew_; (first | rw [← Ny197.out] at ho38 | (simp only [Int.reduceToNat] at ho38; rw [← Ny197.out] at ho38)); have n0_ := Aside0.mk (Kd.R_lower ho38 (below_size (by repeat (first | (with_reducible first | exact HB.out | apply below_alloc | apply pw_below_drewN | apply below_drew1) | exact HB.out)))); have n1_ := Aside0.mk (below_step (by repeat (first | (with_reducible first | exact HB.out | apply below_alloc | apply pw_below_drewN | apply below_drew1) | exact HB.out)) hb); clear HB; have HO199 := n0_; have HB := n1_; clear n0_ n1_; clear hb ho38; have hcv39 := own_string (P := Tryd.prog) Tryd.underlying31 Tryd.underlying5 Tryd.underlying9 (Kd.own_of_R HO199.out)))
                            go_roundg k3
                            case measure => have := HK1.out; have := HK2.out; have := HK3.out; omega
                            case rel => exact ⟨((strOfNums y197) ++ x7_3), (wrap64 (x10_3 + 1)), (by first | rfl | (simp; done) | (simp [*]; done) | (simp [wrap64]; done)), (by first | rfl | (simp; done) | (simp [*]; done) | (simp [wrap64]; done)), H', ⟨by have := HK1.out; have := HK2.out; have := HK3.out; omega⟩, ⟨by repeat (first | (with_reducible first | exact HB.out | apply below_alloc | apply pw_below_drewN | apply below_drew1) | exact HB.out)⟩⟩
                          · rw [if_neg c36] at H
                            exact absurd H (by simp)
                      · rw [if_neg c24] at H
                        exact absurd H (by simp)
                    · rw [if_neg c22] at H
                      have c22b0 : decide (x10_3 < 16) = false := decide_eq_false c22
                      clear c22
                      replace H := Option.bind_eq_some_iff.mp H
                      obtain ⟨t200, A400, H⟩ := H
                      replace H : ((big_Add.f k3 (⟨#[48]⟩ : ByteArray) (wrap64 (a0 / 4294967296))).bind fun t201 => ((big_MulAdd.f k3 t201 4294967296 0).bind fun t202 => ((big_Add.f k3 t202 (wrap64 (Go.bits .and .u64 a0 4294967295))).bind fun t203 => (if t200.toList = ([] : List UInt8) then (some false) else ((big_Base.f k3 x6_2 8).bind fun t204 => (if t200.toList = t204.toList then ((big_Base.f k3 x7_3 16).bind fun t205 => (if t200.toList = t205.toList then (some (t200.toList == t203.toList)) else (some false))) else (some false))))))) = some r := H
                      have A40 := Aside0.mk A400
                      clear A400
                      replace H := Option.bind_eq_some_iff.mp H
                      obtain ⟨t201, A410, H⟩ := H
                      replace H : ((big_MulAdd.f k3 t201 4294967296 0).bind fun t202 => ((big_Add.f k3 t202 (wrap64 (Go.bits .and .u64 a0 4294967295))).bind fun t203 => (if t200.toList = ([] : List UInt8) then (some false) else ((big_Base.f k3 x6_2 8).bind fun t204 => (if t200.toList = t204.toList then ((big_Base.f k3 x7_3 16).bind fun t205 => (if t200.toList = t205.toList then (some (t200.toList == t203.toList)) else (some false))) else (some false)))))) = some r := H
                      have A41 := Aside0.mk A410
                      clear A410
                      replace H := Option.bind_eq_some_iff.mp H
                      obtain ⟨t202, A420, H⟩ := H
                      replace H : ((big_Add.f k3 t202 (wrap64 (Go.bits .and .u64 a0 4294967295))).bind fun t203 => (if t200.toList = ([] : List UInt8) then (some false) else ((big_Base.f k3 x6_2 8).bind fun t204 => (if t200.toList = t204.toList then ((big_Base.f k3 x7_3 16).bind fun t205 => (if t200.toList = t205.toList then (some (t200.toList == t203.toList)) else (some false))) else (some false))))) = some r := H
                      have A42 := Aside0.mk A420
                      clear A420
                      replace H := Option.bind_eq_some_iff.mp H
                      obtain ⟨t203, A430, H⟩ := H
                      replace H : (if t200.toList = ([] : List UInt8) then (some false) else ((big_Base.f k3 x6_2 8).bind fun t204 => (if t200.toList = t204.toList then ((big_Base.f k3 x7_3 16).bind fun t205 => (if t200.toList = t205.toList then (some (t200.toList == t203.toList)) else (some false))) else (some false)))) = some r := H
                      have A43 := Aside0.mk A430
                      clear A430
                      by_cases c44 : t200.toList = ([] : List UInt8)
                      · rw [if_pos c44] at H
                        have c44b0 : (t200.toList == ([] : List UInt8)) = true := beq_iff_eq.mpr c44
                        have c44b1 : (t200.toList != ([] : List UInt8)) = false := bne_eq_false_iff_eq.mpr c44
                        clear c44
                        obtain rfl := Option.some.inj H
                        go_wp2_with (first | ((with_reducible refine gate_callee (f := 19) rfl ?_); refine goesL_ (some 76) rfl rfl Tryd.func19 (by kernel_rfl) rfl #[.string x5_1, .int .i64 2] rfl (by (try simp only [List.map_toArray, List.map_cons, List.map_nil]); first | done | rfl | (simp only [List.length_drop, List.length_take]; rfl)) ?_; (with_reducible refine (big_Base.calls k3 x5_1 2 t200 _ ?side1 A40.out).mono ?_); (case side1 => exact Go.Proofs.YtddaggnomcoejaaDoor.Room.PowTab_below HG.out (by repeat (first | (with_reducible first | exact HB.out | apply below_alloc | apply pw_below_drewN | apply below_drew1) | exact HB.out))); rintro e w45 ⟨rfl, hb⟩; refine ⟨_, rfl, ?_⟩; have n0_ := Aside0.mk (below_step (by repeat (first | (with_reducible first | exact HB.out | apply below_alloc | apply pw_below_drewN | apply below_drew1) | exact HB.out)) hb); clear HB; have HB := n0_; clear n0_; (try clear hb); (try clear hb2); (try clear hk); (try clear hi)) | ((with_reducible refine gate_callee (f := 23) rfl ?_); refine goesL_ (some 80) rfl rfl Tryd.func23 (by kernel_rfl) rfl #[.string (⟨#[48]⟩ : ByteArray), .int .i64 (wrap64 (a0 / 4294967296))] rfl (by (try simp only [List.map_toArray, List.map_cons, List.map_nil]); first | done | rfl | (simp only [List.length_drop, List.length_take]; rfl)) ?_; (with_reducible refine (big_Add.calls k3 (⟨#[48]⟩ : ByteArray) (wrap64 (a0 / 4294967296)) t201 _ ?side1 A41.out).mono ?_); (case side1 => exact Go.Proofs.YtddaggnomcoejaaDoor.Room.PowTab_below HG.out (by repeat (first | (with_reducible first | exact HB.out | apply below_alloc | apply pw_below_drewN | apply below_drew1) | exact HB.out))); rintro e w46 ⟨rfl, hb⟩; refine ⟨_, rfl, ?_⟩; have n0_ := Aside0.mk (below_step (by repeat (first | (with_reducible first | exact HB.out | apply below_alloc | apply pw_below_drewN | apply below_drew1) | exact HB.out)) hb); clear HB; have HB := n0_; clear n0_; (try clear hb); (try clear hb2); (try clear hk); (try clear hi)) | ((with_reducible refine gate_callee (f := 21) rfl ?_); refine goesL_ (some 81) rfl rfl Tryd.func21 (by kernel_rfl) rfl #[.string t201, .int .i64 4294967296, .int .i64 0] rfl (by (try simp only [List.map_toArray, List.map_cons, List.map_nil]); first | done | rfl | (simp only [List.length_drop, List.length_take]; rfl)) ?_; (with_reducible refine (big_MulAdd.calls k3 t201 4294967296 0 t202 _ ?side1 A42.out).mono ?_); (case side1 => exact Go.Proofs.YtddaggnomcoejaaDoor.Room.PowTab_below HG.out (by repeat (first | (with_reducible first | exact HB.out | apply below_alloc | apply pw_below_drewN | apply below_drew1) | exact HB.out))); rintro e w47 ⟨rfl, hb⟩; refine ⟨_, rfl, ?_⟩; have n0_ := Aside0.mk (below_step (by repeat (first | (with_reducible first | exact HB.out | apply below_alloc | apply pw_below_drewN | apply below_drew1) | exact HB.out)) hb); clear HB; have HB := n0_; clear n0_; (try clear hb); (try clear hb2); (try clear hk); (try clear hi)) | ((with_reducible refine gate_callee (f := 23) rfl ?_); refine goesL_ (some 85) rfl rfl Tryd.func23 (by kernel_rfl) rfl #[.string t202, .int .i64 (wrap64 (Go.bits .and .u64 a0 4294967295))] rfl (by (try simp only [List.map_toArray, List.map_cons, List.map_nil]); first | done | rfl | (simp only [List.length_drop, List.length_take]; rfl)) ?_; (with_reducible refine (big_Add.calls k3 t202 (wrap64 (Go.bits .and .u64 a0 4294967295)) t203 _ ?side1 A43.out).mono ?_); (case side1 => exact Go.Proofs.YtddaggnomcoejaaDoor.Room.PowTab_below HG.out (by repeat (first | (with_reducible first | exact HB.out | apply below_alloc | apply pw_below_drewN | apply below_drew1) | exact HB.out))); rintro e w48 ⟨rfl, hb⟩; refine ⟨_, rfl, ?_⟩; have n0_ := Aside0.mk (below_step (by repeat (first | (with_reducible first | exact HB.out | apply below_alloc | apply pw_below_drewN | apply below_drew1) | exact HB.out)) hb); clear HB; have HB := n0_; clear n0_; (try clear hb); (try clear hb2); (try clear hk); (try clear hi)))
                        go_ret
                        exact ⟨by first | rfl | (simp [errW_none, errW_some] <;> rfl) | (simp [*, errW_none, errW_some] <;> rfl), by repeat (first | (with_reducible first | exact HB.out | apply below_alloc | apply pw_below_drewN | apply below_drew1) | exact HB.out)⟩
                      · rw [if_neg c44] at H
                        have c44b0 : (t200.toList == ([] : List UInt8)) = false := beq_eq_false_iff_ne.mpr c44
                        have c44b1 : (t200.toList != ([] : List UInt8)) = true := bne_iff_ne.mpr c44
                        replace H := Option.bind_eq_some_iff.mp H
                        obtain ⟨t204, A490, H⟩ := H
                        replace H : (if t200.toList = t204.toList then ((big_Base.f k3 x7_3 16).bind fun t205 => (if t200.toList = t205.toList then (some (t200.toList == t203.toList)) else (some false))) else (some false)) = some r := H
                        have A49 := Aside0.mk A490
                        clear A490
                        by_cases c50 : t200.toList = t204.toList
                        · rw [if_pos c50] at H
                          have c50b0 : (t200.toList == t204.toList) = true := beq_iff_eq.mpr c50
                          have c50b1 : (t200.toList != t204.toList) = false := bne_eq_false_iff_eq.mpr c50
                          clear c50
                          replace H := Option.bind_eq_some_iff.mp H
                          obtain ⟨t205, A510, H⟩ := H
                          replace H : (if t200.toList = t205.toList then (some (t200.toList == t203.toList)) else (some false)) = some r := H
                          have A51 := Aside0.mk A510
                          clear A510
                          by_cases c52 : t200.toList = t205.toList
                          · rw [if_pos c52] at H
                            have c52b0 : (t200.toList == t205.toList) = true := beq_iff_eq.mpr c52
                            have c52b1 : (t200.toList != t205.toList) = false := bne_eq_false_iff_eq.mpr c52
                            clear c52
                            obtain rfl := Option.some.inj H
                            go_wp2_with (first | ((with_reducible refine gate_callee (f := 19) rfl ?_); refine goesL_ (some 76) rfl rfl Tryd.func19 (by kernel_rfl) rfl #[.string x5_1, .int .i64 2] rfl (by (try simp only [List.map_toArray, List.map_cons, List.map_nil]); first | done | rfl | (simp only [List.length_drop, List.length_take]; rfl)) ?_; (with_reducible refine (big_Base.calls k3 x5_1 2 t200 _ ?side1 A40.out).mono ?_); (case side1 => exact Go.Proofs.YtddaggnomcoejaaDoor.Room.PowTab_below HG.out (by repeat (first | (with_reducible first | exact HB.out | apply below_alloc | apply pw_below_drewN | apply below_drew1) | exact HB.out))); rintro e w53 ⟨rfl, hb⟩; refine ⟨_, rfl, ?_⟩; have n0_ := Aside0.mk (below_step (by repeat (first | (with_reducible first | exact HB.out | apply below_alloc | apply pw_below_drewN | apply below_drew1) | exact HB.out)) hb); clear HB; have HB := n0_; clear n0_; (try clear hb); (try clear hb2); (try clear hk); (try clear hi)) | ((with_reducible refine gate_callee (f := 23) rfl ?_); refine goesL_ (some 80) rfl rfl Tryd.func23 (by kernel_rfl) rfl #[.string (⟨#[48]⟩ : ByteArray), .int .i64 (wrap64 (a0 / 4294967296))] rfl (by (try simp only [List.map_toArray, List.map_cons, List.map_nil]); first | done | rfl | (simp only [List.length_drop, List.length_take]; rfl)) ?_; (with_reducible refine (big_Add.calls k3 (⟨#[48]⟩ : ByteArray) (wrap64 (a0 / 4294967296)) t201 _ ?side1 A41.out).mono ?_); (case side1 => exact Go.Proofs.YtddaggnomcoejaaDoor.Room.PowTab_below HG.out (by repeat (first | (with_reducible first | exact HB.out | apply below_alloc | apply pw_below_drewN | apply below_drew1) | exact HB.out))); rintro e w54 ⟨rfl, hb⟩; refine ⟨_, rfl, ?_⟩; have n0_ := Aside0.mk (below_step (by repeat (first | (with_reducible first | exact HB.out | apply below_alloc | apply pw_below_drewN | apply below_drew1) | exact HB.out)) hb); clear HB; have HB := n0_; clear n0_; (try clear hb); (try clear hb2); (try clear hk); (try clear hi)) | ((with_reducible refine gate_callee (f := 21) rfl ?_); refine goesL_ (some 81) rfl rfl Tryd.func21 (by kernel_rfl) rfl #[.string t201, .int .i64 4294967296, .int .i64 0] rfl (by (try simp only [List.map_toArray, List.map_cons, List.map_nil]); first | done | rfl | (simp only [List.length_drop, List.length_take]; rfl)) ?_; (with_reducible refine (big_MulAdd.calls k3 t201 4294967296 0 t202 _ ?side1 A42.out).mono ?_); (case side1 => exact Go.Proofs.YtddaggnomcoejaaDoor.Room.PowTab_below HG.out (by repeat (first | (with_reducible first | exact HB.out | apply below_alloc | apply pw_below_drewN | apply below_drew1) | exact HB.out))); rintro e w55 ⟨rfl, hb⟩; refine ⟨_, rfl, ?_⟩; have n0_ := Aside0.mk (below_step (by repeat (first | (with_reducible first | exact HB.out | apply below_alloc | apply pw_below_drewN | apply below_drew1) | exact HB.out)) hb); clear HB; have HB := n0_; clear n0_; (try clear hb); (try clear hb2); (try clear hk); (try clear hi)) | ((with_reducible refine gate_callee (f := 23) rfl ?_); refine goesL_ (some 85) rfl rfl Tryd.func23 (by kernel_rfl) rfl #[.string t202, .int .i64 (wrap64 (Go.bits .and .u64 a0 4294967295))] rfl (by (try simp only [List.map_toArray, List.map_cons, List.map_nil]); first | done | rfl | (simp only [List.length_drop, List.length_take]; rfl)) ?_; (with_reducible refine (big_Add.calls k3 t202 (wrap64 (Go.bits .and .u64 a0 4294967295)) t203 _ ?side1 A43.out).mono ?_); (case side1 => exact Go.Proofs.YtddaggnomcoejaaDoor.Room.PowTab_below HG.out (by repeat (first | (with_reducible first | exact HB.out | apply below_alloc | apply pw_below_drewN | apply below_drew1) | exact HB.out))); rintro e w56 ⟨rfl, hb⟩; refine ⟨_, rfl, ?_⟩; have n0_ := Aside0.mk (below_step (by repeat (first | (with_reducible first | exact HB.out | apply below_alloc | apply pw_below_drewN | apply below_drew1) | exact HB.out)) hb); clear HB; have HB := n0_; clear n0_; (try clear hb); (try clear hb2); (try clear hk); (try clear hi)) | (go_at_call 19; (with_reducible refine (big_Base.calls k3 x6_2 8 t204 _ ?side1 A49.out).mono ?_); (case side1 => exact Go.Proofs.YtddaggnomcoejaaDoor.Room.PowTab_below HG.out (by repeat (first | (with_reducible first | exact HB.out | apply below_alloc | apply pw_below_drewN | apply below_drew1) | exact HB.out))); rintro e w57 ⟨rfl, hb⟩; have n0_ := Aside0.mk (below_step (by repeat (first | (with_reducible first | exact HB.out | apply below_alloc | apply pw_below_drewN | apply below_drew1) | exact HB.out)) hb); clear HB; have HB := n0_; clear n0_; (try clear hb); (try clear hb2); (try clear hk); (try clear hi)) | (go_at_call 19; (with_reducible refine (big_Base.calls k3 x7_3 16 t205 _ ?side1 A51.out).mono ?_); (case side1 => exact Go.Proofs.YtddaggnomcoejaaDoor.Room.PowTab_below HG.out (by repeat (first | (with_reducible first | exact HB.out | apply below_alloc | apply pw_below_drewN | apply below_drew1) | exact HB.out))); rintro e w58 ⟨rfl, hb⟩; have n0_ := Aside0.mk (below_step (by repeat (first | (with_reducible first | exact HB.out | apply below_alloc | apply pw_below_drewN | apply below_drew1) | exact HB.out)) hb); clear HB; have HB := n0_; clear n0_; (try clear hb); (try clear hb2); (try clear hk); (try clear hi)))
                            go_ret
                            exact ⟨by first | rfl | (simp [errW_none, errW_some] <;> rfl) | (simp [*, errW_none, errW_some] <;> rfl), by repeat (first | (with_reducible first | exact HB.out | apply below_alloc | apply pw_below_drewN | apply below_drew1) | exact HB.out)⟩
                          · rw [if_neg c52] at H
                            have c52b0 : (t200.toList == t205.toList) = false := beq_eq_false_iff_ne.mpr c52
                            have c52b1 : (t200.toList != t205.toList) = true := bne_iff_ne.mpr c52
                            obtain rfl := Option.some.inj H
                            go_wp2_with (first | ((with_reducible refine gate_callee (f := 19) rfl ?_); refine goesL_ (some 76) rfl rfl Tryd.func19 (by kernel_rfl) rfl #[.string x5_1, .int .i64 2] rfl (by (try simp only [List.map_toArray, List.map_cons, List.map_nil]); first | done | rfl | (simp only [List.length_drop, List.length_take]; rfl)) ?_; (with_reducible refine (big_Base.calls k3 x5_1 2 t200 _ ?side1 A40.out).mono ?_); (case side1 => exact Go.Proofs.YtddaggnomcoejaaDoor.Room.PowTab_below HG.out (by repeat (first | (with_reducible first | exact HB.out | apply below_alloc | apply pw_below_drewN | apply below_drew1) | exact HB.out))); rintro e w59 ⟨rfl, hb⟩; refine ⟨_, rfl, ?_⟩; have n0_ := Aside0.mk (below_step (by repeat (first | (with_reducible first | exact HB.out | apply below_alloc | apply pw_below_drewN | apply below_drew1) | exact HB.out)) hb); clear HB; have HB := n0_; clear n0_; (try clear hb); (try clear hb2); (try clear hk); (try clear hi)) | ((with_reducible refine gate_callee (f := 23) rfl ?_); refine goesL_ (some 80) rfl rfl Tryd.func23 (by kernel_rfl) rfl #[.string (⟨#[48]⟩ : ByteArray), .int .i64 (wrap64 (a0 / 4294967296))] rfl (by (try simp only [List.map_toArray, List.map_cons, List.map_nil]); first | done | rfl | (simp only [List.length_drop, List.length_take]; rfl)) ?_; (with_reducible refine (big_Add.calls k3 (⟨#[48]⟩ : ByteArray) (wrap64 (a0 / 4294967296)) t201 _ ?side1 A41.out).mono ?_); (case side1 => exact Go.Proofs.YtddaggnomcoejaaDoor.Room.PowTab_below HG.out (by repeat (first | (with_reducible first | exact HB.out | apply below_alloc | apply pw_below_drewN | apply below_drew1) | exact HB.out))); rintro e w60 ⟨rfl, hb⟩; refine ⟨_, rfl, ?_⟩; have n0_ := Aside0.mk (below_step (by repeat (first | (with_reducible first | exact HB.out | apply below_alloc | apply pw_below_drewN | apply below_drew1) | exact HB.out)) hb); clear HB; have HB := n0_; clear n0_; (try clear hb); (try clear hb2); (try clear hk); (try clear hi)) | ((with_reducible refine gate_callee (f := 21) rfl ?_); refine goesL_ (some 81) rfl rfl Tryd.func21 (by kernel_rfl) rfl #[.string t201, .int .i64 4294967296, .int .i64 0] rfl (by (try simp only [List.map_toArray, List.map_cons, List.map_nil]); first | done | rfl | (simp only [List.length_drop, List.length_take]; rfl)) ?_; (with_reducible refine (big_MulAdd.calls k3 t201 4294967296 0 t202 _ ?side1 A42.out).mono ?_); (case side1 => exact Go.Proofs.YtddaggnomcoejaaDoor.Room.PowTab_below HG.out (by repeat (first | (with_reducible first | exact HB.out | apply below_alloc | apply pw_below_drewN | apply below_drew1) | exact HB.out))); rintro e w61 ⟨rfl, hb⟩; refine ⟨_, rfl, ?_⟩; have n0_ := Aside0.mk (below_step (by repeat (first | (with_reducible first | exact HB.out | apply below_alloc | apply pw_below_drewN | apply below_drew1) | exact HB.out)) hb); clear HB; have HB := n0_; clear n0_; (try clear hb); (try clear hb2); (try clear hk); (try clear hi)) | ((with_reducible refine gate_callee (f := 23) rfl ?_); refine goesL_ (some 85) rfl rfl Tryd.func23 (by kernel_rfl) rfl #[.string t202, .int .i64 (wrap64 (Go.bits .and .u64 a0 4294967295))] rfl (by (try simp only [List.map_toArray, List.map_cons, List.map_nil]); first | done | rfl | (simp only [List.length_drop, List.length_take]; rfl)) ?_; (with_reducible refine (big_Add.calls k3 t202 (wrap64 (Go.bits .and .u64 a0 4294967295)) t203 _ ?side1 A43.out).mono ?_); (case side1 => exact Go.Proofs.YtddaggnomcoejaaDoor.Room.PowTab_below HG.out (by repeat (first | (with_reducible first | exact HB.out | apply below_alloc | apply pw_below_drewN | apply below_drew1) | exact HB.out))); rintro e w62 ⟨rfl, hb⟩; refine ⟨_, rfl, ?_⟩; have n0_ := Aside0.mk (below_step (by repeat (first | (with_reducible first | exact HB.out | apply below_alloc | apply pw_below_drewN | apply below_drew1) | exact HB.out)) hb); clear HB; have HB := n0_; clear n0_; (try clear hb); (try clear hb2); (try clear hk); (try clear hi)) | (go_at_call 19; (with_reducible refine (big_Base.calls k3 x6_2 8 t204 _ ?side1 A49.out).mono ?_); (case side1 => exact Go.Proofs.YtddaggnomcoejaaDoor.Room.PowTab_below HG.out (by repeat (first | (with_reducible first | exact HB.out | apply below_alloc | apply pw_below_drewN | apply below_drew1) | exact HB.out))); rintro e w63 ⟨rfl, hb⟩; have n0_ := Aside0.mk (below_step (by repeat (first | (with_reducible first | exact HB.out | apply below_alloc | apply pw_below_drewN | apply below_drew1) | exact HB.out)) hb); clear HB; have HB := n0_; clear n0_; (try clear hb); (try clear hb2); (try clear hk); (try clear hi)) | (go_at_call 19; (with_reducible refine (big_Base.calls k3 x7_3 16 t205 _ ?side1 A51.out).mono ?_); (case side1 => exact Go.Proofs.YtddaggnomcoejaaDoor.Room.PowTab_below HG.out (by repeat (first | (with_reducible first | exact HB.out | apply below_alloc | apply pw_below_drewN | apply below_drew1) | exact HB.out))); rintro e w64 ⟨rfl, hb⟩; have n0_ := Aside0.mk (below_step (by repeat (first | (with_reducible first | exact HB.out | apply below_alloc | apply pw_below_drewN | apply below_drew1) | exact HB.out)) hb); clear HB; have HB := n0_; clear n0_; (try clear hb); (try clear hb2); (try clear hk); (try clear hi)))
                            go_ret
                            exact ⟨by first | rfl | (simp [errW_none, errW_some] <;> rfl) | (simp [*, errW_none, errW_some] <;> rfl), by repeat (first | (with_reducible first | exact HB.out | apply below_alloc | apply pw_below_drewN | apply below_drew1) | exact HB.out)⟩
                        · rw [if_neg c50] at H
                          have c50b0 : (t200.toList == t204.toList) = false := beq_eq_false_iff_ne.mpr c50
                          have c50b1 : (t200.toList != t204.toList) = true := bne_iff_ne.mpr c50
                          obtain rfl := Option.some.inj H
                          go_wp2_with (first | ((with_reducible refine gate_callee (f := 19) rfl ?_); refine goesL_ (some 76) rfl rfl Tryd.func19 (by kernel_rfl) rfl #[.string x5_1, .int .i64 2] rfl (by (try simp only [List.map_toArray, List.map_cons, List.map_nil]); first | done | rfl | (simp only [List.length_drop, List.length_take]; rfl)) ?_; (with_reducible refine (big_Base.calls k3 x5_1 2 t200 _ ?side1 A40.out).mono ?_); (case side1 => exact Go.Proofs.YtddaggnomcoejaaDoor.Room.PowTab_below HG.out (by repeat (first | (with_reducible first | exact HB.out | apply below_alloc | apply pw_below_drewN | apply below_drew1) | exact HB.out))); rintro e w65 ⟨rfl, hb⟩; refine ⟨_, rfl, ?_⟩; have n0_ := Aside0.mk (below_step (by repeat (first | (with_reducible first | exact HB.out | apply below_alloc | apply pw_below_drewN | apply below_drew1) | exact HB.out)) hb); clear HB; have HB := n0_; clear n0_; (try clear hb); (try clear hb2); (try clear hk); (try clear hi)) | ((with_reducible refine gate_callee (f := 23) rfl ?_); refine goesL_ (some 80) rfl rfl Tryd.func23 (by kernel_rfl) rfl #[.string (⟨#[48]⟩ : ByteArray), .int .i64 (wrap64 (a0 / 4294967296))] rfl (by (try simp only [List.map_toArray, List.map_cons, List.map_nil]); first | done | rfl | (simp only [List.length_drop, List.length_take]; rfl)) ?_; (with_reducible refine (big_Add.calls k3 (⟨#[48]⟩ : ByteArray) (wrap64 (a0 / 4294967296)) t201 _ ?side1 A41.out).mono ?_); (case side1 => exact Go.Proofs.YtddaggnomcoejaaDoor.Room.PowTab_below HG.out (by repeat (first | (with_reducible first | exact HB.out | apply below_alloc | apply pw_below_drewN | apply below_drew1) | exact HB.out))); rintro e w66 ⟨rfl, hb⟩; refine ⟨_, rfl, ?_⟩; have n0_ := Aside0.mk (below_step (by repeat (first | (with_reducible first | exact HB.out | apply below_alloc | apply pw_below_drewN | apply below_drew1) | exact HB.out)) hb); clear HB; have HB := n0_; clear n0_; (try clear hb); (try clear hb2); (try clear hk); (try clear hi)) | ((with_reducible refine gate_callee (f := 21) rfl ?_); refine goesL_ (some 81) rfl rfl Tryd.func21 (by kernel_rfl) rfl #[.string t201, .int .i64 4294967296, .int .i64 0] rfl (by (try simp only [List.map_toArray, List.map_cons, List.map_nil]); first | done | rfl | (simp only [List.length_drop, List.length_take]; rfl)) ?_; (with_reducible refine (big_MulAdd.calls k3 t201 4294967296 0 t202 _ ?side1 A42.out).mono ?_); (case side1 => exact Go.Proofs.YtddaggnomcoejaaDoor.Room.PowTab_below HG.out (by repeat (first | (with_reducible first | exact HB.out | apply below_alloc | apply pw_below_drewN | apply below_drew1) | exact HB.out))); rintro e w67 ⟨rfl, hb⟩; refine ⟨_, rfl, ?_⟩; have n0_ := Aside0.mk (below_step (by repeat (first | (with_reducible first | exact HB.out | apply below_alloc | apply pw_below_drewN | apply below_drew1) | exact HB.out)) hb); clear HB; have HB := n0_; clear n0_; (try clear hb); (try clear hb2); (try clear hk); (try clear hi)) | ((with_reducible refine gate_callee (f := 23) rfl ?_); refine goesL_ (some 85) rfl rfl Tryd.func23 (by kernel_rfl) rfl #[.string t202, .int .i64 (wrap64 (Go.bits .and .u64 a0 4294967295))] rfl (by (try simp only [List.map_toArray, List.map_cons, List.map_nil]); first | done | rfl | (simp only [List.length_drop, List.length_take]; rfl)) ?_; (with_reducible refine (big_Add.calls k3 t202 (wrap64 (Go.bits .and .u64 a0 4294967295)) t203 _ ?side1 A43.out).mono ?_); (case side1 => exact Go.Proofs.YtddaggnomcoejaaDoor.Room.PowTab_below HG.out (by repeat (first | (with_reducible first | exact HB.out | apply below_alloc | apply pw_below_drewN | apply below_drew1) | exact HB.out))); rintro e w68 ⟨rfl, hb⟩; refine ⟨_, rfl, ?_⟩; have n0_ := Aside0.mk (below_step (by repeat (first | (with_reducible first | exact HB.out | apply below_alloc | apply pw_below_drewN | apply below_drew1) | exact HB.out)) hb); clear HB; have HB := n0_; clear n0_; (try clear hb); (try clear hb2); (try clear hk); (try clear hi)) | (go_at_call 19; (with_reducible refine (big_Base.calls k3 x6_2 8 t204 _ ?side1 A49.out).mono ?_); (case side1 => exact Go.Proofs.YtddaggnomcoejaaDoor.Room.PowTab_below HG.out (by repeat (first | (with_reducible first | exact HB.out | apply below_alloc | apply pw_below_drewN | apply below_drew1) | exact HB.out))); rintro e w69 ⟨rfl, hb⟩; have n0_ := Aside0.mk (below_step (by repeat (first | (with_reducible first | exact HB.out | apply below_alloc | apply pw_below_drewN | apply below_drew1) | exact HB.out)) hb); clear HB; have HB := n0_; clear n0_; (try clear hb); (try clear hb2); (try clear hk); (try clear hi)))
                          go_ret
                          exact ⟨by first | rfl | (simp [errW_none, errW_some] <;> rfl) | (simp [*, errW_none, errW_some] <;> rfl), by repeat (first | (with_reducible first | exact HB.out | apply below_alloc | apply pw_below_drewN | apply below_drew1) | exact HB.out)⟩
  · replace c4 := Bool.eq_false_iff.mpr c4
    subst c4
    have H1 : (some false) = some r := by rw [if_neg (show ¬ (false = true) by decide)] at H; exact H
    clear H
    have H := H1
    clear H1
    obtain rfl := Option.some.inj H
    go_enter Tryd.func6, Tryd.ntmps6
    go_wp2_with (first | ((with_reducible refine gate_callee (f := 14) rfl ?_); refine goesL_ (some 15) rfl rfl Tryd.func14 (by kernel_rfl) rfl #[] rfl (by (try simp only [List.map_toArray, List.map_cons, List.map_nil]); first | done | rfl | (simp only [List.length_drop, List.length_take]; rfl)) ?_; (with_reducible refine (targumlaw4_known.calls k  false _ ?side1 A3.out).mono ?_); (case side1 => exact Go.Proofs.YtddaggnomcoejaaDoor.Room.PowTab_below HG.out (by repeat (first | (with_reducible first | exact HB.out | apply below_alloc | apply pw_below_drewN | apply below_drew1) | exact HB.out))); rintro e w70 ⟨rfl, hb⟩; refine ⟨_, rfl, ?_⟩; have n0_ := Aside0.mk (below_step (by repeat (first | (with_reducible first | exact HB.out | apply below_alloc | apply pw_below_drewN | apply below_drew1) | exact HB.out)) hb); clear HB; have HB := n0_; clear n0_; (try clear hb); (try clear hb2); (try clear hk); (try clear hi)))
    go_ret
    exact ⟨by first | rfl | (simp [errW_none, errW_some] <;> rfl) | (simp [*, errW_none, errW_some] <;> rfl), by repeat (first | (with_reducible first | exact HB.out | apply below_alloc | apply pw_below_drewN | apply below_drew1) | exact HB.out)⟩

/-- THE ONE PURE STATEMENT of targumlaw4_BigBases: yours. -/
def targumlaw4_BigBases.Pure : Prop := ∀ (a0 : Int) (a1 : Bool), (Lit.int .u64 a0).wf = true → ∃ k, targumlaw4_BigBases.f k a0 a1 = some true
theorem targumlaw4_BigBases.walk (P : targumlaw4_BigBases.Pure) (a0 : Int) (a1 : Bool) (w : World) (w0 : (Lit.int .u64 a0).wf = true) (hG : Go.Proofs.YtddaggnomcoejaaDoor.Room.PowTab w) :
    Calls Tryd.prog 6 #[.int .u64 a0, .bool a1] w fun e w' => e = .returned (.bool true) ∧ Below w.heap.size w w' := by
  obtain ⟨k, h⟩ := P a0 a1 w0
  refine (targumlaw4_BigBases.calls k a0 a1 true w hG h).mono ?_
  rintro e w' ⟨rfl, hd⟩
  exact ⟨rfl, hd⟩

/-! ### targumlaw4_BigTimes: function 7 -/
mutual
def targumlaw4_BigTimes.j0 : Nat → ByteArray → Int → Int → Int → Bool → Option (Bool)
  | 0, _, _, _, _, _ => none
  | k + 1, x0, x1, x2, x3, x23 => if x23 = true then (some true) else ((targumlaw4_digits.f k x0).bind fun t207 => ((big_Norm.f k false t207).bind fun t208 => ((big_Add.f k (⟨#[48]⟩ : ByteArray) (wrap64 (x2))).bind fun t209 => ((big_Add.f k (⟨#[48]⟩ : ByteArray) (wrap64 (x3))).bind fun t210 => (targumlaw4_BigTimes.l0 k x1 x2 x3 t208 t209 t210 0)))))
def targumlaw4_BigTimes.l0 : Nat → Int → Int → Int → ByteArray → ByteArray → ByteArray → Int → Option (Bool)
  | 0, _, _, _, _, _, _, _ => none
  | k + 1, x1, x2, x3, x9, x10, x11, x12 => if x12 < (wrap64 (Int.tmod x1 20)) then ((big_Add.f k x10 (wrap64 (x3))).bind fun t211 => (targumlaw4_BigTimes.l0 k x1 x2 x3 x9 t211 x11 (wrap64 (x12 + 1)))) else ((big_Add.f k x9 (wrap64 (x3))).bind fun t212 => ((big_MulAdd.f k x11 (wrap64 (Int.tmod x1 20)) (wrap64 (x2))).bind fun t213 => (if t213.toList = x10.toList then ((big_MulAdd.f k t212 (wrap64 (x1)) (wrap64 (x2))).bind fun t214 => ((big_MulAdd.f k x9 (wrap64 (x1)) (wrap64 (x2))).bind fun t215 => ((big_Add.f k t215 (wrap64 ((wrap64 (x3)) * (wrap64 (x1))))).bind fun t216 => (if t214.toList = t216.toList then ((big_MulAdd.f k x9 1 0).bind fun t217 => (if t217.toList = x9.toList then ((big_MulAdd.f k x9 0 (wrap64 (x2))).bind fun t218 => ((big_Add.f k (⟨#[48]⟩ : ByteArray) (wrap64 (x2))).bind fun t219 => (some (t218.toList == t219.toList)))) else (some false))) else (some false))))) else (some false))))
end
def targumlaw4_BigTimes.f (k : Nat) (a0 : ByteArray) (a1 : Int) (a2 : Int) (a3 : Int) : Option (Bool) := (targumlaw4_known.f k).bind fun t206 => (if t206 = true then (if (a0.size : Int) < 1 then (targumlaw4_BigTimes.j0 k a0 a1 a2 a3 true) else (targumlaw4_BigTimes.j0 k a0 a1 a2 a3 (decide ((a0.size : Int) > 40)))) else (some false))
theorem targumlaw4_BigTimes.mono_l : ∀ k, (∀ y0 y1 y2 y3 y4, LeO (targumlaw4_BigTimes.j0 k y0 y1 y2 y3 y4) (targumlaw4_BigTimes.j0 (k + 1) y0 y1 y2 y3 y4)) ∧ (∀ y0 y1 y2 y3 y4 y5 y6, LeO (targumlaw4_BigTimes.l0 k y0 y1 y2 y3 y4 y5 y6) (targumlaw4_BigTimes.l0 (k + 1) y0 y1 y2 y3 y4 y5 y6))
  | 0 => ⟨fun _ _ _ _ _ r h => by simp [targumlaw4_BigTimes.j0] at h, fun _ _ _ _ _ _ _ r h => by simp [targumlaw4_BigTimes.l0] at h⟩
  | k + 1 => by
    obtain ⟨ih0, ih1⟩ := targumlaw4_BigTimes.mono_l k
    refine ⟨?_, ?_⟩
    · intro y0 y1 y2 y3 y4
      unfold targumlaw4_BigTimes.j0
      repeat' first
      | (with_reducible exact ih0 _ _ _ _ _)
      | (with_reducible exact ih1 _ _ _ _ _ _ _)
      | (with_reducible exact big_Add.mono _ _ _)
      | (with_reducible exact big_MulAdd.mono _ _ _ _)
      | (with_reducible exact big_Norm.mono _ _ _)
      | (with_reducible exact targumlaw4_digits.mono _ _)
      | (with_reducible exact targumlaw4_known.mono _)
      | (with_reducible exact LeO.refl _)
      | (with_reducible exact LeO.none _)
      | (with_reducible refine LeO.ite ?_ ?_)
      | (with_reducible refine LeO.bind ?_ (fun _ => ?_))
      | exact ih0 _ _ _ _ _
      | exact ih1 _ _ _ _ _ _ _
      | exact big_Add.mono _ _ _
      | exact big_MulAdd.mono _ _ _ _
      | exact big_Norm.mono _ _ _
      | exact targumlaw4_digits.mono _ _
      | exact targumlaw4_known.mono _
      | exact LeO.none _
      | refine LeO.ite ?_ ?_
      | refine LeO.bind ?_ (fun _ => ?_)
    · intro y0 y1 y2 y3 y4 y5 y6
      unfold targumlaw4_BigTimes.l0
      repeat' first
      | (with_reducible exact ih0 _ _ _ _ _)
      | (with_reducible exact ih1 _ _ _ _ _ _ _)
      | (with_reducible exact big_Add.mono _ _ _)
      | (with_reducible exact big_MulAdd.mono _ _ _ _)
      | (with_reducible exact big_Norm.mono _ _ _)
      | (with_reducible exact targumlaw4_digits.mono _ _)
      | (with_reducible exact targumlaw4_known.mono _)
      | (with_reducible exact LeO.refl _)
      | (with_reducible exact LeO.none _)
      | (with_reducible refine LeO.ite ?_ ?_)
      | (with_reducible refine LeO.bind ?_ (fun _ => ?_))
      | exact ih0 _ _ _ _ _
      | exact ih1 _ _ _ _ _ _ _
      | exact big_Add.mono _ _ _
      | exact big_MulAdd.mono _ _ _ _
      | exact big_Norm.mono _ _ _
      | exact targumlaw4_digits.mono _ _
      | exact targumlaw4_known.mono _
      | exact LeO.none _
      | refine LeO.ite ?_ ?_
      | refine LeO.bind ?_ (fun _ => ?_)
theorem targumlaw4_BigTimes.mono : ∀ a0 a1 a2 a3 k, LeO (targumlaw4_BigTimes.f k a0 a1 a2 a3) (targumlaw4_BigTimes.f (k + 1) a0 a1 a2 a3) := by
  intro a0 a1 a2 a3 k
  obtain ⟨ih0, ih1⟩ := targumlaw4_BigTimes.mono_l k
  unfold targumlaw4_BigTimes.f
  repeat' first
      | (with_reducible exact ih0 _ _ _ _ _)
      | (with_reducible exact ih1 _ _ _ _ _ _ _)
      | (with_reducible exact big_Add.mono _ _ _)
      | (with_reducible exact big_MulAdd.mono _ _ _ _)
      | (with_reducible exact big_Norm.mono _ _ _)
      | (with_reducible exact targumlaw4_digits.mono _ _)
      | (with_reducible exact targumlaw4_known.mono _)
      | (with_reducible exact LeO.refl _)
      | (with_reducible exact LeO.none _)
      | (with_reducible refine LeO.ite ?_ ?_)
      | (with_reducible refine LeO.bind ?_ (fun _ => ?_))
      | exact ih0 _ _ _ _ _
      | exact ih1 _ _ _ _ _ _ _
      | exact big_Add.mono _ _ _
      | exact big_MulAdd.mono _ _ _ _
      | exact big_Norm.mono _ _ _
      | exact targumlaw4_digits.mono _ _
      | exact targumlaw4_known.mono _
      | exact LeO.none _
      | refine LeO.ite ?_ ?_
      | refine LeO.bind ?_ (fun _ => ?_)
set_option maxHeartbeats 8000000 in
set_option maxRecDepth 100000 in
theorem targumlaw4_BigTimes.calls (k : Nat) (a0 : ByteArray) (a1 : Int) (a2 : Int) (a3 : Int) (r : Bool) (w : World) (hG : Go.Proofs.YtddaggnomcoejaaDoor.Room.PowTab w) (h : targumlaw4_BigTimes.f k a0 a1 a2 a3 = some r) :
    Calls Tryd.prog 7 #[.string a0, .int .u8 a1, .int .u32 a2, .int .u32 a3] w fun e w' => e = .returned (.bool r) ∧ Below w.heap.size w w' := by
  have HG := Aside0.mk hG
  clear hG
  have HB := Aside0.mk (Below.refl w.heap.size w)
  have H : ((targumlaw4_known.f k).bind fun t206 => (if t206 = true then (if (a0.size : Int) < 1 then (targumlaw4_BigTimes.j0 k a0 a1 a2 a3 true) else (targumlaw4_BigTimes.j0 k a0 a1 a2 a3 (decide ((a0.size : Int) > 40)))) else (some false))) = some r := h
  clear h
  replace H := Option.bind_eq_some_iff.mp H
  obtain ⟨t206, A50, H⟩ := H
  replace H : (if t206 = true then (if (a0.size : Int) < 1 then (targumlaw4_BigTimes.j0 k a0 a1 a2 a3 true) else (targumlaw4_BigTimes.j0 k a0 a1 a2 a3 (decide ((a0.size : Int) > 40)))) else (some false)) = some r := H
  have A5 := Aside0.mk A50
  clear A50
  by_cases c6 : t206 = true
  · subst c6
    have H1 : (if (a0.size : Int) < 1 then (targumlaw4_BigTimes.j0 k a0 a1 a2 a3 true) else (targumlaw4_BigTimes.j0 k a0 a1 a2 a3 (decide ((a0.size : Int) > 40)))) = some r := by rw [if_pos rfl] at H; exact H
    clear H
    have H := H1
    clear H1
    have HC7 := Aside0.mk H
    clear H
    go_enter Tryd.func7, Tryd.ntmps7
    go_upto_region 3 with (first | ((with_reducible refine gate_callee (f := 14) rfl ?_); refine goesL_ (some 14) rfl rfl Tryd.func14 (by kernel_rfl) rfl #[] rfl (by (try simp only [List.map_toArray, List.map_cons, List.map_nil]); first | done | rfl | (simp only [List.length_drop, List.length_take]; rfl)) ?_; (with_reducible refine (targumlaw4_known.calls k  true _ ?side1 A5.out).mono ?_); (case side1 => exact Go.Proofs.YtddaggnomcoejaaDoor.Room.PowTab_below HG.out (by repeat (first | (with_reducible first | exact HB.out | apply below_alloc | apply pw_below_drewN | apply below_drew1) | exact HB.out))); rintro e w8 ⟨rfl, hb⟩; refine ⟨_, rfl, ?_⟩; have n0_ := Aside0.mk (below_step (by repeat (first | (with_reducible first | exact HB.out | apply below_alloc | apply pw_below_drewN | apply below_drew1) | exact HB.out)) hb); clear HB; have HB := n0_; clear n0_; (try clear hb); (try clear hb2); (try clear hk); (try clear hi)))
    (try simp only [Act.put, List.setIfInBounds_toArray, List.set_cons_zero, List.set_cons_succ])
    go_cut [23] (fun v23 wc => ∃ (kq : Nat) (x23_6 : Bool), v23 = .bool x23_6 ∧ Aside0 (targumlaw4_BigTimes.j0 kq a0 a1 a2 a3 x23_6 = some r) ∧ Aside0 (kq ≤ k) ∧ Aside0 (Below w.heap.size w wc))
    case first =>
      have H := HC7.out
      clear HC7
      by_cases c9 : (a0.size : Int) < 1
      · rw [if_pos c9] at H
        have c9b0 : decide ((a0.size : Int) < 1) = true := decide_eq_true c9
        have c9b1 : decide (a0.size < 1) = true := decide_eq_true (by omega)
        clear c9
        (first | rw [c9b0] | (simp only [i64_w, i32_w]; rw [c9b0]) | skip)
        have H' := Aside0.mk H
        clear H
        go_wp2
        go_meet
        case rel => exact ⟨_, (true), (by first | rfl | (simp; done) | (simp [*]; done) | (simp [wrap64]; done)), H', ⟨by first | omega | exact Nat.le_refl _⟩, ⟨by repeat (first | (with_reducible first | exact HB.out | apply below_alloc | apply pw_below_drewN | apply below_drew1) | exact HB.out)⟩⟩
      · rw [if_neg c9] at H
        have c9b0 : decide ((a0.size : Int) < 1) = false := decide_eq_false c9
        have c9b1 : decide (a0.size < 1) = false := decide_eq_false (by omega)
        clear c9
        (first | rw [c9b0] | (simp only [i64_w, i32_w]; rw [c9b0]) | skip)
        have H' := Aside0.mk H
        clear H
        go_wp2
        go_meet
        case rel => exact ⟨_, (decide ((a0.size : Int) > 40)), (by first | rfl | (simp; done) | (simp [*]; done) | (simp [wrap64]; done)), H', ⟨by first | omega | exact Nat.le_refl _⟩, ⟨by repeat (first | (with_reducible first | exact HB.out | apply below_alloc | apply pw_below_drewN | apply below_drew1) | exact HB.out)⟩⟩
    case rest =>
      clear HC7
      try clear c1
      try clear p2
      try clear c6
      try clear c7
      try clear c9
      try clear c9b0
      try clear c9b1
      obtain ⟨kq, x23_6, rfl, HA, HJ6, HB⟩ := hcut
      cases kq with
      | zero => exact absurd HA.out (by simp [targumlaw4_BigTimes.j0])
      | succ kj6 =>
        have H := HA.out
        clear HA
        simp only [targumlaw4_BigTimes.j0] at H
        by_cases c10 : x23_6 = true
        · subst c10
          have H1 : (some true) = some r := by rw [if_pos rfl] at H; exact H
          clear H
          have H := H1
          clear H1
          obtain rfl := Option.some.inj H
          go_wp2
          go_ret
          exact ⟨by first | rfl | (simp [errW_none, errW_some] <;> rfl) | (simp [*, errW_none, errW_some] <;> rfl), by repeat (first | (with_reducible first | exact HB.out | apply below_alloc | apply pw_below_drewN | apply below_drew1) | exact HB.out)⟩
        · replace c10 := Bool.eq_false_iff.mpr c10
          subst c10
          have H1 : ((targumlaw4_digits.f kj6 a0).bind fun t207 => ((big_Norm.f kj6 false t207).bind fun t208 => ((big_Add.f kj6 (⟨#[48]⟩ : ByteArray) (wrap64 (a2))).bind fun t209 => ((big_Add.f kj6 (⟨#[48]⟩ : ByteArray) (wrap64 (a3))).bind fun t210 => (targumlaw4_BigTimes.l0 kj6 a1 a2 a3 t208 t209 t210 0))))) = some r := by rw [if_neg (show ¬ (false = true) by decide)] at H; exact H
          clear H
          have H := H1
          clear H1
          replace H := Option.bind_eq_some_iff.mp H
          obtain ⟨t207, A110, H⟩ := H
          replace H : ((big_Norm.f kj6 false t207).bind fun t208 => ((big_Add.f kj6 (⟨#[48]⟩ : ByteArray) (wrap64 (a2))).bind fun t209 => ((big_Add.f kj6 (⟨#[48]⟩ : ByteArray) (wrap64 (a3))).bind fun t210 => (targumlaw4_BigTimes.l0 kj6 a1 a2 a3 t208 t209 t210 0)))) = some r := H
          have A11 := Aside0.mk A110
          clear A110
          replace H := Option.bind_eq_some_iff.mp H
          obtain ⟨t208, A120, H⟩ := H
          replace H : ((big_Add.f kj6 (⟨#[48]⟩ : ByteArray) (wrap64 (a2))).bind fun t209 => ((big_Add.f kj6 (⟨#[48]⟩ : ByteArray) (wrap64 (a3))).bind fun t210 => (targumlaw4_BigTimes.l0 kj6 a1 a2 a3 t208 t209 t210 0))) = some r := H
          have A12 := Aside0.mk A120
          clear A120
          replace H := Option.bind_eq_some_iff.mp H
          obtain ⟨t209, A130, H⟩ := H
          replace H : ((big_Add.f kj6 (⟨#[48]⟩ : ByteArray) (wrap64 (a3))).bind fun t210 => (targumlaw4_BigTimes.l0 kj6 a1 a2 a3 t208 t209 t210 0)) = some r := H
          have A13 := Aside0.mk A130
          clear A130
          replace H := Option.bind_eq_some_iff.mp H
          obtain ⟨t210, A140, H⟩ := H
          replace H : (targumlaw4_BigTimes.l0 kj6 a1 a2 a3 t208 t209 t210 0) = some r := H
          have A14 := Aside0.mk A140
          clear A140
          have H' := Aside0.mk H
          clear H
          go_wp2_with (first | ((with_reducible refine gate_callee (f := 27) rfl ?_); refine goesL_ (some 25) rfl rfl Tryd.func27 (by kernel_rfl) rfl #[.string a0] rfl (by (try simp only [List.map_toArray, List.map_cons, List.map_nil]); first | done | rfl | (simp only [List.length_drop, List.length_take]; rfl)) ?_; (with_reducible refine (targumlaw4_digits.calls kj6 a0 t207 _ A11.out).mono ?_); rintro e w15 ⟨rfl, hb⟩; refine ⟨_, rfl, ?_⟩; have n0_ := Aside0.mk (below_step (by repeat (first | (with_reducible first | exact HB.out | apply below_alloc | apply pw_below_drewN | apply below_drew1) | exact HB.out)) hb); clear HB; have HB := n0_; clear n0_; (try clear hb); (try clear hb2); (try clear hk); (try clear hi)) | ((with_reducible refine gate_callee (f := 18) rfl ?_); refine goesL_ (some 26) rfl rfl Tryd.func18 (by kernel_rfl) rfl #[.bool false, .string t207] rfl (by (try simp only [List.map_toArray, List.map_cons, List.map_nil]); first | done | rfl | (simp only [List.length_drop, List.length_take]; rfl)) ?_; (with_reducible refine (big_Norm.calls kj6 false t207 t208 _ A12.out).mono ?_); rintro e w16 ⟨rfl, hb⟩; refine ⟨_, rfl, ?_⟩; have n0_ := Aside0.mk (below_step (by repeat (first | (with_reducible first | exact HB.out | apply below_alloc | apply pw_below_drewN | apply below_drew1) | exact HB.out)) hb); clear HB; have HB := n0_; clear n0_; (try clear hb); (try clear hb2); (try clear hk); (try clear hi)) | ((with_reducible refine gate_callee (f := 23) rfl ?_); refine goesL_ (some 29) rfl rfl Tryd.func23 (by kernel_rfl) rfl #[.string (⟨#[48]⟩ : ByteArray), .int .i64 (wrap64 (a2))] rfl (by (try simp only [List.map_toArray, List.map_cons, List.map_nil]); first | done | rfl | (simp only [List.length_drop, List.length_take]; rfl)) ?_; (with_reducible refine (big_Add.calls kj6 (⟨#[48]⟩ : ByteArray) (wrap64 (a2)) t209 _ ?side1 A13.out).mono ?_); (case side1 => exact Go.Proofs.YtddaggnomcoejaaDoor.Room.PowTab_below HG.out (by repeat (first | (with_reducible first | exact HB.out | apply below_alloc | apply pw_below_drewN | apply below_drew1) | exact HB.out))); rintro e w17 ⟨rfl, hb⟩; refine ⟨_, rfl, ?_⟩; have n0_ := Aside0.mk (below_step (by repeat (first | (with_reducible first | exact HB.out | apply below_alloc | apply pw_below_drewN | apply below_drew1) | exact HB.out)) hb); clear HB; have HB := n0_; clear n0_; (try clear hb); (try clear hb2); (try clear hk); (try clear hi)) | ((with_reducible refine gate_callee (f := 23) rfl ?_); refine goesL_ (some 32) rfl rfl Tryd.func23 (by kernel_rfl) rfl #[.string (⟨#[48]⟩ : ByteArray), .int .i64 (wrap64 (a3))] rfl (by (try simp only [List.map_toArray, List.map_cons, List.map_nil]); first | done | rfl | (simp only [List.length_drop, List.length_take]; rfl)) ?_; (with_reducible refine (big_Add.calls kj6 (⟨#[48]⟩ : ByteArray) (wrap64 (a3)) t210 _ ?side1 A14.out).mono ?_); (case side1 => exact Go.Proofs.YtddaggnomcoejaaDoor.Room.PowTab_below HG.out (by repeat (first | (with_reducible first | exact HB.out | apply below_alloc | apply pw_below_drewN | apply below_drew1) | exact HB.out))); rintro e w18 ⟨rfl, hb⟩; refine ⟨_, rfl, ?_⟩; have n0_ := Aside0.mk (below_step (by repeat (first | (with_reducible first | exact HB.out | apply below_alloc | apply pw_below_drewN | apply below_drew1) | exact HB.out)) hb); clear HB; have HB := n0_; clear n0_; (try clear hb); (try clear hb2); (try clear hk); (try clear hi)))
          go_loopg [10, 12] kj6 (fun kq v10 v12 w' => ∃ (x10_2 : ByteArray) (x12_2 : Int), v10 = .string x10_2 ∧ v12 = .int .i64 x12_2 ∧ Aside0 (targumlaw4_BigTimes.l0 kq a1 a2 a3 t208 x10_2 t210 x12_2 = some r) ∧ Aside0 (kq ≤ kj6) ∧ Aside0 (Below w.heap.size w w'))
          case atStart => exact ⟨(t209), (0), (by first | rfl | (simp; done) | (simp [*]; done) | (simp [wrap64]; done)), (by first | rfl | (simp; done) | (simp [*]; done) | (simp [wrap64]; done)), H', ⟨Nat.le_refl _⟩, ⟨by repeat (first | (with_reducible first | exact HB.out | apply below_alloc | apply pw_below_drewN | apply below_drew1) | exact HB.out)⟩⟩
          case round =>
            clear H'
            try clear c1
            try clear c2
            try clear p2
            try clear c6
            try clear p6
            try clear c7
            try clear c9
            try clear c9b0
            try clear c9b1
            try clear c10
            try clear c14
            try clear c18
            try clear p2
            obtain ⟨x10_2, x12_2, rfl, rfl, HA, HK2, HB⟩ := hrel
            cases gk with
            | zero => exact absurd HA.out (by simp [targumlaw4_BigTimes.l0])
            | succ k2 =>
              have H := HA.out
              clear HA
              simp only [targumlaw4_BigTimes.l0] at H
              by_cases c19 : x12_2 < (wrap64 (Int.tmod a1 20))
              · rw [if_pos c19] at H
                have c19b0 : decide (x12_2 < (wrap64 (Int.tmod a1 20))) = true := decide_eq_true c19
                clear c19
                replace H := Option.bind_eq_some_iff.mp H
                obtain ⟨t211, A200, H⟩ := H
                replace H : (targumlaw4_BigTimes.l0 k2 a1 a2 a3 t208 t211 t210 (wrap64 (x12_2 + 1))) = some r := H
                have A20 := Aside0.mk A200
                clear A200
                have H' := Aside0.mk H
                clear H
                go_wp2_with (first | ((with_reducible refine gate_callee (f := 23) rfl ?_); refine goesL_ (some 43) rfl rfl Tryd.func23 (by kernel_rfl) rfl #[.string x10_2, .int .i64 (wrap64 (a3))] rfl (by (try simp only [List.map_toArray, List.map_cons, List.map_nil]); first | done | rfl | (simp only [List.length_drop, List.length_take]; rfl)) ?_; (with_reducible refine (big_Add.calls k2 x10_2 (wrap64 (a3)) t211 _ ?side1 A20.out).mono ?_); (case side1 => exact Go.Proofs.YtddaggnomcoejaaDoor.Room.PowTab_below HG.out (by repeat (first | (with_reducible first | exact HB.out | apply below_alloc | apply pw_below_drewN | apply below_drew1) | exact HB.out))); rintro e w21 ⟨rfl, hb⟩; refine ⟨_, rfl, ?_⟩; have n0_ := Aside0.mk (below_step (by repeat (first | (with_reducible first | exact HB.out | apply below_alloc | apply pw_below_drewN | apply below_drew1) | exact HB.out)) hb); clear HB; have HB := n0_; clear n0_; (try clear hb); (try clear hb2); (try clear hk); (try clear hi)))
                go_roundg k2
                case measure => have := HJ6.out; have := HK2.out; omega
                case rel => exact ⟨(t211), (wrap64 (x12_2 + 1)), (by first | rfl | (simp; done) | (simp [*]; done) | (simp [wrap64]; done)), (by first | rfl | (simp; done) | (simp [*]; done) | (simp [wrap64]; done)), H', ⟨by have := HJ6.out; have := HK2.out; omega⟩, ⟨by repeat (first | (with_reducible first | exact HB.out | apply below_alloc | apply pw_below_drewN | apply below_drew1) | exact HB.out)⟩⟩
              · rw [if_neg c19] at H
                have c19b0 : decide (x12_2 < (wrap64 (Int.tmod a1 20))) = false := decide_eq_false c19
                clear c19
                replace H := Option.bind_eq_some_iff.mp H
                obtain ⟨t212, A220, H⟩ := H
                replace H : ((big_MulAdd.f k2 t210 (wrap64 (Int.tmod a1 20)) (wrap64 (a2))).bind fun t213 => (if t213.toList = x10_2.toList then ((big_MulAdd.f k2 t212 (wrap64 (a1)) (wrap64 (a2))).bind fun t214 => ((big_MulAdd.f k2 t208 (wrap64 (a1)) (wrap64 (a2))).bind fun t215 => ((big_Add.f k2 t215 (wrap64 ((wrap64 (a3)) * (wrap64 (a1))))).bind fun t216 => (if t214.toList = t216.toList then ((big_MulAdd.f k2 t208 1 0).bind fun t217 => (if t217.toList = t208.toList then ((big_MulAdd.f k2 t208 0 (wrap64 (a2))).bind fun t218 => ((big_Add.f k2 (⟨#[48]⟩ : ByteArray) (wrap64 (a2))).bind fun t219 => (some (t218.toList == t219.toList)))) else (some false))) else (some false))))) else (some false))) = some r := H
                have A22 := Aside0.mk A220
                clear A220
                replace H := Option.bind_eq_some_iff.mp H
                obtain ⟨t213, A230, H⟩ := H
                replace H : (if t213.toList = x10_2.toList then ((big_MulAdd.f k2 t212 (wrap64 (a1)) (wrap64 (a2))).bind fun t214 => ((big_MulAdd.f k2 t208 (wrap64 (a1)) (wrap64 (a2))).bind fun t215 => ((big_Add.f k2 t215 (wrap64 ((wrap64 (a3)) * (wrap64 (a1))))).bind fun t216 => (if t214.toList = t216.toList then ((big_MulAdd.f k2 t208 1 0).bind fun t217 => (if t217.toList = t208.toList then ((big_MulAdd.f k2 t208 0 (wrap64 (a2))).bind fun t218 => ((big_Add.f k2 (⟨#[48]⟩ : ByteArray) (wrap64 (a2))).bind fun t219 => (some (t218.toList == t219.toList)))) else (some false))) else (some false))))) else (some false)) = some r := H
                have A23 := Aside0.mk A230
                clear A230
                by_cases c24 : t213.toList = x10_2.toList
                · rw [if_pos c24] at H
                  have c24b0 : (t213.toList == x10_2.toList) = true := beq_iff_eq.mpr c24
                  have c24b1 : (t213.toList != x10_2.toList) = false := bne_eq_false_iff_eq.mpr c24
                  clear c24
                  replace H := Option.bind_eq_some_iff.mp H
                  obtain ⟨t214, A250, H⟩ := H
                  replace H : ((big_MulAdd.f k2 t208 (wrap64 (a1)) (wrap64 (a2))).bind fun t215 => ((big_Add.f k2 t215 (wrap64 ((wrap64 (a3)) * (wrap64 (a1))))).bind fun t216 => (if t214.toList = t216.toList then ((big_MulAdd.f k2 t208 1 0).bind fun t217 => (if t217.toList = t208.toList then ((big_MulAdd.f k2 t208 0 (wrap64 (a2))).bind fun t218 => ((big_Add.f k2 (⟨#[48]⟩ : ByteArray) (wrap64 (a2))).bind fun t219 => (some (t218.toList == t219.toList)))) else (some false))) else (some false)))) = some r := H
                  have A25 := Aside0.mk A250
                  clear A250
                  replace H := Option.bind_eq_some_iff.mp H
                  obtain ⟨t215, A260, H⟩ := H
                  replace H : ((big_Add.f k2 t215 (wrap64 ((wrap64 (a3)) * (wrap64 (a1))))).bind fun t216 => (if t214.toList = t216.toList then ((big_MulAdd.f k2 t208 1 0).bind fun t217 => (if t217.toList = t208.toList then ((big_MulAdd.f k2 t208 0 (wrap64 (a2))).bind fun t218 => ((big_Add.f k2 (⟨#[48]⟩ : ByteArray) (wrap64 (a2))).bind fun t219 => (some (t218.toList == t219.toList)))) else (some false))) else (some false))) = some r := H
                  have A26 := Aside0.mk A260
                  clear A260
                  replace H := Option.bind_eq_some_iff.mp H
                  obtain ⟨t216, A270, H⟩ := H
                  replace H : (if t214.toList = t216.toList then ((big_MulAdd.f k2 t208 1 0).bind fun t217 => (if t217.toList = t208.toList then ((big_MulAdd.f k2 t208 0 (wrap64 (a2))).bind fun t218 => ((big_Add.f k2 (⟨#[48]⟩ : ByteArray) (wrap64 (a2))).bind fun t219 => (some (t218.toList == t219.toList)))) else (some false))) else (some false)) = some r := H
                  have A27 := Aside0.mk A270
                  clear A270
                  by_cases c28 : t214.toList = t216.toList
                  · rw [if_pos c28] at H
                    have c28b0 : (t214.toList == t216.toList) = true := beq_iff_eq.mpr c28
                    have c28b1 : (t214.toList != t216.toList) = false := bne_eq_false_iff_eq.mpr c28
                    clear c28
                    replace H := Option.bind_eq_some_iff.mp H
                    obtain ⟨t217, A290, H⟩ := H
                    replace H : (if t217.toList = t208.toList then ((big_MulAdd.f k2 t208 0 (wrap64 (a2))).bind fun t218 => ((big_Add.f k2 (⟨#[48]⟩ : ByteArray) (wrap64 (a2))).bind fun t219 => (some (t218.toList == t219.toList)))) else (some false)) = some r := H
                    have A29 := Aside0.mk A290
                    clear A290
                    by_cases c30 : t217.toList = t208.toList
                    · rw [if_pos c30] at H
                      have c30b0 : (t217.toList == t208.toList) = true := beq_iff_eq.mpr c30
                      have c30b1 : (t217.toList != t208.toList) = false := bne_eq_false_iff_eq.mpr c30
                      clear c30
                      replace H := Option.bind_eq_some_iff.mp H
                      obtain ⟨t218, A310, H⟩ := H
                      replace H : ((big_Add.f k2 (⟨#[48]⟩ : ByteArray) (wrap64 (a2))).bind fun t219 => (some (t218.toList == t219.toList))) = some r := H
                      have A31 := Aside0.mk A310
                      clear A310
                      replace H := Option.bind_eq_some_iff.mp H
                      obtain ⟨t219, A320, H⟩ := H
                      replace H : (some (t218.toList == t219.toList)) = some r := H
                      have A32 := Aside0.mk A320
                      clear A320
                      obtain rfl := Option.some.inj H
                      go_wp2_with (first | ((with_reducible refine gate_callee (f := 23) rfl ?_); refine goesL_ (some 47) rfl rfl Tryd.func23 (by kernel_rfl) rfl #[.string t208, .int .i64 (wrap64 (a3))] rfl (by (try simp only [List.map_toArray, List.map_cons, List.map_nil]); first | done | rfl | (simp only [List.length_drop, List.length_take]; rfl)) ?_; (with_reducible refine (big_Add.calls k2 t208 (wrap64 (a3)) t212 _ ?side1 A22.out).mono ?_); (case side1 => exact Go.Proofs.YtddaggnomcoejaaDoor.Room.PowTab_below HG.out (by repeat (first | (with_reducible first | exact HB.out | apply below_alloc | apply pw_below_drewN | apply below_drew1) | exact HB.out))); rintro e w33 ⟨rfl, hb⟩; refine ⟨_, rfl, ?_⟩; have n0_ := Aside0.mk (below_step (by repeat (first | (with_reducible first | exact HB.out | apply below_alloc | apply pw_below_drewN | apply below_drew1) | exact HB.out)) hb); clear HB; have HB := n0_; clear n0_; (try clear hb); (try clear hb2); (try clear hk); (try clear hi)) | (go_at_call 21; (with_reducible refine (big_MulAdd.calls k2 t210 (wrap64 (Int.tmod a1 20)) (wrap64 (a2)) t213 _ ?side1 A23.out).mono ?_); (case side1 => exact Go.Proofs.YtddaggnomcoejaaDoor.Room.PowTab_below HG.out (by repeat (first | (with_reducible first | exact HB.out | apply below_alloc | apply pw_below_drewN | apply below_drew1) | exact HB.out))); rintro e w34 ⟨rfl, hb⟩; have n0_ := Aside0.mk (below_step (by repeat (first | (with_reducible first | exact HB.out | apply below_alloc | apply pw_below_drewN | apply below_drew1) | exact HB.out)) hb); clear HB; have HB := n0_; clear n0_; (try clear hb); (try clear hb2); (try clear hk); (try clear hi)) | (go_at_call 21; (with_reducible refine (big_MulAdd.calls k2 t212 (wrap64 (a1)) (wrap64 (a2)) t214 _ ?side1 A25.out).mono ?_); (case side1 => exact Go.Proofs.YtddaggnomcoejaaDoor.Room.PowTab_below HG.out (by repeat (first | (with_reducible first | exact HB.out | apply below_alloc | apply pw_below_drewN | apply below_drew1) | exact HB.out))); rintro e w35 ⟨rfl, hb⟩; have n0_ := Aside0.mk (below_step (by repeat (first | (with_reducible first | exact HB.out | apply below_alloc | apply pw_below_drewN | apply below_drew1) | exact HB.out)) hb); clear HB; have HB := n0_; clear n0_; (try clear hb); (try clear hb2); (try clear hk); (try clear hi)) | (go_at_call 21; (with_reducible refine (big_MulAdd.calls k2 t208 (wrap64 (a1)) (wrap64 (a2)) t215 _ ?side1 A26.out).mono ?_); (case side1 => exact Go.Proofs.YtddaggnomcoejaaDoor.Room.PowTab_below HG.out (by repeat (first | (with_reducible first | exact HB.out | apply below_alloc | apply pw_below_drewN | apply below_drew1) | exact HB.out))); rintro e w36 ⟨rfl, hb⟩; have n0_ := Aside0.mk (below_step (by repeat (first | (with_reducible first | exact HB.out | apply below_alloc | apply pw_below_drewN | apply below_drew1) | exact HB.out)) hb); clear HB; have HB := n0_; clear n0_; (try clear hb); (try clear hb2); (try clear hk); (try clear hi)) | (go_at_call 23; (with_reducible refine (big_Add.calls k2 t215 (wrap64 ((wrap64 (a3)) * (wrap64 (a1)))) t216 _ ?side1 A27.out).mono ?_); (case side1 => exact Go.Proofs.YtddaggnomcoejaaDoor.Room.PowTab_below HG.out (by repeat (first | (with_reducible first | exact HB.out | apply below_alloc | apply pw_below_drewN | apply below_drew1) | exact HB.out))); rintro e w37 ⟨rfl, hb⟩; have n0_ := Aside0.mk (below_step (by repeat (first | (with_reducible first | exact HB.out | apply below_alloc | apply pw_below_drewN | apply below_drew1) | exact HB.out)) hb); clear HB; have HB := n0_; clear n0_; (try clear hb); (try clear hb2); (try clear hk); (try clear hi)) | (go_at_call 21; (with_reducible refine (big_MulAdd.calls k2 t208 1 0 t217 _ ?side1 A29.out).mono ?_); (case side1 => exact Go.Proofs.YtddaggnomcoejaaDoor.Room.PowTab_below HG.out (by repeat (first | (with_reducible first | exact HB.out | apply below_alloc | apply pw_below_drewN | apply below_drew1) | exact HB.out))); rintro e w38 ⟨rfl, hb⟩; have n0_ := Aside0.mk (below_step (by repeat (first | (with_reducible first | exact HB.out | apply below_alloc | apply pw_below_drewN | apply below_drew1) | exact HB.out)) hb); clear HB; have HB := n0_; clear n0_; (try clear hb); (try clear hb2); (try clear hk); (try clear hi)) | (go_at_call 21; (with_reducible refine (big_MulAdd.calls k2 t208 0 (wrap64 (a2)) t218 _ ?side1 A31.out).mono ?_); (case side1 => exact Go.Proofs.YtddaggnomcoejaaDoor.Room.PowTab_below HG.out (by repeat (first | (with_reducible first | exact HB.out | apply below_alloc | apply pw_below_drewN | apply below_drew1) | exact HB.out))); rintro e w39 ⟨rfl, hb⟩; have n0_ := Aside0.mk (below_step (by repeat (first | (with_reducible first | exact HB.out | apply below_alloc | apply pw_below_drewN | apply below_drew1) | exact HB.out)) hb); clear HB; have HB := n0_; clear n0_; (try clear hb); (try clear hb2); (try clear hk); (try clear hi)) | (go_at_call 23; (with_reducible refine (big_Add.calls k2 (⟨#[48]⟩ : ByteArray) (wrap64 (a2)) t219 _ ?side1 A32.out).mono ?_); (case side1 => exact Go.Proofs.YtddaggnomcoejaaDoor.Room.PowTab_below HG.out (by repeat (first | (with_reducible first | exact HB.out | apply below_alloc | apply pw_below_drewN | apply below_drew1) | exact HB.out))); rintro e w40 ⟨rfl, hb⟩; have n0_ := Aside0.mk (below_step (by repeat (first | (with_reducible first | exact HB.out | apply below_alloc | apply pw_below_drewN | apply below_drew1) | exact HB.out)) hb); clear HB; have HB := n0_; clear n0_; (try clear hb); (try clear hb2); (try clear hk); (try clear hi)))
                      go_ret
                      exact ⟨by first | rfl | (simp [errW_none, errW_some] <;> rfl) | (simp [*, errW_none, errW_some] <;> rfl), by repeat (first | (with_reducible first | exact HB.out | apply below_alloc | apply pw_below_drewN | apply below_drew1) | exact HB.out)⟩
                    · rw [if_neg c30] at H
                      have c30b0 : (t217.toList == t208.toList) = false := beq_eq_false_iff_ne.mpr c30
                      have c30b1 : (t217.toList != t208.toList) = true := bne_iff_ne.mpr c30
                      obtain rfl := Option.some.inj H
                      go_wp2_with (first | ((with_reducible refine gate_callee (f := 23) rfl ?_); refine goesL_ (some 47) rfl rfl Tryd.func23 (by kernel_rfl) rfl #[.string t208, .int .i64 (wrap64 (a3))] rfl (by (try simp only [List.map_toArray, List.map_cons, List.map_nil]); first | done | rfl | (simp only [List.length_drop, List.length_take]; rfl)) ?_; (with_reducible refine (big_Add.calls k2 t208 (wrap64 (a3)) t212 _ ?side1 A22.out).mono ?_); (case side1 => exact Go.Proofs.YtddaggnomcoejaaDoor.Room.PowTab_below HG.out (by repeat (first | (with_reducible first | exact HB.out | apply below_alloc | apply pw_below_drewN | apply below_drew1) | exact HB.out))); rintro e w41 ⟨rfl, hb⟩; refine ⟨_, rfl, ?_⟩; have n0_ := Aside0.mk (below_step (by repeat (first | (with_reducible first | exact HB.out | apply below_alloc | apply pw_below_drewN | apply below_drew1) | exact HB.out)) hb); clear HB; have HB := n0_; clear n0_; (try clear hb); (try clear hb2); (try clear hk); (try clear hi)) | (go_at_call 21; (with_reducible refine (big_MulAdd.calls k2 t210 (wrap64 (Int.tmod a1 20)) (wrap64 (a2)) t213 _ ?side1 A23.out).mono ?_); (case side1 => exact Go.Proofs.YtddaggnomcoejaaDoor.Room.PowTab_below HG.out (by repeat (first | (with_reducible first | exact HB.out | apply below_alloc | apply pw_below_drewN | apply below_drew1) | exact HB.out))); rintro e w42 ⟨rfl, hb⟩; have n0_ := Aside0.mk (below_step (by repeat (first | (with_reducible first | exact HB.out | apply below_alloc | apply pw_below_drewN | apply below_drew1) | exact HB.out)) hb); clear HB; have HB := n0_; clear n0_; (try clear hb); (try clear hb2); (try clear hk); (try clear hi)) | (go_at_call 21; (with_reducible refine (big_MulAdd.calls k2 t212 (wrap64 (a1)) (wrap64 (a2)) t214 _ ?side1 A25.out).mono ?_); (case side1 => exact Go.Proofs.YtddaggnomcoejaaDoor.Room.PowTab_below HG.out (by repeat (first | (with_reducible first | exact HB.out | apply below_alloc | apply pw_below_drewN | apply below_drew1) | exact HB.out))); rintro e w43 ⟨rfl, hb⟩; have n0_ := Aside0.mk (below_step (by repeat (first | (with_reducible first | exact HB.out | apply below_alloc | apply pw_below_drewN | apply below_drew1) | exact HB.out)) hb); clear HB; have HB := n0_; clear n0_; (try clear hb); (try clear hb2); (try clear hk); (try clear hi)) | (go_at_call 21; (with_reducible refine (big_MulAdd.calls k2 t208 (wrap64 (a1)) (wrap64 (a2)) t215 _ ?side1 A26.out).mono ?_); (case side1 => exact Go.Proofs.YtddaggnomcoejaaDoor.Room.PowTab_below HG.out (by repeat (first | (with_reducible first | exact HB.out | apply below_alloc | apply pw_below_drewN | apply below_drew1) | exact HB.out))); rintro e w44 ⟨rfl, hb⟩; have n0_ := Aside0.mk (below_step (by repeat (first | (with_reducible first | exact HB.out | apply below_alloc | apply pw_below_drewN | apply below_drew1) | exact HB.out)) hb); clear HB; have HB := n0_; clear n0_; (try clear hb); (try clear hb2); (try clear hk); (try clear hi)) | (go_at_call 23; (with_reducible refine (big_Add.calls k2 t215 (wrap64 ((wrap64 (a3)) * (wrap64 (a1)))) t216 _ ?side1 A27.out).mono ?_); (case side1 => exact Go.Proofs.YtddaggnomcoejaaDoor.Room.PowTab_below HG.out (by repeat (first | (with_reducible first | exact HB.out | apply below_alloc | apply pw_below_drewN | apply below_drew1) | exact HB.out))); rintro e w45 ⟨rfl, hb⟩; have n0_ := Aside0.mk (below_step (by repeat (first | (with_reducible first | exact HB.out | apply below_alloc | apply pw_below_drewN | apply below_drew1) | exact HB.out)) hb); clear HB; have HB := n0_; clear n0_; (try clear hb); (try clear hb2); (try clear hk); (try clear hi)) | (go_at_call 21; (with_reducible refine (big_MulAdd.calls k2 t208 1 0 t217 _ ?side1 A29.out).mono ?_); (case side1 => exact Go.Proofs.YtddaggnomcoejaaDoor.Room.PowTab_below HG.out (by repeat (first | (with_reducible first | exact HB.out | apply below_alloc | apply pw_below_drewN | apply below_drew1) | exact HB.out))); rintro e w46 ⟨rfl, hb⟩; have n0_ := Aside0.mk (below_step (by repeat (first | (with_reducible first | exact HB.out | apply below_alloc | apply pw_below_drewN | apply below_drew1) | exact HB.out)) hb); clear HB; have HB := n0_; clear n0_; (try clear hb); (try clear hb2); (try clear hk); (try clear hi)))
                      go_ret
                      exact ⟨by first | rfl | (simp [errW_none, errW_some] <;> rfl) | (simp [*, errW_none, errW_some] <;> rfl), by repeat (first | (with_reducible first | exact HB.out | apply below_alloc | apply pw_below_drewN | apply below_drew1) | exact HB.out)⟩
                  · rw [if_neg c28] at H
                    have c28b0 : (t214.toList == t216.toList) = false := beq_eq_false_iff_ne.mpr c28
                    have c28b1 : (t214.toList != t216.toList) = true := bne_iff_ne.mpr c28
                    obtain rfl := Option.some.inj H
                    go_wp2_with (first | ((with_reducible refine gate_callee (f := 23) rfl ?_); refine goesL_ (some 47) rfl rfl Tryd.func23 (by kernel_rfl) rfl #[.string t208, .int .i64 (wrap64 (a3))] rfl (by (try simp only [List.map_toArray, List.map_cons, List.map_nil]); first | done | rfl | (simp only [List.length_drop, List.length_take]; rfl)) ?_; (with_reducible refine (big_Add.calls k2 t208 (wrap64 (a3)) t212 _ ?side1 A22.out).mono ?_); (case side1 => exact Go.Proofs.YtddaggnomcoejaaDoor.Room.PowTab_below HG.out (by repeat (first | (with_reducible first | exact HB.out | apply below_alloc | apply pw_below_drewN | apply below_drew1) | exact HB.out))); rintro e w47 ⟨rfl, hb⟩; refine ⟨_, rfl, ?_⟩; have n0_ := Aside0.mk (below_step (by repeat (first | (with_reducible first | exact HB.out | apply below_alloc | apply pw_below_drewN | apply below_drew1) | exact HB.out)) hb); clear HB; have HB := n0_; clear n0_; (try clear hb); (try clear hb2); (try clear hk); (try clear hi)) | (go_at_call 21; (with_reducible refine (big_MulAdd.calls k2 t210 (wrap64 (Int.tmod a1 20)) (wrap64 (a2)) t213 _ ?side1 A23.out).mono ?_); (case side1 => exact Go.Proofs.YtddaggnomcoejaaDoor.Room.PowTab_below HG.out (by repeat (first | (with_reducible first | exact HB.out | apply below_alloc | apply pw_below_drewN | apply below_drew1) | exact HB.out))); rintro e w48 ⟨rfl, hb⟩; have n0_ := Aside0.mk (below_step (by repeat (first | (with_reducible first | exact HB.out | apply below_alloc | apply pw_below_drewN | apply below_drew1) | exact HB.out)) hb); clear HB; have HB := n0_; clear n0_; (try clear hb); (try clear hb2); (try clear hk); (try clear hi)) | (go_at_call 21; (with_reducible refine (big_MulAdd.calls k2 t212 (wrap64 (a1)) (wrap64 (a2)) t214 _ ?side1 A25.out).mono ?_); (case side1 => exact Go.Proofs.YtddaggnomcoejaaDoor.Room.PowTab_below HG.out (by repeat (first | (with_reducible first | exact HB.out | apply below_alloc | apply pw_below_drewN | apply below_drew1) | exact HB.out))); rintro e w49 ⟨rfl, hb⟩; have n0_ := Aside0.mk (below_step (by repeat (first | (with_reducible first | exact HB.out | apply below_alloc | apply pw_below_drewN | apply below_drew1) | exact HB.out)) hb); clear HB; have HB := n0_; clear n0_; (try clear hb); (try clear hb2); (try clear hk); (try clear hi)) | (go_at_call 21; (with_reducible refine (big_MulAdd.calls k2 t208 (wrap64 (a1)) (wrap64 (a2)) t215 _ ?side1 A26.out).mono ?_); (case side1 => exact Go.Proofs.YtddaggnomcoejaaDoor.Room.PowTab_below HG.out (by repeat (first | (with_reducible first | exact HB.out | apply below_alloc | apply pw_below_drewN | apply below_drew1) | exact HB.out))); rintro e w50 ⟨rfl, hb⟩; have n0_ := Aside0.mk (below_step (by repeat (first | (with_reducible first | exact HB.out | apply below_alloc | apply pw_below_drewN | apply below_drew1) | exact HB.out)) hb); clear HB; have HB := n0_; clear n0_; (try clear hb); (try clear hb2); (try clear hk); (try clear hi)) | (go_at_call 23; (with_reducible refine (big_Add.calls k2 t215 (wrap64 ((wrap64 (a3)) * (wrap64 (a1)))) t216 _ ?side1 A27.out).mono ?_); (case side1 => exact Go.Proofs.YtddaggnomcoejaaDoor.Room.PowTab_below HG.out (by repeat (first | (with_reducible first | exact HB.out | apply below_alloc | apply pw_below_drewN | apply below_drew1) | exact HB.out))); rintro e w51 ⟨rfl, hb⟩; have n0_ := Aside0.mk (below_step (by repeat (first | (with_reducible first | exact HB.out | apply below_alloc | apply pw_below_drewN | apply below_drew1) | exact HB.out)) hb); clear HB; have HB := n0_; clear n0_; (try clear hb); (try clear hb2); (try clear hk); (try clear hi)))
                    go_ret
                    exact ⟨by first | rfl | (simp [errW_none, errW_some] <;> rfl) | (simp [*, errW_none, errW_some] <;> rfl), by repeat (first | (with_reducible first | exact HB.out | apply below_alloc | apply pw_below_drewN | apply below_drew1) | exact HB.out)⟩
                · rw [if_neg c24] at H
                  have c24b0 : (t213.toList == x10_2.toList) = false := beq_eq_false_iff_ne.mpr c24
                  have c24b1 : (t213.toList != x10_2.toList) = true := bne_iff_ne.mpr c24
                  obtain rfl := Option.some.inj H
                  go_wp2_with (first | ((with_reducible refine gate_callee (f := 23) rfl ?_); refine goesL_ (some 47) rfl rfl Tryd.func23 (by kernel_rfl) rfl #[.string t208, .int .i64 (wrap64 (a3))] rfl (by (try simp only [List.map_toArray, List.map_cons, List.map_nil]); first | done | rfl | (simp only [List.length_drop, List.length_take]; rfl)) ?_; (with_reducible refine (big_Add.calls k2 t208 (wrap64 (a3)) t212 _ ?side1 A22.out).mono ?_); (case side1 => exact Go.Proofs.YtddaggnomcoejaaDoor.Room.PowTab_below HG.out (by repeat (first | (with_reducible first | exact HB.out | apply below_alloc | apply pw_below_drewN | apply below_drew1) | exact HB.out))); rintro e w52 ⟨rfl, hb⟩; refine ⟨_, rfl, ?_⟩; have n0_ := Aside0.mk (below_step (by repeat (first | (with_reducible first | exact HB.out | apply below_alloc | apply pw_below_drewN | apply below_drew1) | exact HB.out)) hb); clear HB; have HB := n0_; clear n0_; (try clear hb); (try clear hb2); (try clear hk); (try clear hi)) | (go_at_call 21; (with_reducible refine (big_MulAdd.calls k2 t210 (wrap64 (Int.tmod a1 20)) (wrap64 (a2)) t213 _ ?side1 A23.out).mono ?_); (case side1 => exact Go.Proofs.YtddaggnomcoejaaDoor.Room.PowTab_below HG.out (by repeat (first | (with_reducible first | exact HB.out | apply below_alloc | apply pw_below_drewN | apply below_drew1) | exact HB.out))); rintro e w53 ⟨rfl, hb⟩; have n0_ := Aside0.mk (below_step (by repeat (first | (with_reducible first | exact HB.out | apply below_alloc | apply pw_below_drewN | apply below_drew1) | exact HB.out)) hb); clear HB; have HB := n0_; clear n0_; (try clear hb); (try clear hb2); (try clear hk); (try clear hi)))
                  go_ret
                  exact ⟨by first | rfl | (simp [errW_none, errW_some] <;> rfl) | (simp [*, errW_none, errW_some] <;> rfl), by repeat (first | (with_reducible first | exact HB.out | apply below_alloc | apply pw_below_drewN | apply below_drew1) | exact HB.out)⟩
  · replace c6 := Bool.eq_false_iff.mpr c6
    subst c6
    have H1 : (some false) = some r := by rw [if_neg (show ¬ (false = true) by decide)] at H; exact H
    clear H
    have H := H1
    clear H1
    obtain rfl := Option.some.inj H
    go_enter Tryd.func7, Tryd.ntmps7
    go_wp2_with (first | ((with_reducible refine gate_callee (f := 14) rfl ?_); refine goesL_ (some 14) rfl rfl Tryd.func14 (by kernel_rfl) rfl #[] rfl (by (try simp only [List.map_toArray, List.map_cons, List.map_nil]); first | done | rfl | (simp only [List.length_drop, List.length_take]; rfl)) ?_; (with_reducible refine (targumlaw4_known.calls k  false _ ?side1 A5.out).mono ?_); (case side1 => exact Go.Proofs.YtddaggnomcoejaaDoor.Room.PowTab_below HG.out (by repeat (first | (with_reducible first | exact HB.out | apply below_alloc | apply pw_below_drewN | apply below_drew1) | exact HB.out))); rintro e w54 ⟨rfl, hb⟩; refine ⟨_, rfl, ?_⟩; have n0_ := Aside0.mk (below_step (by repeat (first | (with_reducible first | exact HB.out | apply below_alloc | apply pw_below_drewN | apply below_drew1) | exact HB.out)) hb); clear HB; have HB := n0_; clear n0_; (try clear hb); (try clear hb2); (try clear hk); (try clear hi)))
    go_ret
    exact ⟨by first | rfl | (simp [errW_none, errW_some] <;> rfl) | (simp [*, errW_none, errW_some] <;> rfl), by repeat (first | (with_reducible first | exact HB.out | apply below_alloc | apply pw_below_drewN | apply below_drew1) | exact HB.out)⟩

/-- THE ONE PURE STATEMENT of targumlaw4_BigTimes: yours. -/
def targumlaw4_BigTimes.Pure : Prop := ∀ (a0 : ByteArray) (a1 : Int) (a2 : Int) (a3 : Int), a0.size ≤ 140737488351232 → (Lit.int .u8 a1).wf = true → (Lit.int .u32 a2).wf = true → (Lit.int .u32 a3).wf = true → ∃ k, targumlaw4_BigTimes.f k a0 a1 a2 a3 = some true
theorem targumlaw4_BigTimes.walk (P : targumlaw4_BigTimes.Pure) (a0 : ByteArray) (a1 : Int) (a2 : Int) (a3 : Int) (w : World) (w0 : a0.size ≤ 140737488351232) (w1 : (Lit.int .u8 a1).wf = true) (w2 : (Lit.int .u32 a2).wf = true) (w3 : (Lit.int .u32 a3).wf = true) (hG : Go.Proofs.YtddaggnomcoejaaDoor.Room.PowTab w) :
    Calls Tryd.prog 7 #[.string a0, .int .u8 a1, .int .u32 a2, .int .u32 a3] w fun e w' => e = .returned (.bool true) ∧ Below w.heap.size w w' := by
  obtain ⟨k, h⟩ := P a0 a1 a2 a3 w0 w1 w2 w3
  refine (targumlaw4_BigTimes.calls k a0 a1 a2 a3 true w hG h).mono ?_
  rintro e w' ⟨rfl, hd⟩
  exact ⟨rfl, hd⟩

end Go.Proofs.YtddaggnomcoejaaDoor.PQ
