/- Written by this session's own program (xprint, made over the kit's print): Lean functions with the same answers as the Go functions, and the proofs of that. Not trusted: Lean checks it. -/
import Derived.Test.YtbjlcipamdgnjaaDoorPNx0
import Derived.Test.YtbjlcipamdgnjaaDoorPNx1
import Derived.Test.YtbjlcipamdgnjaaDoorPNx3
import Derived.Test.YtbjlcipamdgnjaaDoorPNx5
import Derived.Test.YtbjlcipamdgnjaaDoorXW
namespace Go.Proofs.YtbjlcipamdgnjaaDoor.PN
open Go.Proofs.YtbjlcipamdgnjaaDoor.XW Go.RowKit Go.Proofs.YtbjlcipamdgnjaaDoorW.PrintWords Go.Proofs.YtbjlcipamdgnjaaDoorW.PrintLast Go.Proofs.YtbjlcipamdgnjaaDoorW.PrintMore
attribute [local go_sem] max2_int min2_int max_two min_two max_three min_three max_four min_four   -- for this text's walks alone
set_option linter.unusedVariables false
set_option linter.unusedSimpArgs false

attribute [local go_sem high] eqA28
/-! ### targumlaw8_known: function 8 -/
def targumlaw8_known.f (k : Nat)  : Option (Bool) := (num12_Int.f k (⟨#[48, 49, 48]⟩ : ByteArray)).bind fun bt207 => ((num12_Int.f k (⟨#[45, 48, 120, 49]⟩ : ByteArray)).bind fun bt209 => ((num12_Float.f k (⟨#[49, 101, 51]⟩ : ByteArray)).bind fun bt211 => ((num12_Float.f k (⟨#[49, 50]⟩ : ByteArray)).bind fun bt217 => ((num12_Int.f k (⟨#[48, 111, 49, 55]⟩ : ByteArray)).bind fun bt223 => (if bt207.2 = true then (if bt207.1.toList = ([49, 48] : List UInt8) then (if bt209.2 = true then (some false) else (if bt211.2.2.2.2 = true then (if (bt211.1 == 0 && (!bt211.2.1 && (bt211.2.2.1.toList == ([49] : List UInt8) && (bt211.2.2.2.1.toList == ([51] : List UInt8))))) = true then (if bt217.2.2.2.2 = true then (some false) else (if bt223.2 = true then (some (bt223.1.toList == ([49, 53] : List UInt8))) else (some false))) else (some false)) else (some false))) else (some false)) else (some false))))))
theorem targumlaw8_known.mono : ∀ k, LeO (targumlaw8_known.f k ) (targumlaw8_known.f (k + 1) ) := by
 intro  k
 unfold targumlaw8_known.f
 repeat' first
   | (with_reducible exact num12_Float.mono _ _)
   | (with_reducible exact num12_Int.mono _ _)
   | (with_reducible exact LeO.refl _)
   | (with_reducible exact LeO.none _)
   | (with_reducible refine LeO.ite ?_ ?_)
   | (with_reducible refine LeO.bind ?_ (fun _ => ?_))
   | exact num12_Float.mono _ _
   | exact num12_Int.mono _ _
   | exact LeO.none _
   | refine LeO.ite ?_ ?_
   | refine LeO.bind ?_ (fun _ => ?_)
set_option maxHeartbeats 40000000 in
set_option maxRecDepth 100000 in
theorem targumlaw8_known.calls (k : Nat)  (r : Bool) (w : World) (hG : Go.Proofs.YtbjlcipamdgnjaaDoor.Room.PowTab w) (h : targumlaw8_known.f k  = some r) :
  Calls Tryd.prog 8 #[] w fun e w' => e = .returned (.bool r) ∧ Below w.heap.size w w' := by
 have hu28 := Tryd.underlying28
 have HG := Aside0.mk hG
 clear hG
 have HB := Aside0.mk (Below.refl w.heap.size w)
 have H : ((num12_Int.f k (⟨#[48, 49, 48]⟩ : ByteArray)).bind fun bt207 => ((num12_Int.f k (⟨#[45, 48, 120, 49]⟩ : ByteArray)).bind fun bt209 => ((num12_Float.f k (⟨#[49, 101, 51]⟩ : ByteArray)).bind fun bt211 => ((num12_Float.f k (⟨#[49, 50]⟩ : ByteArray)).bind fun bt217 => ((num12_Int.f k (⟨#[48, 111, 49, 55]⟩ : ByteArray)).bind fun bt223 => (if bt207.2 = true then (if bt207.1.toList = ([49, 48] : List UInt8) then (if bt209.2 = true then (some false) else (if bt211.2.2.2.2 = true then (if (bt211.1 == 0 && (!bt211.2.1 && (bt211.2.2.1.toList == ([49] : List UInt8) && (bt211.2.2.2.1.toList == ([51] : List UInt8))))) = true then (if bt217.2.2.2.2 = true then (some false) else (if bt223.2 = true then (some (bt223.1.toList == ([49, 53] : List UInt8))) else (some false))) else (some false)) else (some false))) else (some false)) else (some false))))))) = some r := h
 clear h
 replace H := Option.bind_eq_some_iff.mp H
 obtain ⟨⟨t207, t208⟩, A10, H⟩ := H
 replace H : ((num12_Int.f k (⟨#[45, 48, 120, 49]⟩ : ByteArray)).bind fun bt209 => ((num12_Float.f k (⟨#[49, 101, 51]⟩ : ByteArray)).bind fun bt211 => ((num12_Float.f k (⟨#[49, 50]⟩ : ByteArray)).bind fun bt217 => ((num12_Int.f k (⟨#[48, 111, 49, 55]⟩ : ByteArray)).bind fun bt223 => (if t208 = true then (if t207.toList = ([49, 48] : List UInt8) then (if bt209.2 = true then (some false) else (if bt211.2.2.2.2 = true then (if (bt211.1 == 0 && (!bt211.2.1 && (bt211.2.2.1.toList == ([49] : List UInt8) && (bt211.2.2.2.1.toList == ([51] : List UInt8))))) = true then (if bt217.2.2.2.2 = true then (some false) else (if bt223.2 = true then (some (bt223.1.toList == ([49, 53] : List UInt8))) else (some false))) else (some false)) else (some false))) else (some false)) else (some false)))))) = some r := H
 have A1 := Aside0.mk A10
 clear A10
 replace H := Option.bind_eq_some_iff.mp H
 obtain ⟨⟨t209, t210⟩, A20, H⟩ := H
 replace H : ((num12_Float.f k (⟨#[49, 101, 51]⟩ : ByteArray)).bind fun bt211 => ((num12_Float.f k (⟨#[49, 50]⟩ : ByteArray)).bind fun bt217 => ((num12_Int.f k (⟨#[48, 111, 49, 55]⟩ : ByteArray)).bind fun bt223 => (if t208 = true then (if t207.toList = ([49, 48] : List UInt8) then (if t210 = true then (some false) else (if bt211.2.2.2.2 = true then (if (bt211.1 == 0 && (!bt211.2.1 && (bt211.2.2.1.toList == ([49] : List UInt8) && (bt211.2.2.2.1.toList == ([51] : List UInt8))))) = true then (if bt217.2.2.2.2 = true then (some false) else (if bt223.2 = true then (some (bt223.1.toList == ([49, 53] : List UInt8))) else (some false))) else (some false)) else (some false))) else (some false)) else (some false))))) = some r := H
 have A2 := Aside0.mk A20
 clear A20
 replace H := Option.bind_eq_some_iff.mp H
 obtain ⟨⟨t211, t212, t213, t214, t215⟩, A30, H⟩ := H
 replace H : ((num12_Float.f k (⟨#[49, 50]⟩ : ByteArray)).bind fun bt217 => ((num12_Int.f k (⟨#[48, 111, 49, 55]⟩ : ByteArray)).bind fun bt223 => (if t208 = true then (if t207.toList = ([49, 48] : List UInt8) then (if t210 = true then (some false) else (if t215 = true then (if (t211 == 0 && (!t212 && (t213.toList == ([49] : List UInt8) && (t214.toList == ([51] : List UInt8))))) = true then (if bt217.2.2.2.2 = true then (some false) else (if bt223.2 = true then (some (bt223.1.toList == ([49, 53] : List UInt8))) else (some false))) else (some false)) else (some false))) else (some false)) else (some false)))) = some r := H
 have A3 := Aside0.mk A30
 clear A30
 replace H := Option.bind_eq_some_iff.mp H
 obtain ⟨⟨t217, t218, t219, t220, t221⟩, A40, H⟩ := H
 replace H : ((num12_Int.f k (⟨#[48, 111, 49, 55]⟩ : ByteArray)).bind fun bt223 => (if t208 = true then (if t207.toList = ([49, 48] : List UInt8) then (if t210 = true then (some false) else (if t215 = true then (if (t211 == 0 && (!t212 && (t213.toList == ([49] : List UInt8) && (t214.toList == ([51] : List UInt8))))) = true then (if t221 = true then (some false) else (if bt223.2 = true then (some (bt223.1.toList == ([49, 53] : List UInt8))) else (some false))) else (some false)) else (some false))) else (some false)) else (some false))) = some r := H
 have A4 := Aside0.mk A40
 clear A40
 replace H := Option.bind_eq_some_iff.mp H
 obtain ⟨⟨t223, t224⟩, A50, H⟩ := H
 replace H : (if t208 = true then (if t207.toList = ([49, 48] : List UInt8) then (if t210 = true then (some false) else (if t215 = true then (if (t211 == 0 && (!t212 && (t213.toList == ([49] : List UInt8) && (t214.toList == ([51] : List UInt8))))) = true then (if t221 = true then (some false) else (if t224 = true then (some (t223.toList == ([49, 53] : List UInt8))) else (some false))) else (some false)) else (some false))) else (some false)) else (some false)) = some r := H
 have A5 := Aside0.mk A50
 clear A50
 refine Classical.byCases (p := (t208 = true)) (fun c6 => ?x45) (fun c6 => ?y45)
 case' x45 =>
  subst c6
  have H1 : (if t207.toList = ([49, 48] : List UInt8) then (if t210 = true then (some false) else (if t215 = true then (if (t211 == 0 && (!t212 && (t213.toList == ([49] : List UInt8) && (t214.toList == ([51] : List UInt8))))) = true then (if t221 = true then (some false) else (if t224 = true then (some (t223.toList == ([49, 53] : List UInt8))) else (some false))) else (some false)) else (some false))) else (some false)) = some r := by rw [if_pos rfl] at H; exact H
  clear H
  have H := H1
  clear H1
  refine Classical.byCases (p := (t207.toList = ([49, 48] : List UInt8))) (fun c7 => ?x46) (fun c7 => ?y46)
  case' x46 =>
   rw [if_pos c7] at H
   have c7b0 : (t207.toList == ([49, 48] : List UInt8)) = true := beq_iff_eq.mpr c7
   have c7b1 : (t207.toList != ([49, 48] : List UInt8)) = false := bne_eq_false_iff_eq.mpr c7
   clear c7
   refine Classical.byCases (p := (t210 = true)) (fun c8 => ?x47) (fun c8 => ?y47)
   case' x47 =>
    subst c8
    have H1 : (some false) = some r := by rw [if_pos rfl] at H; exact H
    clear H
    have H := H1
    clear H1
    obtain rfl := Option.some.inj H
    go_enter Tryd.func8, Tryd.ntmps8
    skip
   case' y47 =>
    replace c8 := Bool.eq_false_iff.mpr c8
    subst c8
    have H1 : (if t215 = true then (if (t211 == 0 && (!t212 && (t213.toList == ([49] : List UInt8) && (t214.toList == ([51] : List UInt8))))) = true then (if t221 = true then (some false) else (if t224 = true then (some (t223.toList == ([49, 53] : List UInt8))) else (some false))) else (some false)) else (some false)) = some r := by rw [if_neg (show ¬ (false = true) by decide)] at H; exact H
    clear H
    have H := H1
    clear H1
    refine Classical.byCases (p := (t215 = true)) (fun c19 => ?x48) (fun c19 => ?y48)
    case' x48 =>
     subst c19
     have H1 : (if (t211 == 0 && (!t212 && (t213.toList == ([49] : List UInt8) && (t214.toList == ([51] : List UInt8))))) = true then (if t221 = true then (some false) else (if t224 = true then (some (t223.toList == ([49, 53] : List UInt8))) else (some false))) else (some false)) = some r := by rw [if_pos rfl] at H; exact H
     clear H
     have H := H1
     clear H1
     refine Classical.byCases (p := ((t211 == 0 && (!t212 && (t213.toList == ([49] : List UInt8) && (t214.toList == ([51] : List UInt8))))) = true)) (fun c20 => ?x49) (fun c20 => ?y49)
     case' x49 =>
      rw [if_pos c20] at H
      have c20b0 : (t211 == 0 && (!t212 && (t213.toList == ([49] : List UInt8) && (t214.toList == ([51] : List UInt8))))) = true := c20
      (try (have c20b1 : decide (t211 = 0 && (!t212 && (t213.toList == ([49] : List UInt8) && (t214.toList == ([51] : List UInt8))))) = true := by simpa using c20))
      (try (have c20b2 : (t211 == 0 && (!t212 && (t213.toList == ([49] : List UInt8) && (t214.toList == ([51] : List UInt8))))) = true := by simpa using c20))
      clear c20
      refine Classical.byCases (p := (t221 = true)) (fun c21 => ?x50) (fun c21 => ?y50)
      case' x50 =>
       subst c21
       have H1 : (some false) = some r := by rw [if_pos rfl] at H; exact H
       clear H
       have H := H1
       clear H1
       obtain rfl := Option.some.inj H
       go_enter Tryd.func8, Tryd.ntmps8
       skip
      case' y50 =>
       replace c21 := Bool.eq_false_iff.mpr c21
       subst c21
       have H1 : (if t224 = true then (some (t223.toList == ([49, 53] : List UInt8))) else (some false)) = some r := by rw [if_neg (show ¬ (false = true) by decide)] at H; exact H
       clear H
       have H := H1
       clear H1
       refine Classical.byCases (p := (t224 = true)) (fun c33 => ?x51) (fun c33 => ?y51)
       case' x51 =>
        subst c33
        have H1 : (some (t223.toList == ([49, 53] : List UInt8))) = some r := by rw [if_pos rfl] at H; exact H
        clear H
        have H := H1
        clear H1
        obtain rfl := Option.some.inj H
        go_enter Tryd.func8, Tryd.ntmps8
        skip
       case' y51 =>
        replace c33 := Bool.eq_false_iff.mpr c33
        subst c33
        have H1 : (some false) = some r := by rw [if_neg (show ¬ (false = true) by decide)] at H; exact H
        clear H
        have H := H1
        clear H1
        obtain rfl := Option.some.inj H
        go_enter Tryd.func8, Tryd.ntmps8
        skip
     case' y49 =>
      rw [if_neg c20] at H
      have c20b0 : (t211 == 0 && (!t212 && (t213.toList == ([49] : List UInt8) && (t214.toList == ([51] : List UInt8))))) = false := by simpa using c20
      (try (have c20b1 : decide (t211 = 0 && (!t212 && (t213.toList == ([49] : List UInt8) && (t214.toList == ([51] : List UInt8))))) = false := by simpa using c20))
      (try (have c20b2 : (t211 == 0 && (!t212 && (t213.toList == ([49] : List UInt8) && (t214.toList == ([51] : List UInt8))))) = false := by simpa using c20))
      (try (have c20b3 : ¬ (t211 = 0 && (!t212 && (t213.toList == ([49] : List UInt8) && (t214.toList == ([51] : List UInt8))))) := by simpa using c20))
      clear c20
      obtain rfl := Option.some.inj H
      go_enter Tryd.func8, Tryd.ntmps8
      skip
    case' y48 =>
     replace c19 := Bool.eq_false_iff.mpr c19
     subst c19
     have H1 : (some false) = some r := by rw [if_neg (show ¬ (false = true) by decide)] at H; exact H
     clear H
     have H := H1
     clear H1
     obtain rfl := Option.some.inj H
     go_enter Tryd.func8, Tryd.ntmps8
     skip
  case' y46 =>
   rw [if_neg c7] at H
   have c7b0 : (t207.toList == ([49, 48] : List UInt8)) = false := beq_eq_false_iff_ne.mpr c7
   have c7b1 : (t207.toList != ([49, 48] : List UInt8)) = true := bne_iff_ne.mpr c7
   obtain rfl := Option.some.inj H
   go_enter Tryd.func8, Tryd.ntmps8
   skip
 case' y45 =>
  replace c6 := Bool.eq_false_iff.mpr c6
  subst c6
  have H1 : (some false) = some r := by rw [if_neg (show ¬ (false = true) by decide)] at H; exact H
  clear H
  have H := H1
  clear H1
  obtain rfl := Option.some.inj H
  go_enter Tryd.func8, Tryd.ntmps8
  skip
 case x47 | x50 | x51 | y51 | y49 | y48 | y46 | y45 =>
  as_aux_lemma =>
   go_wp2_with (first | ((with_reducible refine gate_callee (f := 9) rfl ?_); refine goesL_ (some 12) rfl rfl Tryd.func9 (by kernel_rfl) rfl #[.string (⟨#[48, 49, 48]⟩ : ByteArray)] rfl (by (try simp only [List.map_toArray, List.map_cons, List.map_nil]); first | done | rfl | (simp only [List.length_drop, List.length_take]; rfl)) ?_; (with_reducible refine (num12_Int.calls _ _ _ _ _ ?side1 A1.out).mono ?_); (case side1 => exact Go.Proofs.YtbjlcipamdgnjaaDoor.Room.PowTab_below HG.out bl); rintro e w22 ⟨rfl, hb⟩; refine ⟨_, rfl, ?_⟩; have n0_ := Aside0.mk (below_step bl hb); clear HB; have HB := n0_; clear n0_; (try clear hb); (try clear hb2); (try clear hk); (try clear hi)) | ((with_reducible refine gate_callee (f := 9) rfl ?_); refine goesL_ (some 16) rfl rfl Tryd.func9 (by kernel_rfl) rfl #[.string (⟨#[45, 48, 120, 49]⟩ : ByteArray)] rfl (by (try simp only [List.map_toArray, List.map_cons, List.map_nil]); first | done | rfl | (simp only [List.length_drop, List.length_take]; rfl)) ?_; (with_reducible refine (num12_Int.calls _ _ _ _ _ ?side1 A2.out).mono ?_); (case side1 => exact Go.Proofs.YtbjlcipamdgnjaaDoor.Room.PowTab_below HG.out bl); rintro e w23 ⟨rfl, hb⟩; refine ⟨_, rfl, ?_⟩; have n0_ := Aside0.mk (below_step bl hb); clear HB; have HB := n0_; clear n0_; (try clear hb); (try clear hb2); (try clear hk); (try clear hi)) | ((with_reducible refine gate_callee (f := 11) rfl ?_); refine goesL_ (some 20) rfl rfl Tryd.func11 (by kernel_rfl) rfl #[.string (⟨#[49, 101, 51]⟩ : ByteArray)] rfl (by (try simp only [List.map_toArray, List.map_cons, List.map_nil]); first | done | rfl | (simp only [List.length_drop, List.length_take]; rfl)) ?_; (with_reducible refine (num12_Float.calls _ _ _ _ _ _ _ _ ?side1 A3.out).mono ?_); (case side1 => exact Go.Proofs.YtbjlcipamdgnjaaDoor.Room.PowTab_below HG.out bl); rintro e w24 ⟨rfl, hb⟩; refine ⟨_, rfl, ?_⟩; have n0_ := Aside0.mk (below_step bl hb); clear HB; have HB := n0_; clear n0_; (try clear hb); (try clear hb2); (try clear hk); (try clear hi)) | ((with_reducible refine gate_dst (N := 5) rfl ?_); refine box_event ?hg (N := 5) ?hd (cs := #[.int .i64 0, .bool false, .string (⟨#[]⟩ : ByteArray), .string (⟨#[]⟩ : ByteArray)]) (t := 28) ?hr ?_; (case hd => rfl); (case hg => rfl); (case hr => first | (go_simp; done) | (go_simp; rfl)); intro gb216 hg w25 hbox hb; have n0_ := Aside0.mk (below_step bl hb); have n1_ := Aside0.mk (hbox); have n2_ := Aside0.mk ((by rw [hg]; exact (below_size bl) : w.heap.size ≤ gb216)); have n3_ := Aside0.mk ((by rw [hg]; exact (below_size bl) : w.heap.size ≤ gb216)); clear HB; have HB := n0_; have BK216 := n1_; have GW216 := n2_; have GE216 := n3_; clear n0_ n1_ n2_ n3_; clear hb hbox hg; have hcz26_0 : w25.cell? ⟨gb216, 0, none⟩ = some (.int .i64 0) := (blk_cell BK216.out 0).trans rfl; have hcz26_1 : w25.cell? ⟨gb216, 1, none⟩ = some (.bool false) := (blk_cell BK216.out 1).trans rfl; have hcz26_2 : w25.cell? ⟨gb216, 2, none⟩ = some (.string (⟨#[]⟩ : ByteArray)) := (blk_cell BK216.out 2).trans rfl; have hcz26_3 : w25.cell? ⟨gb216, 3, none⟩ = some (.string (⟨#[]⟩ : ByteArray)) := (blk_cell BK216.out 3).trans rfl; have hfz26_0 := blk_frozen BK216.out 0; have hfz26_1 := blk_frozen BK216.out 1; have hfz26_2 := blk_frozen BK216.out 2; have hfz26_3 := blk_frozen BK216.out 3) | ((with_reducible refine gate_callee (f := 11) rfl ?_); refine goesL_ (some 24) rfl rfl Tryd.func11 (by kernel_rfl) rfl #[.string (⟨#[49, 50]⟩ : ByteArray)] rfl (by (try simp only [List.map_toArray, List.map_cons, List.map_nil]); first | done | rfl | (simp only [List.length_drop, List.length_take]; rfl)) ?_; (with_reducible refine (num12_Float.calls _ _ _ _ _ _ _ _ ?side1 A4.out).mono ?_); (case side1 => exact Go.Proofs.YtbjlcipamdgnjaaDoor.Room.PowTab_below HG.out bl); rintro e w27 ⟨rfl, hb⟩; refine ⟨_, rfl, ?_⟩; have n0_ := Aside0.mk (blk_below (g := gb216) (o := .cells #[.int .i64 t211, .bool t212, .string t213, .string t214] 28 (0, 0)) bk hb); have n1_ := Aside0.mk (below_step bl hb); clear BK216; clear HB; have BK216 := n0_; have HB := n1_; clear n0_ n1_; (try clear hb); (try clear hb2); (try clear hk); (try clear hi)) | ((with_reducible refine gate_dst (N := 7) rfl ?_); refine box_event ?hg (N := 7) ?hd (cs := #[.int .i64 0, .bool false, .string (⟨#[]⟩ : ByteArray), .string (⟨#[]⟩ : ByteArray)]) (t := 28) ?hr ?_; (case hd => rfl); (case hg => rfl); (case hr => first | (go_simp; done) | (go_simp; rfl)); intro gb222 hg w28 hbox hb; have n0_ := Aside0.mk (blk_below (g := gb216) (o := .cells #[.int .i64 t211, .bool t212, .string t213, .string t214] 28 (0, 0)) bk hb); have n1_ := Aside0.mk (below_step bl hb); have n2_ := Aside0.mk (hbox); have n3_ := Aside0.mk ((by rw [hg]; exact (below_size bl) : w.heap.size ≤ gb222)); have n4_ := Aside0.mk ((by rw [hg]; exact (below_size bl) : w.heap.size ≤ gb222)); have n5_ := Aside0.mk ((by rw [hg]; exact Nat.ne_of_lt (blk_lt (g := gb216) (o := .cells #[.int .i64 t211, .bool t212, .string t213, .string t214] 28 (0, 0)) bk) : gb216 ≠ gb222)); have n6_ := Aside0.mk ((by rw [hg]; exact Nat.ne_of_gt (blk_lt (g := gb216) (o := .cells #[.int .i64 t211, .bool t212, .string t213, .string t214] 28 (0, 0)) bk) : gb222 ≠ gb216)); clear BK216; clear HB; have BK216 := n0_; have HB := n1_; have BK222 := n2_; have GW222 := n3_; have GE222 := n4_; have NB216_222 := n5_; have NB222_216 := n6_; clear n0_ n1_ n2_ n3_ n4_ n5_ n6_; clear hb hbox hg; have hnb29 := NB222_216.out; have hnc29 := NB216_222.out; have hcz30_0 : w28.cell? ⟨gb222, 0, none⟩ = some (.int .i64 0) := (blk_cell BK222.out 0).trans rfl; have hcz30_1 : w28.cell? ⟨gb222, 1, none⟩ = some (.bool false) := (blk_cell BK222.out 1).trans rfl; have hcz30_2 : w28.cell? ⟨gb222, 2, none⟩ = some (.string (⟨#[]⟩ : ByteArray)) := (blk_cell BK222.out 2).trans rfl; have hcz30_3 : w28.cell? ⟨gb222, 3, none⟩ = some (.string (⟨#[]⟩ : ByteArray)) := (blk_cell BK222.out 3).trans rfl; have hfz30_0 := blk_frozen BK222.out 0; have hfz30_1 := blk_frozen BK222.out 1; have hfz30_2 := blk_frozen BK222.out 2; have hfz30_3 := blk_frozen BK222.out 3) | ((with_reducible refine gate_callee (f := 9) rfl ?_); refine goesL_ (some 28) rfl rfl Tryd.func9 (by kernel_rfl) rfl #[.string (⟨#[48, 111, 49, 55]⟩ : ByteArray)] rfl (by (try simp only [List.map_toArray, List.map_cons, List.map_nil]); first | done | rfl | (simp only [List.length_drop, List.length_take]; rfl)) ?_; (with_reducible refine (num12_Int.calls _ _ _ _ _ ?side1 A5.out).mono ?_); (case side1 => exact Go.Proofs.YtbjlcipamdgnjaaDoor.Room.PowTab_below HG.out bl); rintro e w31 ⟨rfl, hb⟩; refine ⟨_, rfl, ?_⟩; have n0_ := Aside0.mk (blk_below (g := gb216) (o := .cells #[.int .i64 t211, .bool t212, .string t213, .string t214] 28 (0, 0)) bk hb); have n1_ := Aside0.mk (blk_below (g := gb222) (o := .cells #[.int .i64 t217, .bool t218, .string t219, .string t220] 28 (0, 0)) bk hb); have n2_ := Aside0.mk (below_step bl hb); clear BK216; clear BK222; clear HB; have BK216 := n0_; have BK222 := n1_; have HB := n2_; clear n0_ n1_ n2_; (try clear hb); (try clear hb2); (try clear hk); (try clear hi); have hcz32_0 : w31.cell? ⟨gb216, 0, none⟩ = some (.int .i64 t211) := (blk_cell BK216.out 0).trans rfl; have hcz32_1 : w31.cell? ⟨gb216, 1, none⟩ = some (.bool t212) := (blk_cell BK216.out 1).trans rfl; have hcz32_2 : w31.cell? ⟨gb216, 2, none⟩ = some (.string t213) := (blk_cell BK216.out 2).trans rfl; have hcz32_3 : w31.cell? ⟨gb216, 3, none⟩ = some (.string t214) := (blk_cell BK216.out 3).trans rfl; have hfz32_0 := blk_frozen BK216.out 0; have hfz32_1 := blk_frozen BK216.out 1; have hfz32_2 := blk_frozen BK216.out 2; have hfz32_3 := blk_frozen BK216.out 3))
   go_ret
   exact ⟨by first | rfl | (simp [errW_none, errW_some] <;> rfl) | (simp [*, errW_none, errW_some] <;> rfl), bl⟩
/-! ### targumref4_IsDigit: function 31 -/
def targumref4_IsDigit.f (a0 : Int) : Option (Bool) := if a0 ≥ 48 then (some (decide (a0 ≤ 57))) else (some false)
set_option maxHeartbeats 40000000 in
set_option maxRecDepth 100000 in
theorem targumref4_IsDigit.calls (a0 : Int) (r : Bool) (w : World) (h : targumref4_IsDigit.f a0 = some r) :
  Calls Tryd.prog 31 #[.int .u8 a0] w fun e w' => e = .returned (.bool r) ∧ Drawn0 w w' := by
 have H : (if a0 ≥ 48 then (some (decide (a0 ≤ 57))) else (some false)) = some r := h
 clear h
 by_cases c2 : a0 ≥ 48
 ·rw [if_pos c2] at H
  have c2b0 : decide (48 ≤ a0) = true := decide_eq_true c2
  clear c2
  obtain rfl := Option.some.inj H
  go_enter Tryd.func31, Tryd.ntmps31
  go_wp2
  go_ret
  exact ⟨by first | rfl | (simp; done) | (simp [*]; done) | (simp [wrap64]; done), by repeat (first | exact Drawn0.refl _ | apply Drawn0.step)⟩
 ·rw [if_neg c2] at H
  have c2b0 : decide (48 ≤ a0) = false := decide_eq_false c2
  clear c2
  obtain rfl := Option.some.inj H
  go_enter Tryd.func31, Tryd.ntmps31
  go_wp2
  go_ret
  exact ⟨by first | rfl | (simp; done) | (simp [*]; done) | (simp [wrap64]; done), by repeat (first | exact Drawn0.refl _ | apply Drawn0.step)⟩

/-! ### targumref4_Digits: function 33 -/
def targumref4_Digits.l0 : Nat → ByteArray → Int → Option (Bool)
 | 0, _, _ => none
 | k + 1, x0, x3 => if x3 < (x0.size : Int) then (if 0 ≤ x3 then ((targumref4_IsDigit.f (bt x0 x3)).bind fun t225 => (if t225 = true then (targumref4_Digits.l0 k x0 (wrap64 (x3 + 1))) else (some false))) else (none)) else (some (decide ((x0.size : Int) > 0)))
def targumref4_Digits.f (k : Nat) (a0 : ByteArray) : Option (Bool) := targumref4_Digits.l0 k a0 0
theorem targumref4_Digits.mono_l : ∀ k, (∀ y0 y1, LeO (targumref4_Digits.l0 k y0 y1) (targumref4_Digits.l0 (k + 1) y0 y1))
 | 0 => fun _ _ r h => by simp [targumref4_Digits.l0] at h
 | k + 1 => by
  have ih0 := targumref4_Digits.mono_l k
  ·intro y0 y1
   unfold targumref4_Digits.l0
   repeat' first
   | (with_reducible exact ih0 _ _)
   | (with_reducible exact LeO.refl _)
   | (with_reducible exact LeO.none _)
   | (with_reducible refine LeO.ite ?_ ?_)
   | (with_reducible refine LeO.bind ?_ (fun _ => ?_))
   | exact ih0 _ _
   | exact LeO.none _
   | refine LeO.ite ?_ ?_
   | refine LeO.bind ?_ (fun _ => ?_)
theorem targumref4_Digits.mono : ∀ a0 k, LeO (targumref4_Digits.f k a0) (targumref4_Digits.f (k + 1) a0) := by
 intro a0 k
 have ih0 := targumref4_Digits.mono_l k
 unfold targumref4_Digits.f
 repeat' first
   | (with_reducible exact ih0 _ _)
   | (with_reducible exact LeO.refl _)
   | (with_reducible exact LeO.none _)
   | (with_reducible refine LeO.ite ?_ ?_)
   | (with_reducible refine LeO.bind ?_ (fun _ => ?_))
   | exact ih0 _ _
   | exact LeO.none _
   | refine LeO.ite ?_ ?_
   | refine LeO.bind ?_ (fun _ => ?_)
set_option maxHeartbeats 40000000 in
set_option maxRecDepth 100000 in
theorem targumref4_Digits.calls (k : Nat) (a0 : ByteArray) (r : Bool) (w : World) (h : targumref4_Digits.f k a0 = some r) :
  Calls Tryd.prog 33 #[.string a0] w fun e w' => e = .returned (.bool r) ∧ Drawn0 w w' := by
 have H : (targumref4_Digits.l0 k a0 0) = some r := h
 clear h
 have H' := Aside0.mk H
 clear H
 go_enter Tryd.func33, Tryd.ntmps33
 go_wp2
 go_loopg [3] k (fun kq v3 w' => ∃ (x3_1 : Int), v3 = .int .i64 x3_1 ∧ Aside0 (targumref4_Digits.l0 kq a0 x3_1 = some r) ∧ Aside0 (kq ≤ k) ∧ Drawn0 w w')
 case atStart => exact ⟨(0), (by first | rfl | (simp; done) | (simp [*]; done) | (simp [wrap64]; done)), H', ⟨Nat.le_refl _⟩, by repeat (first | exact Drawn0.refl _ | apply Drawn0.step)⟩
 case round =>
  clear H'
  obtain ⟨x3_1, rfl, HA, HK1, ⟨m1, rfl⟩⟩ := hrel
  cases gk with
  | zero => exact absurd HA.out (by simp [targumref4_Digits.l0])
  | succ k1 =>
   have H := HA.out
   clear HA
   simp only [targumref4_Digits.l0] at H
   by_cases c2 : x3_1 < (a0.size : Int)
   ·rw [if_pos c2] at H
    have c2b0 : decide (x3_1 < (a0.size : Int)) = true := decide_eq_true c2
    clear c2
    by_cases c3 : 0 ≤ x3_1
    ·rw [if_pos c3] at H
     have c3b0 : decide (0 ≤ x3_1) = true := decide_eq_true c3
     clear c3
     replace H := Option.bind_eq_some_iff.mp H
     obtain ⟨t225, A50, H⟩ := H
     replace H : (if t225 = true then (targumref4_Digits.l0 k1 a0 (wrap64 (x3_1 + 1))) else (some false)) = some r := H
     have A5 := Aside0.mk A50
     clear A50
     by_cases c6 : t225 = true
     ·subst c6
      have H1 : (targumref4_Digits.l0 k1 a0 (wrap64 (x3_1 + 1))) = some r := by rw [if_pos rfl] at H; exact H
      clear H
      have H := H1
      clear H1
      have H' := Aside0.mk H
      clear H
      have p4 : 0 ≤ (x3_1 : Int) := of_decide_eq_true (by first | (with_reducible assumption) | assumption)
      have q4 : x3_1 < (a0.size : Int) := of_decide_eq_true (by first | (with_reducible assumption) | assumption)
      have hx4 := bt_at a0 x3_1
      replace p4 := eq_true p4
      replace q4 := eq_true q4
      go_wp2_with (first | ((with_reducible refine gate_callee (f := 31) rfl ?_); refine goesL_ (some 13) rfl rfl Tryd.func31 (by kernel_rfl) rfl #[.int .u8 (bt a0 x3_1)] rfl (by (try simp only [List.map_toArray, List.map_cons, List.map_nil]); first | done | rfl | (simp only [List.length_drop, List.length_take]; rfl)) ?_; (with_reducible refine (targumref4_IsDigit.calls (bt a0 x3_1) true _ A5.out).mono ?_); rintro e w' ⟨rfl, ⟨nd, rfl⟩⟩; refine ⟨_, rfl, ?_⟩))
      go_roundg k1
      case measure => have := HK1.out; omega
      case rel => exact ⟨(wrap64 (x3_1 + 1)), (by first | rfl | (simp; done) | (simp [*]; done) | (simp [wrap64]; done)), H', ⟨by have := HK1.out; omega⟩, by repeat (first | exact Drawn0.refl _ | apply Drawn0.step)⟩
     ·replace c6 := Bool.eq_false_iff.mpr c6
      subst c6
      have H1 : (some false) = some r := by rw [if_neg (show ¬ (false = true) by decide)] at H; exact H
      clear H
      have H := H1
      clear H1
      obtain rfl := Option.some.inj H
      have p4 : 0 ≤ (x3_1 : Int) := of_decide_eq_true (by first | (with_reducible assumption) | assumption)
      have q4 : x3_1 < (a0.size : Int) := of_decide_eq_true (by first | (with_reducible assumption) | assumption)
      have hx4 := bt_at a0 x3_1
      replace p4 := eq_true p4
      replace q4 := eq_true q4
      go_wp2_with (first | ((with_reducible refine gate_callee (f := 31) rfl ?_); refine goesL_ (some 13) rfl rfl Tryd.func31 (by kernel_rfl) rfl #[.int .u8 (bt a0 x3_1)] rfl (by (try simp only [List.map_toArray, List.map_cons, List.map_nil]); first | done | rfl | (simp only [List.length_drop, List.length_take]; rfl)) ?_; (with_reducible refine (targumref4_IsDigit.calls (bt a0 x3_1) false _ A5.out).mono ?_); rintro e w' ⟨rfl, ⟨nd, rfl⟩⟩; refine ⟨_, rfl, ?_⟩))
      go_ret
      exact ⟨by first | rfl | (simp; done) | (simp [*]; done) | (simp [wrap64]; done), by repeat (first | exact Drawn0.refl _ | apply Drawn0.step)⟩
    ·rw [if_neg c3] at H
     exact absurd H (by simp)
   ·rw [if_neg c2] at H
    have c2b0 : decide (x3_1 < (a0.size : Int)) = false := decide_eq_false c2
    clear c2
    obtain rfl := Option.some.inj H
    go_wp2
    go_ret
    exact ⟨by first | rfl | (simp; done) | (simp [*]; done) | (simp [wrap64]; done), by repeat (first | exact Drawn0.refl _ | apply Drawn0.step)⟩

/-! ### targumref4_Norm: function 18 -/
def targumref4_Norm.l0 : Nat → Bool → ByteArray → Int → Option (ByteArray)
 | 0, _, _, _ => none
 | k + 1, x0, x1, x5 => if x5 < (wrap64 ((x1.size : Int) - 1)) then (if 0 ≤ x5 then (if x5 < (x1.size : Int) then (if (bt x1 x5) = 48 then (targumref4_Norm.l0 k x0 x1 (wrap64 (x5 + 1))) else (if x5 ≤ (x1.size : Int) then (if x0 = true then (if (x1.extract (x5 : Int).toNat x1.size).toList = ([48] : List UInt8) then (some (x1.extract (x5 : Int).toNat x1.size)) else (if 1 + (x1.extract (x5 : Int).toNat x1.size).size ≤ 9223372036854775807 then (some ((⟨#[45]⟩ : ByteArray) ++ (x1.extract (x5 : Int).toNat x1.size))) else (none))) else (some (x1.extract (x5 : Int).toNat x1.size))) else (none))) else (none)) else (none)) else (if 0 ≤ x5 then (if x5 ≤ (x1.size : Int) then (if x0 = true then (if (x1.extract (x5 : Int).toNat x1.size).toList = ([48] : List UInt8) then (some (x1.extract (x5 : Int).toNat x1.size)) else (if 1 + (x1.extract (x5 : Int).toNat x1.size).size ≤ 9223372036854775807 then (some ((⟨#[45]⟩ : ByteArray) ++ (x1.extract (x5 : Int).toNat x1.size))) else (none))) else (some (x1.extract (x5 : Int).toNat x1.size))) else (none)) else (none))
def targumref4_Norm.f (k : Nat) (a0 : Bool) (a1 : ByteArray) : Option (ByteArray) := (targumref4_Digits.f k a1).bind fun t226 => (if t226 = true then (targumref4_Norm.l0 k a0 a1 0) else (some (⟨#[]⟩ : ByteArray)))
theorem targumref4_Norm.mono_l : ∀ k, (∀ y0 y1 y2, LeO (targumref4_Norm.l0 k y0 y1 y2) (targumref4_Norm.l0 (k + 1) y0 y1 y2))
 | 0 => fun _ _ _ r h => by simp [targumref4_Norm.l0] at h
 | k + 1 => by
  have ih0 := targumref4_Norm.mono_l k
  ·intro y0 y1 y2
   unfold targumref4_Norm.l0
   repeat' first
   | (with_reducible exact ih0 _ _ _)
   | (with_reducible exact targumref4_Digits.mono _ _)
   | (with_reducible exact LeO.refl _)
   | (with_reducible exact LeO.none _)
   | (with_reducible refine LeO.ite ?_ ?_)
   | (with_reducible refine LeO.bind ?_ (fun _ => ?_))
   | exact ih0 _ _ _
   | exact targumref4_Digits.mono _ _
   | exact LeO.none _
   | refine LeO.ite ?_ ?_
   | refine LeO.bind ?_ (fun _ => ?_)
theorem targumref4_Norm.mono : ∀ a0 a1 k, LeO (targumref4_Norm.f k a0 a1) (targumref4_Norm.f (k + 1) a0 a1) := by
 intro a0 a1 k
 have ih0 := targumref4_Norm.mono_l k
 unfold targumref4_Norm.f
 repeat' first
   | (with_reducible exact ih0 _ _ _)
   | (with_reducible exact targumref4_Digits.mono _ _)
   | (with_reducible exact LeO.refl _)
   | (with_reducible exact LeO.none _)
   | (with_reducible refine LeO.ite ?_ ?_)
   | (with_reducible refine LeO.bind ?_ (fun _ => ?_))
   | exact ih0 _ _ _
   | exact targumref4_Digits.mono _ _
   | exact LeO.none _
   | refine LeO.ite ?_ ?_
   | refine LeO.bind ?_ (fun _ => ?_)
set_option maxHeartbeats 40000000 in
set_option maxRecDepth 100000 in
theorem targumref4_Norm.calls (k : Nat) (a0 : Bool) (a1 : ByteArray) (r : ByteArray) (w : World) (h : targumref4_Norm.f k a0 a1 = some r) :
  Calls Tryd.prog 18 #[.bool a0, .string a1] w fun e w' => e = .returned (.string r) ∧ Drawn0 w w' := by
 have H : ((targumref4_Digits.f k a1).bind fun t226 => (if t226 = true then (targumref4_Norm.l0 k a0 a1 0) else (some (⟨#[]⟩ : ByteArray)))) = some r := h
 clear h
 replace H := Option.bind_eq_some_iff.mp H
 obtain ⟨t226, A30, H⟩ := H
 replace H : (if t226 = true then (targumref4_Norm.l0 k a0 a1 0) else (some (⟨#[]⟩ : ByteArray))) = some r := H
 have A3 := Aside0.mk A30
 clear A30
 by_cases c4 : t226 = true
 ·subst c4
  have H1 : (targumref4_Norm.l0 k a0 a1 0) = some r := by rw [if_pos rfl] at H; exact H
  clear H
  have H := H1
  clear H1
  have H' := Aside0.mk H
  clear H
  go_enter Tryd.func18, Tryd.ntmps18
  go_wp2_with (first | ((with_reducible refine gate_callee (f := 33) rfl ?_); refine goesL_ (some 8) rfl rfl Tryd.func33 (by kernel_rfl) rfl #[.string a1] rfl (by (try simp only [List.map_toArray, List.map_cons, List.map_nil]); first | done | rfl | (simp only [List.length_drop, List.length_take]; rfl)) ?_; (with_reducible refine (targumref4_Digits.calls k a1 true _ A3.out).mono ?_); rintro e w' ⟨rfl, ⟨nd, rfl⟩⟩; refine ⟨_, rfl, ?_⟩))
  go_loopg [5] k (fun kq v5 w' => ∃ (x5_1 : Int), v5 = .int .i64 x5_1 ∧ Aside0 (targumref4_Norm.l0 kq a0 a1 x5_1 = some r) ∧ Aside0 (kq ≤ k) ∧ Drawn0 w w')
  case atStart => exact ⟨(0), (by first | rfl | (simp; done) | (simp [*]; done) | (simp [wrap64]; done)), H', ⟨Nat.le_refl _⟩, by repeat (first | exact Drawn0.refl _ | apply Drawn0.step)⟩
  case round =>
   clear H'
   try clear c1; try clear p2; try clear c3; try clear c4
   obtain ⟨x5_1, rfl, HA, HK1, ⟨m1, rfl⟩⟩ := hrel
   cases gk with
   | zero => exact absurd HA.out (by simp [targumref4_Norm.l0])
   | succ k1 =>
    have H := HA.out
    clear HA
    simp only [targumref4_Norm.l0] at H
    by_cases c5 : x5_1 < (wrap64 ((a1.size : Int) - 1))
    ·rw [if_pos c5] at H
     have c5b0 : decide (x5_1 < (wrap64 ((a1.size : Int) - 1))) = true := decide_eq_true c5
     clear c5
     by_cases c6 : 0 ≤ x5_1
     ·rw [if_pos c6] at H
      have c6b0 : decide (0 ≤ x5_1) = true := decide_eq_true c6
      clear c6
      by_cases c7 : x5_1 < (a1.size : Int)
      ·rw [if_pos c7] at H
       have c7b0 : decide (x5_1 < (a1.size : Int)) = true := decide_eq_true c7
       clear c7
       by_cases c9 : (bt a1 x5_1) = 48
       ·rw [if_pos c9] at H
        have c9b0 : ((bt a1 x5_1) == 48) = true := beq_iff_eq.mpr c9
        have c9b1 : ((bt a1 x5_1) != 48) = false := bne_eq_false_iff_eq.mpr c9
        clear c9
        have H' := Aside0.mk H
        clear H
        have p8 : 0 ≤ (x5_1 : Int) := of_decide_eq_true (by first | (with_reducible assumption) | assumption)
        have q8 : x5_1 < (a1.size : Int) := of_decide_eq_true (by first | (with_reducible assumption) | assumption)
        have hx8 := bt_at a1 x5_1
        replace p8 := eq_true p8
        replace q8 := eq_true q8
        go_wp2
        go_roundg k1
        case measure => have := HK1.out; omega
        case rel => exact ⟨(wrap64 (x5_1 + 1)), (by first | rfl | (simp; done) | (simp [*]; done) | (simp [wrap64]; done)), H', ⟨by have := HK1.out; omega⟩, by repeat (first | exact Drawn0.refl _ | apply Drawn0.step)⟩
       ·rw [if_neg c9] at H
        have c9b0 : ((bt a1 x5_1) == 48) = false := beq_eq_false_iff_ne.mpr c9
        have c9b1 : ((bt a1 x5_1) != 48) = true := bne_iff_ne.mpr c9
        have c10b0 := eq_true (of_decide_eq_true (by first | (with_reducible assumption) | assumption) : 0 ≤ x5_1)
        by_cases c11 : x5_1 ≤ (a1.size : Int)
        ·rw [if_pos c11] at H
         have c11b0 := eq_true c11
         have c11b1 : decide (x5_1 ≤ (a1.size : Int)) = true := decide_eq_true c11
         clear c11
         by_cases c12 : a0 = true
         ·subst c12
          have H1 : (if (a1.extract (x5_1 : Int).toNat a1.size).toList = ([48] : List UInt8) then (some (a1.extract (x5_1 : Int).toNat a1.size)) else (if 1 + (a1.extract (x5_1 : Int).toNat a1.size).size ≤ 9223372036854775807 then (some ((⟨#[45]⟩ : ByteArray) ++ (a1.extract (x5_1 : Int).toNat a1.size))) else (none))) = some r := by rw [if_pos rfl] at H; exact H
          clear H
          have H := H1
          clear H1
          by_cases c13 : (a1.extract (x5_1 : Int).toNat a1.size).toList = ([48] : List UInt8)
          ·rw [if_pos c13] at H
           have c13b0 : ((a1.extract (x5_1 : Int).toNat a1.size).toList == ([48] : List UInt8)) = true := beq_iff_eq.mpr c13
           have c13b1 : ((a1.extract (x5_1 : Int).toNat a1.size).toList != ([48] : List UInt8)) = false := bne_eq_false_iff_eq.mpr c13
           clear c13
           obtain rfl := Option.some.inj H
           have p8 : 0 ≤ (x5_1 : Int) := of_decide_eq_true (by first | (with_reducible assumption) | assumption)
           have q8 : x5_1 < (a1.size : Int) := of_decide_eq_true (by first | (with_reducible assumption) | assumption)
           have hx8 := bt_at a1 x5_1
           replace p8 := eq_true p8
           replace q8 := eq_true q8
           go_wp2
           go_ret
           exact ⟨by first | rfl | (simp; done) | (simp [*]; done) | (simp [wrap64]; done), by repeat (first | exact Drawn0.refl _ | apply Drawn0.step)⟩
          ·rw [if_neg c13] at H
           have c13b0 : ((a1.extract (x5_1 : Int).toNat a1.size).toList == ([48] : List UInt8)) = false := beq_eq_false_iff_ne.mpr c13
           have c13b1 : ((a1.extract (x5_1 : Int).toNat a1.size).toList != ([48] : List UInt8)) = true := bne_iff_ne.mpr c13
           by_cases c14 : 1 + (a1.extract (x5_1 : Int).toNat a1.size).size ≤ 9223372036854775807
           ·rw [if_pos c14] at H
            have c14b0 := eq_true c14
            have c14b1 : decide (1 + (a1.extract (x5_1 : Int).toNat a1.size).size ≤ 9223372036854775807) = true := decide_eq_true c14
            try have c14b2 : (9223372036854775807 < 1 + (a1.extract (x5_1 : Int).toNat a1.size).size) = False := eq_false (Nat.not_lt.2 c14)
            try have c14b3 : (9223372036854775807 < 1 + (a1.size - (x5_1 : Int).toNat)) = False := eq_false (Nat.not_lt.2 (by have z_ := c14; simp only [ByteArray.size_append, ByteArray.size_extract, Nat.min_self] at z_; exact z_))
            obtain rfl := Option.some.inj H
            have p8 : 0 ≤ (x5_1 : Int) := of_decide_eq_true (by first | (with_reducible assumption) | assumption)
            have q8 : x5_1 < (a1.size : Int) := of_decide_eq_true (by first | (with_reducible assumption) | assumption)
            have hx8 := bt_at a1 x5_1
            replace p8 := eq_true p8
            replace q8 := eq_true q8
            go_wp2
            go_ret
            exact ⟨by first | rfl | (simp; done) | (simp [*]; done) | (simp [wrap64]; done), by repeat (first | exact Drawn0.refl _ | apply Drawn0.step)⟩
           ·rw [if_neg c14] at H
            exact absurd H (by simp)
         ·replace c12 := Bool.eq_false_iff.mpr c12
          subst c12
          have H1 : (some (a1.extract (x5_1 : Int).toNat a1.size)) = some r := by rw [if_neg (show ¬ (false = true) by decide)] at H; exact H
          clear H
          have H := H1
          clear H1
          obtain rfl := Option.some.inj H
          have p8 : 0 ≤ (x5_1 : Int) := of_decide_eq_true (by first | (with_reducible assumption) | assumption)
          have q8 : x5_1 < (a1.size : Int) := of_decide_eq_true (by first | (with_reducible assumption) | assumption)
          have hx8 := bt_at a1 x5_1
          replace p8 := eq_true p8
          replace q8 := eq_true q8
          go_wp2
          go_ret
          exact ⟨by first | rfl | (simp; done) | (simp [*]; done) | (simp [wrap64]; done), by repeat (first | exact Drawn0.refl _ | apply Drawn0.step)⟩
        ·rw [if_neg c11] at H
         exact absurd H (by simp)
      ·rw [if_neg c7] at H
       exact absurd H (by simp)
     ·rw [if_neg c6] at H
      exact absurd H (by simp)
    ·rw [if_neg c5] at H
     have c5b0 : decide (x5_1 < (wrap64 ((a1.size : Int) - 1))) = false := decide_eq_false c5
     clear c5
     by_cases c15 : 0 ≤ x5_1
     ·rw [if_pos c15] at H
      have c15b0 := eq_true c15
      have c15b1 : decide (0 ≤ x5_1) = true := decide_eq_true c15
      clear c15
      by_cases c16 : x5_1 ≤ (a1.size : Int)
      ·rw [if_pos c16] at H
       have c16b0 := eq_true c16
       have c16b1 : decide (x5_1 ≤ (a1.size : Int)) = true := decide_eq_true c16
       clear c16
       by_cases c17 : a0 = true
       ·subst c17
        have H1 : (if (a1.extract (x5_1 : Int).toNat a1.size).toList = ([48] : List UInt8) then (some (a1.extract (x5_1 : Int).toNat a1.size)) else (if 1 + (a1.extract (x5_1 : Int).toNat a1.size).size ≤ 9223372036854775807 then (some ((⟨#[45]⟩ : ByteArray) ++ (a1.extract (x5_1 : Int).toNat a1.size))) else (none))) = some r := by rw [if_pos rfl] at H; exact H
        clear H
        have H := H1
        clear H1
        by_cases c18 : (a1.extract (x5_1 : Int).toNat a1.size).toList = ([48] : List UInt8)
        ·rw [if_pos c18] at H
         have c18b0 : ((a1.extract (x5_1 : Int).toNat a1.size).toList == ([48] : List UInt8)) = true := beq_iff_eq.mpr c18
         have c18b1 : ((a1.extract (x5_1 : Int).toNat a1.size).toList != ([48] : List UInt8)) = false := bne_eq_false_iff_eq.mpr c18
         clear c18
         obtain rfl := Option.some.inj H
         go_wp2
         go_ret
         exact ⟨by first | rfl | (simp; done) | (simp [*]; done) | (simp [wrap64]; done), by repeat (first | exact Drawn0.refl _ | apply Drawn0.step)⟩
        ·rw [if_neg c18] at H
         have c18b0 : ((a1.extract (x5_1 : Int).toNat a1.size).toList == ([48] : List UInt8)) = false := beq_eq_false_iff_ne.mpr c18
         have c18b1 : ((a1.extract (x5_1 : Int).toNat a1.size).toList != ([48] : List UInt8)) = true := bne_iff_ne.mpr c18
         by_cases c19 : 1 + (a1.extract (x5_1 : Int).toNat a1.size).size ≤ 9223372036854775807
         ·rw [if_pos c19] at H
          have c19b0 := eq_true c19
          have c19b1 : decide (1 + (a1.extract (x5_1 : Int).toNat a1.size).size ≤ 9223372036854775807) = true := decide_eq_true c19
          try have c19b2 : (9223372036854775807 < 1 + (a1.extract (x5_1 : Int).toNat a1.size).size) = False := eq_false (Nat.not_lt.2 c19)
          try have c19b3 : (9223372036854775807 < 1 + (a1.size - (x5_1 : Int).toNat)) = False := eq_false (Nat.not_lt.2 (by have z_ := c19; simp only [ByteArray.size_append, ByteArray.size_extract, Nat.min_self] at z_; exact z_))
          obtain rfl := Option.some.inj H
          go_wp2
          go_ret
          exact ⟨by first | rfl | (simp; done) | (simp [*]; done) | (simp [wrap64]; done), by repeat (first | exact Drawn0.refl _ | apply Drawn0.step)⟩
         ·rw [if_neg c19] at H
          exact absurd H (by simp)
       ·replace c17 := Bool.eq_false_iff.mpr c17
        subst c17
        have H1 : (some (a1.extract (x5_1 : Int).toNat a1.size)) = some r := by rw [if_neg (show ¬ (false = true) by decide)] at H; exact H
        clear H
        have H := H1
        clear H1
        obtain rfl := Option.some.inj H
        go_wp2
        go_ret
        exact ⟨by first | rfl | (simp; done) | (simp [*]; done) | (simp [wrap64]; done), by repeat (first | exact Drawn0.refl _ | apply Drawn0.step)⟩
      ·rw [if_neg c16] at H
       exact absurd H (by simp)
     ·rw [if_neg c15] at H
      exact absurd H (by simp)
 ·replace c4 := Bool.eq_false_iff.mpr c4
  subst c4
  have H1 : (some (⟨#[]⟩ : ByteArray)) = some r := by rw [if_neg (show ¬ (false = true) by decide)] at H; exact H
  clear H
  have H := H1
  clear H1
  obtain rfl := Option.some.inj H
  go_enter Tryd.func18, Tryd.ntmps18
  go_wp2_with (first | ((with_reducible refine gate_callee (f := 33) rfl ?_); refine goesL_ (some 8) rfl rfl Tryd.func33 (by kernel_rfl) rfl #[.string a1] rfl (by (try simp only [List.map_toArray, List.map_cons, List.map_nil]); first | done | rfl | (simp only [List.length_drop, List.length_take]; rfl)) ?_; (with_reducible refine (targumref4_Digits.calls k a1 false _ A3.out).mono ?_); rintro e w' ⟨rfl, ⟨nd, rfl⟩⟩; refine ⟨_, rfl, ?_⟩))
  go_ret
  exact ⟨by first | rfl | (simp; done) | (simp [*]; done) | (simp [wrap64]; done), by repeat (first | exact Drawn0.refl _ | apply Drawn0.step)⟩

/-! ### targumref4_mulAdd: function 35 -/
mutual
def targumref4_mulAdd.l0 : Nat → ByteArray → Int → List Int → Int → Int → Option (ByteArray)
 | 0, _, _, _, _, _ => none
 | k + 1, x0, x1, x7, x8, x9 => if x9 ≥ 0 then (if 0 ≤ x9 then (if x9 < (x0.size : Int) then (if x9 < (x7.length : Int) then (targumref4_mulAdd.l0 k x0 x1 (x7.set (x9 : Int).toNat ((wrap64 (48 + (Int.tmod (wrap64 (x8 + (wrap64 ((((bt x0 x9) - 48) % 256) * x1)))) 10))) % 256)) (wrap64 (Int.tdiv (wrap64 (x8 + (wrap64 ((((bt x0 x9) - 48) % 256) * x1)))) 10)) (wrap64 (x9 - 1))) else (none)) else (none)) else (none)) else (targumref4_mulAdd.l1 k x7 x8 (⟨#[]⟩ : ByteArray))
def targumref4_mulAdd.l1 : Nat → List Int → Int → ByteArray → Option (ByteArray)
 | 0, _, _, _ => none
 | k + 1, x7, x8, x10 => if x8 > 0 then ((some (([(wrap64 (48 + (Int.tmod x8 10))) % 256] : List Int) : List Int)).bind fun y231 => (if (strOfNums y231).size + x10.size ≤ 9223372036854775807 then (targumref4_mulAdd.l1 k x7 (wrap64 (Int.tdiv x8 10)) ((strOfNums y231) ++ x10)) else (none))) else (if x10.size + (strOfNums x7).size ≤ 9223372036854775807 then ((targumref4_Norm.f k false (x10 ++ (strOfNums x7))).bind fun t234 => (some t234)) else (none))
end
def targumref4_mulAdd.f (k : Nat) (a0 : ByteArray) (a1 : Int) (a2 : Int) : Option (ByteArray) := if 0 ≤ (a0.size : Int) then (if ((a0.size : Int) : Int).toNat ≤ 281474976710656 then (targumref4_mulAdd.l0 k a0 a1 (List.replicate ((a0.size : Int) : Int).toNat 0) a2 (wrap64 ((a0.size : Int) - 1))) else (none)) else (none)
theorem targumref4_mulAdd.mono_l : ∀ k, (∀ y0 y1 y2 y3 y4, LeO (targumref4_mulAdd.l0 k y0 y1 y2 y3 y4) (targumref4_mulAdd.l0 (k + 1) y0 y1 y2 y3 y4)) ∧ (∀ y0 y1 y2, LeO (targumref4_mulAdd.l1 k y0 y1 y2) (targumref4_mulAdd.l1 (k + 1) y0 y1 y2))
 | 0 => ⟨fun _ _ _ _ _ r h => by simp [targumref4_mulAdd.l0] at h, fun _ _ _ r h => by simp [targumref4_mulAdd.l1] at h⟩
 | k + 1 => by
  obtain ⟨ih0, ih1⟩ := targumref4_mulAdd.mono_l k
  refine ⟨?_, ?_⟩
  ·intro y0 y1 y2 y3 y4
   unfold targumref4_mulAdd.l0
   repeat' first
   | (with_reducible exact ih0 _ _ _ _ _)
   | (with_reducible exact ih1 _ _ _)
   | (with_reducible exact targumref4_Norm.mono _ _ _)
   | (with_reducible exact LeO.refl _)
   | (with_reducible exact LeO.none _)
   | (with_reducible refine LeO.ite ?_ ?_)
   | (with_reducible refine LeO.bind ?_ (fun _ => ?_))
   | exact ih0 _ _ _ _ _
   | exact ih1 _ _ _
   | exact targumref4_Norm.mono _ _ _
   | exact LeO.none _
   | refine LeO.ite ?_ ?_
   | refine LeO.bind ?_ (fun _ => ?_)
  ·intro y0 y1 y2
   unfold targumref4_mulAdd.l1
   repeat' first
   | (with_reducible exact ih0 _ _ _ _ _)
   | (with_reducible exact ih1 _ _ _)
   | (with_reducible exact targumref4_Norm.mono _ _ _)
   | (with_reducible exact LeO.refl _)
   | (with_reducible exact LeO.none _)
   | (with_reducible refine LeO.ite ?_ ?_)
   | (with_reducible refine LeO.bind ?_ (fun _ => ?_))
   | exact ih0 _ _ _ _ _
   | exact ih1 _ _ _
   | exact targumref4_Norm.mono _ _ _
   | exact LeO.none _
   | refine LeO.ite ?_ ?_
   | refine LeO.bind ?_ (fun _ => ?_)
theorem targumref4_mulAdd.mono : ∀ a0 a1 a2 k, LeO (targumref4_mulAdd.f k a0 a1 a2) (targumref4_mulAdd.f (k + 1) a0 a1 a2) := by
 intro a0 a1 a2 k
 obtain ⟨ih0, ih1⟩ := targumref4_mulAdd.mono_l k
 unfold targumref4_mulAdd.f
 repeat' first
   | (with_reducible exact ih0 _ _ _ _ _)
   | (with_reducible exact ih1 _ _ _)
   | (with_reducible exact targumref4_Norm.mono _ _ _)
   | (with_reducible exact LeO.refl _)
   | (with_reducible exact LeO.none _)
   | (with_reducible refine LeO.ite ?_ ?_)
   | (with_reducible refine LeO.bind ?_ (fun _ => ?_))
   | exact ih0 _ _ _ _ _
   | exact ih1 _ _ _
   | exact targumref4_Norm.mono _ _ _
   | exact LeO.none _
   | refine LeO.ite ?_ ?_
   | refine LeO.bind ?_ (fun _ => ?_)
set_option maxHeartbeats 40000000 in
set_option maxRecDepth 100000 in
theorem targumref4_mulAdd.calls (k : Nat) (a0 : ByteArray) (a1 : Int) (a2 : Int) (r : ByteArray) (w : World) (h : targumref4_mulAdd.f k a0 a1 a2 = some r) :
  Calls Tryd.prog 35 #[.string a0, .int .i64 a1, .int .i64 a2] w fun e w' => e = .returned (.string r) ∧ Below w.heap.size w w' := by
 have HB := Aside0.mk (Below.refl w.heap.size w)
 have H : (if 0 ≤ (a0.size : Int) then (if ((a0.size : Int) : Int).toNat ≤ 281474976710656 then (targumref4_mulAdd.l0 k a0 a1 (List.replicate ((a0.size : Int) : Int).toNat 0) a2 (wrap64 ((a0.size : Int) - 1))) else (none)) else (none)) = some r := h
 clear h
 by_cases c4 : 0 ≤ (a0.size : Int)
 ·rw [if_pos c4] at H
  have c4b0 := eq_true c4
  have c4b1 : decide (0 ≤ (a0.size : Int)) = true := decide_eq_true c4
  clear c4
  by_cases c5 : ((a0.size : Int) : Int).toNat ≤ 281474976710656
  ·rw [if_pos c5] at H
   have c5b0 := eq_true c5
   have c5b1 : decide (((a0.size : Int) : Int).toNat ≤ 281474976710656) = true := decide_eq_true c5
   clear c5
   obtain ⟨y227, hy227⟩ : ∃ y_ : List Int, y_ = (List.replicate ((a0.size : Int) : Int).toNat 0) := ⟨_, rfl⟩
   replace H : (targumref4_mulAdd.l0 k a0 a1 y227 a2 (wrap64 ((a0.size : Int) - 1))) = some r := by first | (rw [hy227]; with_reducible exact H) | (have H2_ := (Option.bind_some _ _).symm.trans H; rw [hy227]; with_reducible exact H2_) | (have H2_ := (Option.bind_some _ _).symm.trans H; with_reducible exact H2_) | with_reducible exact H | (rw [hy227]; exact H) | exact H
   have Ny227 := Aside0.mk hy227
   clear hy227
   have H' := Aside0.mk H
   clear H
   go_enter Tryd.func35, Tryd.ntmps35
   go_wp2_with (first | ((with_reducible refine gate_dst (N := 13) rfl ?_); refine Kd.R_make (Kd.int .u8) _ 5 rfl (N := 13) rfl 22 _ _ rfl (a0.size : Int) rfl rfl Tryd.underlying22 (.int .u8 0) 1 info5 rfl (by decide) (by omega) 0 (ok := fun _ => True) (okp := fun _ => True) rfl (fun _ hk => hk) trivial (of_decide_eq_true (by first | (with_reducible assumption) | assumption)) (Nat.le_trans (Nat.mul_le_mul_right _ (of_decide_eq_true (by first | (with_reducible assumption) | assumption) : (a0.size : Int).toNat ≤ 281474976710656)) (by omega)) (Below.refl _ _) (Nat.le_refl _) ?_; intro v228 w6 ho7 hb hg_ hnew_; clear hg_ hnew_; (first | rw [← Ny227.out] at ho7 | (simp only [Int.reduceToNat] at ho7; rw [← Ny227.out] at ho7)); have n0_ := Aside0.mk (Kd.R_lower ho7 (below_size bl)); have n1_ := Aside0.mk (below_step bl hb); clear HB; have HO229 := n0_; have HB := n1_; clear n0_ n1_; clear hb ho7))
   go_loopg [8, 9] k (fun kq v8 v9 w' => ∃ (x7_1 : List Int) (x8_1 : Int) (x9_1 : Int), v8 = .int .i64 x8_1 ∧ v9 = .int .i64 x9_1 ∧ Aside0 (targumref4_mulAdd.l0 kq a0 a1 x7_1 x8_1 x9_1 = some r) ∧ Aside0 (kq ≤ k) ∧ Aside0 (Kd.R (Kd.int .u8) 5 w' w.heap.size (fun _ => True) v228 x7_1) ∧ Aside0 (Below w.heap.size w w'))
   case atStart => exact ⟨(y227), (a2), (wrap64 ((a0.size : Int) - 1)), (by first | rfl | (simp; done) | (simp [*]; done) | (simp [wrap64]; done)), (by first | rfl | (simp; done) | (simp [*]; done) | (simp [wrap64]; done)), H', ⟨Nat.le_refl _⟩, ⟨by (with_reducible repeat (first | apply Kd.R_alloc | apply Kd.R_drewN | apply Kd.R_drew)); exact HO229.out⟩, ⟨bl⟩⟩
   case round =>
    clear H'
    try clear p2; try clear c3; try clear c4; try clear c4b0; try clear c4b1; try clear c5; try clear c5b0; try clear c5b1; try clear p6
    obtain ⟨x7_1, x8_1, x9_1, rfl, rfl, HA, HK1, HO_7, HB⟩ := hrel
    cases gk with
    | zero => exact absurd HA.out (by simp [targumref4_mulAdd.l0])
    | succ k1 =>
     have H := HA.out
     clear HA
     simp only [targumref4_mulAdd.l0] at H
     by_cases c8 : x9_1 ≥ 0
     ·rw [if_pos c8] at H
      have c8b0 : decide (0 ≤ x9_1) = true := decide_eq_true c8
      clear c8
      by_cases c9 : 0 ≤ x9_1
      ·rw [if_pos c9] at H
       have c9b0 : decide (0 ≤ x9_1) = true := decide_eq_true c9
       clear c9
       by_cases c10 : x9_1 < (a0.size : Int)
       ·rw [if_pos c10] at H
        have c10b0 : decide (x9_1 < (a0.size : Int)) = true := decide_eq_true c10
        clear c10
        by_cases c12 : x9_1 < (x7_1.length : Int)
        ·rw [if_pos c12] at H
         have c12b0 : decide (x9_1 < (x7_1.length : Int)) = true := decide_eq_true c12
         clear c12
         obtain ⟨y230, hy230⟩ : ∃ y_ : List Int, y_ = (x7_1.set (x9_1 : Int).toNat ((wrap64 (48 + (Int.tmod (wrap64 (x8_1 + (wrap64 ((((bt a0 x9_1) - 48) % 256) * a1)))) 10))) % 256)) := ⟨_, rfl⟩
         replace H : (targumref4_mulAdd.l0 k1 a0 a1 y230 (wrap64 (Int.tdiv (wrap64 (x8_1 + (wrap64 ((((bt a0 x9_1) - 48) % 256) * a1)))) 10)) (wrap64 (x9_1 - 1))) = some r := by first | (rw [hy230]; with_reducible exact H) | (have H2_ := (Option.bind_some _ _).symm.trans H; rw [hy230]; with_reducible exact H2_) | (have H2_ := (Option.bind_some _ _).symm.trans H; with_reducible exact H2_) | with_reducible exact H | (rw [hy230]; exact H) | exact H
         have Ny230 := Aside0.mk hy230
         clear hy230
         have H' := Aside0.mk H
         clear H
         have p11 : 0 ≤ (x9_1 : Int) := of_decide_eq_true (by first | (with_reducible assumption) | assumption)
         have q11 : x9_1 < (a0.size : Int) := of_decide_eq_true (by first | (with_reducible assumption) | assumption)
         have hx11 := bt_at a0 x9_1
         replace p11 := eq_true p11
         replace q11 := eq_true q11
         have p13 : 0 ≤ (x9_1 : Int) := of_decide_eq_true (by first | (with_reducible assumption) | assumption)
         have q13 : (x9_1 : Int) < ((x7_1.length : Int) : Int) := of_decide_eq_true (by first | (with_reducible assumption) | assumption)
         obtain ⟨go13, co13, eo13, gb13, gl13, cl13, HG13⟩ := Kd.R_form HO_7.out (by omega)
         (first | cases eo13 | (injection eo13 with ea_ en_ ec_; (first | subst ea_ | (injection ea_ with ea_; subst ea_)); subst ec_; clear en_))
         have GB13 := Aside0.mk gb13
         have GG13 := Aside0.mk HG13
         clear gb13 gl13 HG13
         obtain ⟨hx13_0, hf13_0⟩ := Kd.R_celln 0 HO_7.out (x9_1 : Int) p13 q13
         replace p13 := eq_true p13
         replace q13 := eq_true q13
         have HP14 := Kd.R_putg HO_7.out (x9_1 : Int) ((wrap64 (48 + (Int.tmod (wrap64 (x8_1 + (wrap64 ((((bt a0 x9_1) - 48) % 256) * a1)))) 10))) % 256)
         go_wp2_with (first | ((with_reducible refine gate_store (t := 5) (p := 37) rfl ?_); refine store_event (t := 5) (p := 37) (v := ?vo_w15) (w1 := (wr.setCell ⟨go13, (x9_1 : Int).toNat, none⟩ (.int .u8 ((wrap64 (48 + (Int.tmod (wrap64 (x8_1 + (wrap64 ((((bt a0 x9_1) - 48) % 256) * a1)))) 10))) % 256)))) ?hg ?ho ?hn ?hr ?_; (case ho => rfl); (case hg => rfl); (case hn => rfl); (case hr => first | (go_simp; done) | (go_simp; rfl)); intro w15 hw; have hg : wr.grownBy w15 (some go13) := (by rw [hw]; exact HP14.2); have hp_ : Kd.R (Kd.int .u8) 5 w15 w.heap.size (fun _ => True) (.slice (some ⟨go13, 0, none⟩) x7_1.length co13) y230 := (by rw [hw, Ny230.out]; exact HP14.1); clear HP14; have n0_ := Aside0.mk (hp_); have n1_ := Aside0.mk ((by rw [hw]; exact below_set (HB.out) GB13.out : Below w.heap.size w w15)); clear HO_7; clear HB; have HO_7 := n0_; have HB := n1_; clear n0_ n1_; clear hg hw hp_))
         go_roundg k1
         case measure => have := HK1.out; omega
         case rel => exact ⟨(y230), (wrap64 (Int.tdiv (wrap64 (x8_1 + (wrap64 ((((bt a0 x9_1) - 48) % 256) * a1)))) 10)), (wrap64 (x9_1 - 1)), (by first | rfl | (simp; done) | (simp [*]; done) | (simp [wrap64]; done)), (by first | rfl | (simp; done) | (simp [*]; done) | (simp [wrap64]; done)), H', ⟨by have := HK1.out; omega⟩, ⟨by (with_reducible repeat (first | apply Kd.R_alloc | apply Kd.R_drewN | apply Kd.R_drew)); exact HO_7.out⟩, ⟨bl⟩⟩
        ·rw [if_neg c12] at H
         exact absurd H (by simp)
       ·rw [if_neg c10] at H
        exact absurd H (by simp)
      ·rw [if_neg c9] at H
       exact absurd H (by simp)
     ·rw [if_neg c8] at H
      have c8b0 : decide (0 ≤ x9_1) = false := decide_eq_false c8
      clear c8
      have H' := Aside0.mk H
      clear H
      go_wp2
      go_loopg [8, 10] k1 (fun kq v8 v10 w' => ∃ (x8_2 : Int) (x10_2 : ByteArray), v8 = .int .i64 x8_2 ∧ v10 = .string x10_2 ∧ Aside0 (targumref4_mulAdd.l1 kq x7_1 x8_2 x10_2 = some r) ∧ Aside0 (kq ≤ k1) ∧ Aside0 (Kd.R (Kd.int .u8) 5 w' w.heap.size (fun _ => True) v228 x7_1) ∧ Aside0 (Below w.heap.size w w'))
      case atStart => exact ⟨(x8_1), ((⟨#[]⟩ : ByteArray)), (by first | rfl | (simp; done) | (simp [*]; done) | (simp [wrap64]; done)), (by first | rfl | (simp; done) | (simp [*]; done) | (simp [wrap64]; done)), H', ⟨Nat.le_refl _⟩, ⟨by (with_reducible repeat (first | apply Kd.R_alloc | apply Kd.R_drewN | apply Kd.R_drew)); exact HO_7.out⟩, ⟨bl⟩⟩
      case round =>
       clear H'
       try clear c1; try clear p1; try clear q1; try clear hx1; try clear p2; try clear c3; try clear c4; try clear c4b0; try clear c4b1; try clear c5; try clear c5b0; try clear c5b1; try clear p6; try clear c8; try clear c8b0; try clear c9; try clear c9b0; try clear c10; try clear c10b0; try clear p11; try clear q11; try clear hx11; try clear c12; try clear c12b0; try clear p13; try clear q13; try clear hx13; try clear hf13; try clear hx13_0; try clear p11; try clear p13; try clear p2; try clear p6; try clear q11; try clear q13
       obtain ⟨x8_2, x10_2, rfl, rfl, HA, HK2, HO_7, HB⟩ := hrel
       cases gk with
       | zero => exact absurd HA.out (by simp [targumref4_mulAdd.l1])
       | succ k2 =>
        have H := HA.out
        clear HA
        simp only [targumref4_mulAdd.l1] at H
        by_cases c16 : x8_2 > 0
        ·rw [if_pos c16] at H
         have c16b0 : decide (0 < x8_2) = true := decide_eq_true c16
         clear c16
         obtain ⟨y231, hy231⟩ : ∃ y_ : List Int, y_ = (([(wrap64 (48 + (Int.tmod x8_2 10))) % 256] : List Int)) := ⟨_, rfl⟩
         replace H : (if (strOfNums y231).size + x10_2.size ≤ 9223372036854775807 then (targumref4_mulAdd.l1 k2 x7_1 (wrap64 (Int.tdiv x8_2 10)) ((strOfNums y231) ++ x10_2)) else (none)) = some r := by first | (rw [hy231]; with_reducible exact H) | (have H2_ := (Option.bind_some _ _).symm.trans H; rw [hy231]; with_reducible exact H2_) | (have H2_ := (Option.bind_some _ _).symm.trans H; with_reducible exact H2_) | with_reducible exact H | (rw [hy231]; exact H) | exact H
         have Ny231 := Aside0.mk hy231
         clear hy231
         by_cases c17 : (strOfNums y231).size + x10_2.size ≤ 9223372036854775807
         ·rw [if_pos c17] at H
          have c17b0 := eq_true c17
          have c17b1 : decide ((strOfNums y231).size + x10_2.size ≤ 9223372036854775807) = true := decide_eq_true c17
          try have c17b2 : (9223372036854775807 < (strOfNums y231).size + x10_2.size) = False := eq_false (Nat.not_lt.2 c17)
          have H' := Aside0.mk H
          clear H
          go_wp2_with (first | ((with_reducible refine gate_dst (N := 46) rfl ?_); refine Kd.R_lit (Kd.int .u8) _ 5 ?hg (N := 46) ?hd (xs := ([(wrap64 (48 + (Int.tmod x8_2 10))) % 256] : List Int)) (inner := [.int .u8 ((wrap64 (48 + (Int.tmod x8_2 10))) % 256)]) (ok := fun _ => True) (okp := fun _ => True) ?hr ?hp (fun _ hk => hk) trivial (Below.refl _ _) (Nat.le_refl _) (by simp) ?_; (case hd => rfl); (case hg => rfl); (case hr => first | (go_simp; done) | (go_simp; rfl)); (case hp => exact (Reps.one (show Kd.M (Kd.int .u8) _ _ _ ((wrap64 (48 + (Int.tmod x8_2 10))) % 256) [.int .u8 ((wrap64 (48 + (Int.tmod x8_2 10))) % 256)] from rfl) (Reps.none _ _))); intro v232 w18 ho19 hb hg_ hnew_; clear hg_ hnew_; (first | rw [← Ny231.out] at ho19 | (simp only [Int.reduceToNat] at ho19; rw [← Ny231.out] at ho19)); have n0_ := Aside0.mk (Kd.R_elder' (by (with_reducible repeat (first | apply Kd.R_alloc | apply Kd.R_drewN | apply Kd.R_drew)); exact HO_7.out) (Kd.R_base ho19) hb); have n1_ := Aside0.mk (Kd.R_lower (Kd.R_new' ho19 (Kd.R_lt (by (with_reducible repeat (first | apply Kd.R_alloc | apply Kd.R_drewN | apply Kd.R_drew)); exact HO_7.out))) (below_size bl)); have n2_ := Aside0.mk (below_step bl hb); clear HO_7; clear HB; have HO_7 := n0_; have HO233 := n1_; have HB := n2_; clear n0_ n1_ n2_; clear hb ho19; have hcv20 := own_string (P := Tryd.prog) Tryd.underlying22 Tryd.underlying5 Tryd.underlying9 (Kd.own_of_R HO233.out)))
          go_roundg k2
          case measure => have := HK1.out; have := HK2.out; omega
          case rel => exact ⟨(wrap64 (Int.tdiv x8_2 10)), ((strOfNums y231) ++ x10_2), (by first | rfl | (simp; done) | (simp [*]; done) | (simp [wrap64]; done)), (by first | rfl | (simp; done) | (simp [*]; done) | (simp [wrap64]; done)), H', ⟨by have := HK1.out; have := HK2.out; omega⟩, ⟨by (with_reducible repeat (first | apply Kd.R_alloc | apply Kd.R_drewN | apply Kd.R_drew)); exact Kd.R_mono HO_7.out (fun _ hk => trivial)⟩, ⟨bl⟩⟩
         ·rw [if_neg c17] at H
          exact absurd H (by simp)
        ·rw [if_neg c16] at H
         have c16b0 : decide (0 < x8_2) = false := decide_eq_false c16
         clear c16
         by_cases c21 : x10_2.size + (strOfNums x7_1).size ≤ 9223372036854775807
         ·rw [if_pos c21] at H
          have c21b0 := eq_true c21
          have c21b1 : decide (x10_2.size + (strOfNums x7_1).size ≤ 9223372036854775807) = true := decide_eq_true c21
          try have c21b2 : (9223372036854775807 < x10_2.size + (strOfNums x7_1).size) = False := eq_false (Nat.not_lt.2 c21)
          replace H := Option.bind_eq_some_iff.mp H
          obtain ⟨t234, A220, H⟩ := H
          replace H : (some t234) = some r := H
          have A22 := Aside0.mk A220
          clear A220
          obtain rfl := Option.some.inj H
          have hcv23 := own_string (P := Tryd.prog) Tryd.underlying22 Tryd.underlying5 Tryd.underlying9 (Kd.own_of_R HO_7.out)
          go_wp2_with (first | ((with_reducible refine gate_callee (f := 18) rfl ?_); refine goesL_ (some 56) rfl rfl Tryd.func18 (by kernel_rfl) rfl #[.bool false, .string (x10_2 ++ (strOfNums x7_1))] rfl (by (try simp only [List.map_toArray, List.map_cons, List.map_nil]); first | done | rfl | (simp only [List.length_drop, List.length_take]; rfl)) ?_; (with_reducible refine (targumref4_Norm.calls k2 false (x10_2 ++ (strOfNums x7_1)) t234 _ A22.out).mono ?_); rintro e w' ⟨rfl, ⟨nd, rfl⟩⟩; refine ⟨_, rfl, ?_⟩))
          go_ret
          exact ⟨by first | rfl | (simp [errW_none, errW_some] <;> rfl) | (simp [*, errW_none, errW_some] <;> rfl), bl⟩
         ·rw [if_neg c21] at H
          exact absurd H (by simp)
  ·rw [if_neg c5] at H
   exact absurd H (by simp)
 ·rw [if_neg c4] at H
  exact absurd H (by simp)

end Go.Proofs.YtbjlcipamdgnjaaDoor.PN
