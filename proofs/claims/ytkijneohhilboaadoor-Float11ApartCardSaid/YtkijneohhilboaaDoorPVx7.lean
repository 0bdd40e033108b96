/- Written by this session's own program (xprint, made over the kit's print): Lean functions with the same answers as the Go functions, and the proofs of that. Not trusted: Lean checks it. -/
import Derived.Test.YtkijneohhilboaaDoorPVx0
import Derived.Test.YtkijneohhilboaaDoorPVx1
import Derived.Test.YtkijneohhilboaaDoorPVx6
import Derived.Test.YtkijneohhilboaaDoorXW
namespace Go.Proofs.YtkijneohhilboaaDoor.PV
open Go.Proofs.YtkijneohhilboaaDoor.XW Go.RowKit Go.Proofs.YtkijneohhilboaaDoorW.PrintWords Go.Proofs.YtkijneohhilboaaDoorW.PrintLast Go.Proofs.YtkijneohhilboaaDoorW.PrintMore
attribute [local go_sem] max2_int min2_int max_two min_two max_three min_three max_four min_four   -- for this text's walks alone
set_option linter.unusedVariables false
set_option linter.unusedSimpArgs false

attribute [local go_sem high] eqA43
/-! ### targumlaw7_known: function 18 -/
def targumlaw7_known.f (k : Nat)  : Option (Bool) := (float11_Of.f k (⟨#[49, 46]⟩ : ByteArray)).bind fun bt193 => ((float11_Of.f k (⟨#[49, 101, 51]⟩ : ByteArray)).bind fun bt199 => ((float11_Of.f k (⟨#[49, 58, 51, 48, 46, 53]⟩ : ByteArray)).bind fun bt205 => ((float11_Of.f k (⟨#[45, 46, 73, 110, 102]⟩ : ByteArray)).bind fun bt211 => ((float11_Of.f k (⟨#[46, 95]⟩ : ByteArray)).bind fun bt217 => (if bt193.2.2.2.2 = true then (if (bt193.1 == 0 && (!bt193.2.1 && (bt193.2.2.1.toList == ([49] : List UInt8) && (bt193.2.2.2.1.toList == ([48] : List UInt8))))) = true then (if bt199.2.2.2.2 = true then (some false) else (if bt205.2.2.2.2 = true then (if (bt205.1 == 0 && (!bt205.2.1 && (bt205.2.2.1.toList == ([57, 48, 53] : List UInt8) && (bt205.2.2.2.1.toList == ([45, 49] : List UInt8))))) = true then (if bt211.2.2.2.2 = true then (if (bt211.1 == 1 && (bt211.2.1 && (bt211.2.2.1.toList == ([] : List UInt8) && (bt211.2.2.2.1.toList == ([] : List UInt8))))) = true then (if bt217.2.2.2.2 = true then (some false) else ((float11_Form.f k (⟨#[43, 46, 110, 97, 110]⟩ : ByteArray)).bind fun t223 => (if t223 = 0 then ((float11_Form.f k (⟨#[49, 46, 101, 53]⟩ : ByteArray)).bind fun t224 => (if t224 = 0 then ((float11_Form.f k (⟨#[49, 46, 101, 43, 53]⟩ : ByteArray)).bind fun t225 => (if t225 = 1 then ((float11_Form.f k (⟨#[49, 58, 50, 46, 101, 43, 51]⟩ : ByteArray)).bind fun t226 => (some (t226 == 0))) else (some false))) else (some false))) else (some false)))) else (some false)) else (some false)) else (some false)) else (some false))) else (some false)) else (some false))))))
theorem targumlaw7_known.mono : ∀ k, LeO (targumlaw7_known.f k ) (targumlaw7_known.f (k + 1) ) := by
 intro  k
 unfold targumlaw7_known.f
 repeat' first
   | (with_reducible exact float11_Form.mono _ _)
   | (with_reducible exact float11_Of.mono _ _)
   | (with_reducible exact LeO.refl _)
   | (with_reducible exact LeO.none _)
   | (with_reducible refine LeO.ite ?_ ?_)
   | (with_reducible refine LeO.bind ?_ (fun _ => ?_))
   | exact float11_Form.mono _ _
   | exact float11_Of.mono _ _
   | exact LeO.none _
   | refine LeO.ite ?_ ?_
   | refine LeO.bind ?_ (fun _ => ?_)
set_option maxHeartbeats 8000000 in
set_option maxRecDepth 100000 in
theorem targumlaw7_known.calls (k : Nat)  (r : Bool) (w : World) (hG : Go.Proofs.YtkijneohhilboaaDoor.PVT.Tabs w) (h : targumlaw7_known.f k  = some r) :
  Calls Tryd.prog 18 #[] w fun e w' => e = .returned (.bool r) ∧ Below w.heap.size w w' := by
 have hu43 := Tryd.underlying43
 have HG := Aside0.mk hG
 clear hG
 have HB := Aside0.mk (Below.refl w.heap.size w)
 have H : ((float11_Of.f k (⟨#[49, 46]⟩ : ByteArray)).bind fun bt193 => ((float11_Of.f k (⟨#[49, 101, 51]⟩ : ByteArray)).bind fun bt199 => ((float11_Of.f k (⟨#[49, 58, 51, 48, 46, 53]⟩ : ByteArray)).bind fun bt205 => ((float11_Of.f k (⟨#[45, 46, 73, 110, 102]⟩ : ByteArray)).bind fun bt211 => ((float11_Of.f k (⟨#[46, 95]⟩ : ByteArray)).bind fun bt217 => (if bt193.2.2.2.2 = true then (if (bt193.1 == 0 && (!bt193.2.1 && (bt193.2.2.1.toList == ([49] : List UInt8) && (bt193.2.2.2.1.toList == ([48] : List UInt8))))) = true then (if bt199.2.2.2.2 = true then (some false) else (if bt205.2.2.2.2 = true then (if (bt205.1 == 0 && (!bt205.2.1 && (bt205.2.2.1.toList == ([57, 48, 53] : List UInt8) && (bt205.2.2.2.1.toList == ([45, 49] : List UInt8))))) = true then (if bt211.2.2.2.2 = true then (if (bt211.1 == 1 && (bt211.2.1 && (bt211.2.2.1.toList == ([] : List UInt8) && (bt211.2.2.2.1.toList == ([] : List UInt8))))) = true then (if bt217.2.2.2.2 = true then (some false) else ((float11_Form.f k (⟨#[43, 46, 110, 97, 110]⟩ : ByteArray)).bind fun t223 => (if t223 = 0 then ((float11_Form.f k (⟨#[49, 46, 101, 53]⟩ : ByteArray)).bind fun t224 => (if t224 = 0 then ((float11_Form.f k (⟨#[49, 46, 101, 43, 53]⟩ : ByteArray)).bind fun t225 => (if t225 = 1 then ((float11_Form.f k (⟨#[49, 58, 50, 46, 101, 43, 51]⟩ : ByteArray)).bind fun t226 => (some (t226 == 0))) else (some false))) else (some false))) else (some false)))) else (some false)) else (some false)) else (some false)) else (some false))) else (some false)) else (some false))))))) = some r := h
 clear h
 replace H := Option.bind_eq_some_iff.mp H
 obtain ⟨⟨t193, t194, t195, t196, t197⟩, A10, H⟩ := H
 replace H : ((float11_Of.f k (⟨#[49, 101, 51]⟩ : ByteArray)).bind fun bt199 => ((float11_Of.f k (⟨#[49, 58, 51, 48, 46, 53]⟩ : ByteArray)).bind fun bt205 => ((float11_Of.f k (⟨#[45, 46, 73, 110, 102]⟩ : ByteArray)).bind fun bt211 => ((float11_Of.f k (⟨#[46, 95]⟩ : ByteArray)).bind fun bt217 => (if t197 = true then (if (t193 == 0 && (!t194 && (t195.toList == ([49] : List UInt8) && (t196.toList == ([48] : List UInt8))))) = true then (if bt199.2.2.2.2 = true then (some false) else (if bt205.2.2.2.2 = true then (if (bt205.1 == 0 && (!bt205.2.1 && (bt205.2.2.1.toList == ([57, 48, 53] : List UInt8) && (bt205.2.2.2.1.toList == ([45, 49] : List UInt8))))) = true then (if bt211.2.2.2.2 = true then (if (bt211.1 == 1 && (bt211.2.1 && (bt211.2.2.1.toList == ([] : List UInt8) && (bt211.2.2.2.1.toList == ([] : List UInt8))))) = true then (if bt217.2.2.2.2 = true then (some false) else ((float11_Form.f k (⟨#[43, 46, 110, 97, 110]⟩ : ByteArray)).bind fun t223 => (if t223 = 0 then ((float11_Form.f k (⟨#[49, 46, 101, 53]⟩ : ByteArray)).bind fun t224 => (if t224 = 0 then ((float11_Form.f k (⟨#[49, 46, 101, 43, 53]⟩ : ByteArray)).bind fun t225 => (if t225 = 1 then ((float11_Form.f k (⟨#[49, 58, 50, 46, 101, 43, 51]⟩ : ByteArray)).bind fun t226 => (some (t226 == 0))) else (some false))) else (some false))) else (some false)))) else (some false)) else (some false)) else (some false)) else (some false))) else (some false)) else (some false)))))) = some r := H
 have A1 := Aside0.mk A10
 clear A10
 replace H := Option.bind_eq_some_iff.mp H
 obtain ⟨⟨t199, t200, t201, t202, t203⟩, A20, H⟩ := H
 replace H : ((float11_Of.f k (⟨#[49, 58, 51, 48, 46, 53]⟩ : ByteArray)).bind fun bt205 => ((float11_Of.f k (⟨#[45, 46, 73, 110, 102]⟩ : ByteArray)).bind fun bt211 => ((float11_Of.f k (⟨#[46, 95]⟩ : ByteArray)).bind fun bt217 => (if t197 = true then (if (t193 == 0 && (!t194 && (t195.toList == ([49] : List UInt8) && (t196.toList == ([48] : List UInt8))))) = true then (if t203 = true then (some false) else (if bt205.2.2.2.2 = true then (if (bt205.1 == 0 && (!bt205.2.1 && (bt205.2.2.1.toList == ([57, 48, 53] : List UInt8) && (bt205.2.2.2.1.toList == ([45, 49] : List UInt8))))) = true then (if bt211.2.2.2.2 = true then (if (bt211.1 == 1 && (bt211.2.1 && (bt211.2.2.1.toList == ([] : List UInt8) && (bt211.2.2.2.1.toList == ([] : List UInt8))))) = true then (if bt217.2.2.2.2 = true then (some false) else ((float11_Form.f k (⟨#[43, 46, 110, 97, 110]⟩ : ByteArray)).bind fun t223 => (if t223 = 0 then ((float11_Form.f k (⟨#[49, 46, 101, 53]⟩ : ByteArray)).bind fun t224 => (if t224 = 0 then ((float11_Form.f k (⟨#[49, 46, 101, 43, 53]⟩ : ByteArray)).bind fun t225 => (if t225 = 1 then ((float11_Form.f k (⟨#[49, 58, 50, 46, 101, 43, 51]⟩ : ByteArray)).bind fun t226 => (some (t226 == 0))) else (some false))) else (some false))) else (some false)))) else (some false)) else (some false)) else (some false)) else (some false))) else (some false)) else (some false))))) = some r := H
 have A2 := Aside0.mk A20
 clear A20
 replace H := Option.bind_eq_some_iff.mp H
 obtain ⟨⟨t205, t206, t207, t208, t209⟩, A30, H⟩ := H
 replace H : ((float11_Of.f k (⟨#[45, 46, 73, 110, 102]⟩ : ByteArray)).bind fun bt211 => ((float11_Of.f k (⟨#[46, 95]⟩ : ByteArray)).bind fun bt217 => (if t197 = true then (if (t193 == 0 && (!t194 && (t195.toList == ([49] : List UInt8) && (t196.toList == ([48] : List UInt8))))) = true then (if t203 = true then (some false) else (if t209 = true then (if (t205 == 0 && (!t206 && (t207.toList == ([57, 48, 53] : List UInt8) && (t208.toList == ([45, 49] : List UInt8))))) = true then (if bt211.2.2.2.2 = true then (if (bt211.1 == 1 && (bt211.2.1 && (bt211.2.2.1.toList == ([] : List UInt8) && (bt211.2.2.2.1.toList == ([] : List UInt8))))) = true then (if bt217.2.2.2.2 = true then (some false) else ((float11_Form.f k (⟨#[43, 46, 110, 97, 110]⟩ : ByteArray)).bind fun t223 => (if t223 = 0 then ((float11_Form.f k (⟨#[49, 46, 101, 53]⟩ : ByteArray)).bind fun t224 => (if t224 = 0 then ((float11_Form.f k (⟨#[49, 46, 101, 43, 53]⟩ : ByteArray)).bind fun t225 => (if t225 = 1 then ((float11_Form.f k (⟨#[49, 58, 50, 46, 101, 43, 51]⟩ : ByteArray)).bind fun t226 => (some (t226 == 0))) else (some false))) else (some false))) else (some false)))) else (some false)) else (some false)) else (some false)) else (some false))) else (some false)) else (some false)))) = some r := H
 have A3 := Aside0.mk A30
 clear A30
 replace H := Option.bind_eq_some_iff.mp H
 obtain ⟨⟨t211, t212, t213, t214, t215⟩, A40, H⟩ := H
 replace H : ((float11_Of.f k (⟨#[46, 95]⟩ : ByteArray)).bind fun bt217 => (if t197 = true then (if (t193 == 0 && (!t194 && (t195.toList == ([49] : List UInt8) && (t196.toList == ([48] : List UInt8))))) = true then (if t203 = true then (some false) else (if t209 = true then (if (t205 == 0 && (!t206 && (t207.toList == ([57, 48, 53] : List UInt8) && (t208.toList == ([45, 49] : List UInt8))))) = true then (if t215 = true then (if (t211 == 1 && (t212 && (t213.toList == ([] : List UInt8) && (t214.toList == ([] : List UInt8))))) = true then (if bt217.2.2.2.2 = true then (some false) else ((float11_Form.f k (⟨#[43, 46, 110, 97, 110]⟩ : ByteArray)).bind fun t223 => (if t223 = 0 then ((float11_Form.f k (⟨#[49, 46, 101, 53]⟩ : ByteArray)).bind fun t224 => (if t224 = 0 then ((float11_Form.f k (⟨#[49, 46, 101, 43, 53]⟩ : ByteArray)).bind fun t225 => (if t225 = 1 then ((float11_Form.f k (⟨#[49, 58, 50, 46, 101, 43, 51]⟩ : ByteArray)).bind fun t226 => (some (t226 == 0))) else (some false))) else (some false))) else (some false)))) else (some false)) else (some false)) else (some false)) else (some false))) else (some false)) else (some false))) = some r := H
 have A4 := Aside0.mk A40
 clear A40
 replace H := Option.bind_eq_some_iff.mp H
 obtain ⟨⟨t217, t218, t219, t220, t221⟩, A50, H⟩ := H
 replace H : (if t197 = true then (if (t193 == 0 && (!t194 && (t195.toList == ([49] : List UInt8) && (t196.toList == ([48] : List UInt8))))) = true then (if t203 = true then (some false) else (if t209 = true then (if (t205 == 0 && (!t206 && (t207.toList == ([57, 48, 53] : List UInt8) && (t208.toList == ([45, 49] : List UInt8))))) = true then (if t215 = true then (if (t211 == 1 && (t212 && (t213.toList == ([] : List UInt8) && (t214.toList == ([] : List UInt8))))) = true then (if t221 = true then (some false) else ((float11_Form.f k (⟨#[43, 46, 110, 97, 110]⟩ : ByteArray)).bind fun t223 => (if t223 = 0 then ((float11_Form.f k (⟨#[49, 46, 101, 53]⟩ : ByteArray)).bind fun t224 => (if t224 = 0 then ((float11_Form.f k (⟨#[49, 46, 101, 43, 53]⟩ : ByteArray)).bind fun t225 => (if t225 = 1 then ((float11_Form.f k (⟨#[49, 58, 50, 46, 101, 43, 51]⟩ : ByteArray)).bind fun t226 => (some (t226 == 0))) else (some false))) else (some false))) else (some false)))) else (some false)) else (some false)) else (some false)) else (some false))) else (some false)) else (some false)) = some r := H
 have A5 := Aside0.mk A50
 clear A50
 refine Classical.byCases (p := (t197 = true)) (fun c6 => ?x1) (fun c6 => ?y1)
 case' x1 =>
  subst c6
  have H1 : (if (t193 == 0 && (!t194 && (t195.toList == ([49] : List UInt8) && (t196.toList == ([48] : List UInt8))))) = true then (if t203 = true then (some false) else (if t209 = true then (if (t205 == 0 && (!t206 && (t207.toList == ([57, 48, 53] : List UInt8) && (t208.toList == ([45, 49] : List UInt8))))) = true then (if t215 = true then (if (t211 == 1 && (t212 && (t213.toList == ([] : List UInt8) && (t214.toList == ([] : List UInt8))))) = true then (if t221 = true then (some false) else ((float11_Form.f k (⟨#[43, 46, 110, 97, 110]⟩ : ByteArray)).bind fun t223 => (if t223 = 0 then ((float11_Form.f k (⟨#[49, 46, 101, 53]⟩ : ByteArray)).bind fun t224 => (if t224 = 0 then ((float11_Form.f k (⟨#[49, 46, 101, 43, 53]⟩ : ByteArray)).bind fun t225 => (if t225 = 1 then ((float11_Form.f k (⟨#[49, 58, 50, 46, 101, 43, 51]⟩ : ByteArray)).bind fun t226 => (some (t226 == 0))) else (some false))) else (some false))) else (some false)))) else (some false)) else (some false)) else (some false)) else (some false))) else (some false)) = some r := by rw [if_pos rfl] at H; exact H
  clear H
  have H := H1
  clear H1
  refine Classical.byCases (p := ((t193 == 0 && (!t194 && (t195.toList == ([49] : List UInt8) && (t196.toList == ([48] : List UInt8))))) = true)) (fun c7 => ?x2) (fun c7 => ?y2)
  case' x2 =>
   rw [if_pos c7] at H
   have c7b0 : (t193 == 0 && (!t194 && (t195.toList == ([49] : List UInt8) && (t196.toList == ([48] : List UInt8))))) = true := c7
   (try (have c7b1 : decide (t193 = 0 && (!t194 && (t195.toList == ([49] : List UInt8) && (t196.toList == ([48] : List UInt8))))) = true := by simpa using c7))
   (try (have c7b2 : (t193 == 0 && (!t194 && (t195.toList == ([49] : List UInt8) && (t196.toList == ([48] : List UInt8))))) = true := by simpa using c7))
   clear c7
   refine Classical.byCases (p := (t203 = true)) (fun c8 => ?x3) (fun c8 => ?y3)
   case' x3 =>
    subst c8
    have H1 : (some false) = some r := by rw [if_pos rfl] at H; exact H
    clear H
    have H := H1
    clear H1
    obtain rfl := Option.some.inj H
    go_enter Tryd.func18, Tryd.ntmps18
    skip
   case' y3 =>
    replace c8 := Bool.eq_false_iff.mpr c8
    subst c8
    have H1 : (if t209 = true then (if (t205 == 0 && (!t206 && (t207.toList == ([57, 48, 53] : List UInt8) && (t208.toList == ([45, 49] : List UInt8))))) = true then (if t215 = true then (if (t211 == 1 && (t212 && (t213.toList == ([] : List UInt8) && (t214.toList == ([] : List UInt8))))) = true then (if t221 = true then (some false) else ((float11_Form.f k (⟨#[43, 46, 110, 97, 110]⟩ : ByteArray)).bind fun t223 => (if t223 = 0 then ((float11_Form.f k (⟨#[49, 46, 101, 53]⟩ : ByteArray)).bind fun t224 => (if t224 = 0 then ((float11_Form.f k (⟨#[49, 46, 101, 43, 53]⟩ : ByteArray)).bind fun t225 => (if t225 = 1 then ((float11_Form.f k (⟨#[49, 58, 50, 46, 101, 43, 51]⟩ : ByteArray)).bind fun t226 => (some (t226 == 0))) else (some false))) else (some false))) else (some false)))) else (some false)) else (some false)) else (some false)) else (some false)) = some r := by rw [if_neg (show ¬ (false = true) by decide)] at H; exact H
    clear H
    have H := H1
    clear H1
    refine Classical.byCases (p := (t209 = true)) (fun c35 => ?x4) (fun c35 => ?y4)
    case' x4 =>
     subst c35
     have H1 : (if (t205 == 0 && (!t206 && (t207.toList == ([57, 48, 53] : List UInt8) && (t208.toList == ([45, 49] : List UInt8))))) = true then (if t215 = true then (if (t211 == 1 && (t212 && (t213.toList == ([] : List UInt8) && (t214.toList == ([] : List UInt8))))) = true then (if t221 = true then (some false) else ((float11_Form.f k (⟨#[43, 46, 110, 97, 110]⟩ : ByteArray)).bind fun t223 => (if t223 = 0 then ((float11_Form.f k (⟨#[49, 46, 101, 53]⟩ : ByteArray)).bind fun t224 => (if t224 = 0 then ((float11_Form.f k (⟨#[49, 46, 101, 43, 53]⟩ : ByteArray)).bind fun t225 => (if t225 = 1 then ((float11_Form.f k (⟨#[49, 58, 50, 46, 101, 43, 51]⟩ : ByteArray)).bind fun t226 => (some (t226 == 0))) else (some false))) else (some false))) else (some false)))) else (some false)) else (some false)) else (some false)) = some r := by rw [if_pos rfl] at H; exact H
     clear H
     have H := H1
     clear H1
     refine Classical.byCases (p := ((t205 == 0 && (!t206 && (t207.toList == ([57, 48, 53] : List UInt8) && (t208.toList == ([45, 49] : List UInt8))))) = true)) (fun c36 => ?x5) (fun c36 => ?y5)
     case' x5 =>
      rw [if_pos c36] at H
      have c36b0 : (t205 == 0 && (!t206 && (t207.toList == ([57, 48, 53] : List UInt8) && (t208.toList == ([45, 49] : List UInt8))))) = true := c36
      (try (have c36b1 : decide (t205 = 0 && (!t206 && (t207.toList == ([57, 48, 53] : List UInt8) && (t208.toList == ([45, 49] : List UInt8))))) = true := by simpa using c36))
      (try (have c36b2 : (t205 == 0 && (!t206 && (t207.toList == ([57, 48, 53] : List UInt8) && (t208.toList == ([45, 49] : List UInt8))))) = true := by simpa using c36))
      clear c36
      refine Classical.byCases (p := (t215 = true)) (fun c37 => ?x6) (fun c37 => ?y6)
      case' x6 =>
       subst c37
       have H1 : (if (t211 == 1 && (t212 && (t213.toList == ([] : List UInt8) && (t214.toList == ([] : List UInt8))))) = true then (if t221 = true then (some false) else ((float11_Form.f k (⟨#[43, 46, 110, 97, 110]⟩ : ByteArray)).bind fun t223 => (if t223 = 0 then ((float11_Form.f k (⟨#[49, 46, 101, 53]⟩ : ByteArray)).bind fun t224 => (if t224 = 0 then ((float11_Form.f k (⟨#[49, 46, 101, 43, 53]⟩ : ByteArray)).bind fun t225 => (if t225 = 1 then ((float11_Form.f k (⟨#[49, 58, 50, 46, 101, 43, 51]⟩ : ByteArray)).bind fun t226 => (some (t226 == 0))) else (some false))) else (some false))) else (some false)))) else (some false)) = some r := by rw [if_pos rfl] at H; exact H
       clear H
       have H := H1
       clear H1
       refine Classical.byCases (p := ((t211 == 1 && (t212 && (t213.toList == ([] : List UInt8) && (t214.toList == ([] : List UInt8))))) = true)) (fun c38 => ?x7) (fun c38 => ?y7)
       case' x7 =>
        rw [if_pos c38] at H
        have c38b0 : (t211 == 1 && (t212 && (t213.toList == ([] : List UInt8) && (t214.toList == ([] : List UInt8))))) = true := c38
        (try (have c38b4 : (t211 == 1 && (t212 && (t213.toList.isEmpty && (t214.toList.isEmpty)))) = true := by simpa using c38b0))
        (try (have c38b1 : decide (t211 = 1 && (t212 && (t213.toList == ([] : List UInt8) && (t214.toList == ([] : List UInt8))))) = true := by simpa using c38))
        (try (have c38b2 : (t211 == 1 && (t212 && (t213.toList == ([] : List UInt8) && (t214.toList == ([] : List UInt8))))) = true := by simpa using c38))
        clear c38
        refine Classical.byCases (p := (t221 = true)) (fun c39 => ?x8) (fun c39 => ?y8)
        case' x8 =>
         subst c39
         have H1 : (some false) = some r := by rw [if_pos rfl] at H; exact H
         clear H
         have H := H1
         clear H1
         obtain rfl := Option.some.inj H
         go_enter Tryd.func18, Tryd.ntmps18
         skip
        case' y8 =>
         replace c39 := Bool.eq_false_iff.mpr c39
         subst c39
         have H1 : ((float11_Form.f k (⟨#[43, 46, 110, 97, 110]⟩ : ByteArray)).bind fun t223 => (if t223 = 0 then ((float11_Form.f k (⟨#[49, 46, 101, 53]⟩ : ByteArray)).bind fun t224 => (if t224 = 0 then ((float11_Form.f k (⟨#[49, 46, 101, 43, 53]⟩ : ByteArray)).bind fun t225 => (if t225 = 1 then ((float11_Form.f k (⟨#[49, 58, 50, 46, 101, 43, 51]⟩ : ByteArray)).bind fun t226 => (some (t226 == 0))) else (some false))) else (some false))) else (some false))) = some r := by rw [if_neg (show ¬ (false = true) by decide)] at H; exact H
         clear H
         have H := H1
         clear H1
         replace H := Option.bind_eq_some_iff.mp H
         obtain ⟨t223, A680, H⟩ := H
         replace H : (if t223 = 0 then ((float11_Form.f k (⟨#[49, 46, 101, 53]⟩ : ByteArray)).bind fun t224 => (if t224 = 0 then ((float11_Form.f k (⟨#[49, 46, 101, 43, 53]⟩ : ByteArray)).bind fun t225 => (if t225 = 1 then ((float11_Form.f k (⟨#[49, 58, 50, 46, 101, 43, 51]⟩ : ByteArray)).bind fun t226 => (some (t226 == 0))) else (some false))) else (some false))) else (some false)) = some r := H
         have A68 := Aside0.mk A680
         clear A680
         refine Classical.byCases (p := (t223 = 0)) (fun c69 => ?x9) (fun c69 => ?y9)
         case' x9 =>
          rw [if_pos c69] at H
          have c69b0 : (t223 == 0) = true := beq_iff_eq.mpr c69
          have c69b1 : (t223 != 0) = false := bne_eq_false_iff_eq.mpr c69
          clear c69
          replace H := Option.bind_eq_some_iff.mp H
          obtain ⟨t224, A700, H⟩ := H
          replace H : (if t224 = 0 then ((float11_Form.f k (⟨#[49, 46, 101, 43, 53]⟩ : ByteArray)).bind fun t225 => (if t225 = 1 then ((float11_Form.f k (⟨#[49, 58, 50, 46, 101, 43, 51]⟩ : ByteArray)).bind fun t226 => (some (t226 == 0))) else (some false))) else (some false)) = some r := H
          have A70 := Aside0.mk A700
          clear A700
          refine Classical.byCases (p := (t224 = 0)) (fun c71 => ?x10) (fun c71 => ?y10)
          case' x10 =>
           rw [if_pos c71] at H
           have c71b0 : (t224 == 0) = true := beq_iff_eq.mpr c71
           have c71b1 : (t224 != 0) = false := bne_eq_false_iff_eq.mpr c71
           clear c71
           replace H := Option.bind_eq_some_iff.mp H
           obtain ⟨t225, A720, H⟩ := H
           replace H : (if t225 = 1 then ((float11_Form.f k (⟨#[49, 58, 50, 46, 101, 43, 51]⟩ : ByteArray)).bind fun t226 => (some (t226 == 0))) else (some false)) = some r := H
           have A72 := Aside0.mk A720
           clear A720
           refine Classical.byCases (p := (t225 = 1)) (fun c73 => ?x11) (fun c73 => ?y11)
           case' x11 =>
            rw [if_pos c73] at H
            have c73b0 : (t225 == 1) = true := beq_iff_eq.mpr c73
            have c73b1 : (t225 != 1) = false := bne_eq_false_iff_eq.mpr c73
            clear c73
            replace H := Option.bind_eq_some_iff.mp H
            obtain ⟨t226, A740, H⟩ := H
            replace H : (some (t226 == 0)) = some r := H
            have A74 := Aside0.mk A740
            clear A740
            obtain rfl := Option.some.inj H
            go_enter Tryd.func18, Tryd.ntmps18
            skip
           case' y11 =>
            rw [if_neg c73] at H
            have c73b0 : (t225 == 1) = false := beq_eq_false_iff_ne.mpr c73
            have c73b1 : (t225 != 1) = true := bne_iff_ne.mpr c73
            obtain rfl := Option.some.inj H
            go_enter Tryd.func18, Tryd.ntmps18
            skip
          case' y10 =>
           rw [if_neg c71] at H
           have c71b0 : (t224 == 0) = false := beq_eq_false_iff_ne.mpr c71
           have c71b1 : (t224 != 0) = true := bne_iff_ne.mpr c71
           obtain rfl := Option.some.inj H
           go_enter Tryd.func18, Tryd.ntmps18
           skip
         case' y9 =>
          rw [if_neg c69] at H
          have c69b0 : (t223 == 0) = false := beq_eq_false_iff_ne.mpr c69
          have c69b1 : (t223 != 0) = true := bne_iff_ne.mpr c69
          obtain rfl := Option.some.inj H
          go_enter Tryd.func18, Tryd.ntmps18
          skip
       case' y7 =>
        rw [if_neg c38] at H
        have c38b0 : (t211 == 1 && (t212 && (t213.toList == ([] : List UInt8) && (t214.toList == ([] : List UInt8))))) = false := by simpa using c38
        (try (have c38b4 : (t211 == 1 && (t212 && (t213.toList.isEmpty && (t214.toList.isEmpty)))) = false := by simpa using c38b0))
        (try (have c38b1 : decide (t211 = 1 && (t212 && (t213.toList == ([] : List UInt8) && (t214.toList == ([] : List UInt8))))) = false := by simpa using c38))
        (try (have c38b2 : (t211 == 1 && (t212 && (t213.toList == ([] : List UInt8) && (t214.toList == ([] : List UInt8))))) = false := by simpa using c38))
        (try (have c38b3 : ¬ (t211 = 1 && (t212 && (t213.toList == ([] : List UInt8) && (t214.toList == ([] : List UInt8))))) := by simpa using c38))
        clear c38
        obtain rfl := Option.some.inj H
        go_enter Tryd.func18, Tryd.ntmps18
        skip
      case' y6 =>
       replace c37 := Bool.eq_false_iff.mpr c37
       subst c37
       have H1 : (some false) = some r := by rw [if_neg (show ¬ (false = true) by decide)] at H; exact H
       clear H
       have H := H1
       clear H1
       obtain rfl := Option.some.inj H
       go_enter Tryd.func18, Tryd.ntmps18
       skip
     case' y5 =>
      rw [if_neg c36] at H
      have c36b0 : (t205 == 0 && (!t206 && (t207.toList == ([57, 48, 53] : List UInt8) && (t208.toList == ([45, 49] : List UInt8))))) = false := by simpa using c36
      (try (have c36b1 : decide (t205 = 0 && (!t206 && (t207.toList == ([57, 48, 53] : List UInt8) && (t208.toList == ([45, 49] : List UInt8))))) = false := by simpa using c36))
      (try (have c36b2 : (t205 == 0 && (!t206 && (t207.toList == ([57, 48, 53] : List UInt8) && (t208.toList == ([45, 49] : List UInt8))))) = false := by simpa using c36))
      (try (have c36b3 : ¬ (t205 = 0 && (!t206 && (t207.toList == ([57, 48, 53] : List UInt8) && (t208.toList == ([45, 49] : List UInt8))))) := by simpa using c36))
      clear c36
      obtain rfl := Option.some.inj H
      go_enter Tryd.func18, Tryd.ntmps18
      skip
    case' y4 =>
     replace c35 := Bool.eq_false_iff.mpr c35
     subst c35
     have H1 : (some false) = some r := by rw [if_neg (show ¬ (false = true) by decide)] at H; exact H
     clear H
     have H := H1
     clear H1
     obtain rfl := Option.some.inj H
     go_enter Tryd.func18, Tryd.ntmps18
     skip
  case' y2 =>
   rw [if_neg c7] at H
   have c7b0 : (t193 == 0 && (!t194 && (t195.toList == ([49] : List UInt8) && (t196.toList == ([48] : List UInt8))))) = false := by simpa using c7
   (try (have c7b1 : decide (t193 = 0 && (!t194 && (t195.toList == ([49] : List UInt8) && (t196.toList == ([48] : List UInt8))))) = false := by simpa using c7))
   (try (have c7b2 : (t193 == 0 && (!t194 && (t195.toList == ([49] : List UInt8) && (t196.toList == ([48] : List UInt8))))) = false := by simpa using c7))
   (try (have c7b3 : ¬ (t193 = 0 && (!t194 && (t195.toList == ([49] : List UInt8) && (t196.toList == ([48] : List UInt8))))) := by simpa using c7))
   clear c7
   obtain rfl := Option.some.inj H
   go_enter Tryd.func18, Tryd.ntmps18
   skip
 case' y1 =>
  replace c6 := Bool.eq_false_iff.mpr c6
  subst c6
  have H1 : (some false) = some r := by rw [if_neg (show ¬ (false = true) by decide)] at H; exact H
  clear H
  have H := H1
  clear H1
  obtain rfl := Option.some.inj H
  go_enter Tryd.func18, Tryd.ntmps18
  skip
 case x3 | x8 | x11 | y11 | y10 | y9 | y7 | y6 | y5 | y4 | y2 | y1 =>
  as_aux_lemma =>
   go_wp2_with (first | ((with_reducible refine gate_callee (f := 19) rfl ?_); refine goesL_ (some 12) rfl rfl Tryd.func19 (by kernel_rfl) rfl #[.string (⟨#[49, 46]⟩ : ByteArray)] rfl (by (try simp only [List.map_toArray, List.map_cons, List.map_nil]); first | done | rfl | (simp only [List.length_drop, List.length_take]; rfl)) ?_; (with_reducible refine (float11_Of.calls _ _ _ _ _ _ _ _ ?side1 A1.out).mono ?_); (case side1 => exact Go.Proofs.YtkijneohhilboaaDoor.PVT.Tabs_below HG.out bl); rintro e w75 ⟨rfl, hb⟩; refine ⟨_, rfl, ?_⟩; have n0_ := Aside0.mk (below_step bl hb); clear HB; have HB := n0_; clear n0_; (try clear hb); (try clear hb2); (try clear hk); (try clear hi)) | ((with_reducible refine gate_dst (N := 1) rfl ?_); refine box_event ?hg (N := 1) ?hd (cs := #[.int .i64 0, .bool false, .string (⟨#[]⟩ : ByteArray), .string (⟨#[]⟩ : ByteArray)]) (t := 43) ?hr ?_; (case hd => rfl); (case hg => rfl); (case hr => first | (go_simp; done) | (go_simp; rfl)); intro gb198 hg w76 hbox hb; have n0_ := Aside0.mk (below_step bl hb); have n1_ := Aside0.mk (hbox); have n2_ := Aside0.mk ((by rw [hg]; exact (below_size bl) : w.heap.size ≤ gb198)); have n3_ := Aside0.mk ((by rw [hg]; exact (below_size bl) : w.heap.size ≤ gb198)); clear HB; have HB := n0_; have BK198 := n1_; have GW198 := n2_; have GE198 := n3_; clear n0_ n1_ n2_ n3_; clear hb hbox hg; have hcz77_0 : w76.cell? ⟨gb198, 0, none⟩ = some (.int .i64 0) := (blk_cell BK198.out 0).trans rfl; have hcz77_1 : w76.cell? ⟨gb198, 1, none⟩ = some (.bool false) := (blk_cell BK198.out 1).trans rfl; have hcz77_2 : w76.cell? ⟨gb198, 2, none⟩ = some (.string (⟨#[]⟩ : ByteArray)) := (blk_cell BK198.out 2).trans rfl; have hcz77_3 : w76.cell? ⟨gb198, 3, none⟩ = some (.string (⟨#[]⟩ : ByteArray)) := (blk_cell BK198.out 3).trans rfl; have hfz77_0 := blk_frozen BK198.out 0; have hfz77_1 := blk_frozen BK198.out 1; have hfz77_2 := blk_frozen BK198.out 2; have hfz77_3 := blk_frozen BK198.out 3) | ((with_reducible refine gate_callee (f := 19) rfl ?_); refine goesL_ (some 16) rfl rfl Tryd.func19 (by kernel_rfl) rfl #[.string (⟨#[49, 101, 51]⟩ : ByteArray)] rfl (by (try simp only [List.map_toArray, List.map_cons, List.map_nil]); first | done | rfl | (simp only [List.length_drop, List.length_take]; rfl)) ?_; (with_reducible refine (float11_Of.calls _ _ _ _ _ _ _ _ ?side1 A2.out).mono ?_); (case side1 => exact Go.Proofs.YtkijneohhilboaaDoor.PVT.Tabs_below HG.out bl); rintro e w78 ⟨rfl, hb⟩; refine ⟨_, rfl, ?_⟩; have n0_ := Aside0.mk (blk_below (g := gb198) (o := .cells #[.int .i64 t193, .bool t194, .string t195, .string t196] 43 (0, 0)) bk hb); have n1_ := Aside0.mk (below_step bl hb); clear BK198; clear HB; have BK198 := n0_; have HB := n1_; clear n0_ n1_; (try clear hb); (try clear hb2); (try clear hk); (try clear hi)) | ((with_reducible refine gate_dst (N := 3) rfl ?_); refine box_event ?hg (N := 3) ?hd (cs := #[.int .i64 0, .bool false, .string (⟨#[]⟩ : ByteArray), .string (⟨#[]⟩ : ByteArray)]) (t := 43) ?hr ?_; (case hd => rfl); (case hg => rfl); (case hr => first | (go_simp; done) | (go_simp; rfl)); intro gb204 hg w79 hbox hb; have n0_ := Aside0.mk (blk_below (g := gb198) (o := .cells #[.int .i64 t193, .bool t194, .string t195, .string t196] 43 (0, 0)) bk hb); have n1_ := Aside0.mk (below_step bl hb); have n2_ := Aside0.mk (hbox); have n3_ := Aside0.mk ((by rw [hg]; exact (below_size bl) : w.heap.size ≤ gb204)); have n4_ := Aside0.mk ((by rw [hg]; exact (below_size bl) : w.heap.size ≤ gb204)); have n5_ := Aside0.mk ((by rw [hg]; exact Nat.ne_of_lt (blk_lt (g := gb198) (o := .cells #[.int .i64 t193, .bool t194, .string t195, .string t196] 43 (0, 0)) bk) : gb198 ≠ gb204)); have n6_ := Aside0.mk ((by rw [hg]; exact Nat.ne_of_gt (blk_lt (g := gb198) (o := .cells #[.int .i64 t193, .bool t194, .string t195, .string t196] 43 (0, 0)) bk) : gb204 ≠ gb198)); clear BK198; clear HB; have BK198 := n0_; have HB := n1_; have BK204 := n2_; have GW204 := n3_; have GE204 := n4_; have NB198_204 := n5_; have NB204_198 := n6_; clear n0_ n1_ n2_ n3_ n4_ n5_ n6_; clear hb hbox hg; have hnb80 := NB204_198.out; have hnc80 := NB198_204.out; have hcz81_0 : w79.cell? ⟨gb204, 0, none⟩ = some (.int .i64 0) := (blk_cell BK204.out 0).trans rfl; have hcz81_1 : w79.cell? ⟨gb204, 1, none⟩ = some (.bool false) := (blk_cell BK204.out 1).trans rfl; have hcz81_2 : w79.cell? ⟨gb204, 2, none⟩ = some (.string (⟨#[]⟩ : ByteArray)) := (blk_cell BK204.out 2).trans rfl; have hcz81_3 : w79.cell? ⟨gb204, 3, none⟩ = some (.string (⟨#[]⟩ : ByteArray)) := (blk_cell BK204.out 3).trans rfl; have hfz81_0 := blk_frozen BK204.out 0; have hfz81_1 := blk_frozen BK204.out 1; have hfz81_2 := blk_frozen BK204.out 2; have hfz81_3 := blk_frozen BK204.out 3) | ((with_reducible refine gate_callee (f := 19) rfl ?_); refine goesL_ (some 20) rfl rfl Tryd.func19 (by kernel_rfl) rfl #[.string (⟨#[49, 58, 51, 48, 46, 53]⟩ : ByteArray)] rfl (by (try simp only [List.map_toArray, List.map_cons, List.map_nil]); first | done | rfl | (simp only [List.length_drop, List.length_take]; rfl)) ?_; (with_reducible refine (float11_Of.calls _ _ _ _ _ _ _ _ ?side1 A3.out).mono ?_); (case side1 => exact Go.Proofs.YtkijneohhilboaaDoor.PVT.Tabs_below HG.out bl); rintro e w82 ⟨rfl, hb⟩; refine ⟨_, rfl, ?_⟩; have n0_ := Aside0.mk (blk_below (g := gb198) (o := .cells #[.int .i64 t193, .bool t194, .string t195, .string t196] 43 (0, 0)) bk hb); have n1_ := Aside0.mk (blk_below (g := gb204) (o := .cells #[.int .i64 t199, .bool t200, .string t201, .string t202] 43 (0, 0)) bk hb); have n2_ := Aside0.mk (below_step bl hb); clear BK198; clear BK204; clear HB; have BK198 := n0_; have BK204 := n1_; have HB := n2_; clear n0_ n1_ n2_; (try clear hb); (try clear hb2); (try clear hk); (try clear hi)) | ((with_reducible refine gate_dst (N := 5) rfl ?_); refine box_event ?hg (N := 5) ?hd (cs := #[.int .i64 0, .bool false, .string (⟨#[]⟩ : ByteArray), .string (⟨#[]⟩ : ByteArray)]) (t := 43) ?hr ?_; (case hd => rfl); (case hg => rfl); (case hr => first | (go_simp; done) | (go_simp; rfl)); intro gb210 hg w83 hbox hb; have n0_ := Aside0.mk (blk_below (g := gb198) (o := .cells #[.int .i64 t193, .bool t194, .string t195, .string t196] 43 (0, 0)) bk hb); have n1_ := Aside0.mk (blk_below (g := gb204) (o := .cells #[.int .i64 t199, .bool t200, .string t201, .string t202] 43 (0, 0)) bk hb); have n2_ := Aside0.mk (below_step bl hb); have n3_ := Aside0.mk (hbox); have n4_ := Aside0.mk ((by rw [hg]; exact (below_size bl) : w.heap.size ≤ gb210)); have n5_ := Aside0.mk ((by rw [hg]; exact (below_size bl) : w.heap.size ≤ gb210)); have n6_ := Aside0.mk ((by rw [hg]; exact Nat.ne_of_lt (blk_lt (g := gb198) (o := .cells #[.int .i64 t193, .bool t194, .string t195, .string t196] 43 (0, 0)) bk) : gb198 ≠ gb210)); have n7_ := Aside0.mk ((by rw [hg]; exact Nat.ne_of_gt (blk_lt (g := gb198) (o := .cells #[.int .i64 t193, .bool t194, .string t195, .string t196] 43 (0, 0)) bk) : gb210 ≠ gb198)); have n8_ := Aside0.mk ((by rw [hg]; exact Nat.ne_of_lt (blk_lt (g := gb204) (o := .cells #[.int .i64 t199, .bool t200, .string t201, .string t202] 43 (0, 0)) bk) : gb204 ≠ gb210)); have n9_ := Aside0.mk ((by rw [hg]; exact Nat.ne_of_gt (blk_lt (g := gb204) (o := .cells #[.int .i64 t199, .bool t200, .string t201, .string t202] 43 (0, 0)) bk) : gb210 ≠ gb204)); clear BK198; clear BK204; clear HB; have BK198 := n0_; have BK204 := n1_; have HB := n2_; have BK210 := n3_; have GW210 := n4_; have GE210 := n5_; have NB198_210 := n6_; have NB210_198 := n7_; have NB204_210 := n8_; have NB210_204 := n9_; clear n0_ n1_ n2_ n3_ n4_ n5_ n6_ n7_ n8_ n9_; clear hb hbox hg; have hnb84 := NB210_198.out; have hnc84 := NB198_210.out; have hnb85 := NB210_204.out; have hnc85 := NB204_210.out; have hcz86_0 : w83.cell? ⟨gb210, 0, none⟩ = some (.int .i64 0) := (blk_cell BK210.out 0).trans rfl; have hcz86_1 : w83.cell? ⟨gb210, 1, none⟩ = some (.bool false) := (blk_cell BK210.out 1).trans rfl; have hcz86_2 : w83.cell? ⟨gb210, 2, none⟩ = some (.string (⟨#[]⟩ : ByteArray)) := (blk_cell BK210.out 2).trans rfl; have hcz86_3 : w83.cell? ⟨gb210, 3, none⟩ = some (.string (⟨#[]⟩ : ByteArray)) := (blk_cell BK210.out 3).trans rfl; have hfz86_0 := blk_frozen BK210.out 0; have hfz86_1 := blk_frozen BK210.out 1; have hfz86_2 := blk_frozen BK210.out 2; have hfz86_3 := blk_frozen BK210.out 3) | ((with_reducible refine gate_callee (f := 19) rfl ?_); refine goesL_ (some 24) rfl rfl Tryd.func19 (by kernel_rfl) rfl #[.string (⟨#[45, 46, 73, 110, 102]⟩ : ByteArray)] rfl (by (try simp only [List.map_toArray, List.map_cons, List.map_nil]); first | done | rfl | (simp only [List.length_drop, List.length_take]; rfl)) ?_; (with_reducible refine (float11_Of.calls _ _ _ _ _ _ _ _ ?side1 A4.out).mono ?_); (case side1 => exact Go.Proofs.YtkijneohhilboaaDoor.PVT.Tabs_below HG.out bl); rintro e w87 ⟨rfl, hb⟩; refine ⟨_, rfl, ?_⟩; have n0_ := Aside0.mk (blk_below (g := gb198) (o := .cells #[.int .i64 t193, .bool t194, .string t195, .string t196] 43 (0, 0)) bk hb); have n1_ := Aside0.mk (blk_below (g := gb204) (o := .cells #[.int .i64 t199, .bool t200, .string t201, .string t202] 43 (0, 0)) bk hb); have n2_ := Aside0.mk (blk_below (g := gb210) (o := .cells #[.int .i64 t205, .bool t206, .string t207, .string t208] 43 (0, 0)) bk hb); have n3_ := Aside0.mk (below_step bl hb); clear BK198; clear BK204; clear BK210; clear HB; have BK198 := n0_; have BK204 := n1_; have BK210 := n2_; have HB := n3_; clear n0_ n1_ n2_ n3_; (try clear hb); (try clear hb2); (try clear hk); (try clear hi)) | ((with_reducible refine gate_dst (N := 7) rfl ?_); refine box_event ?hg (N := 7) ?hd (cs := #[.int .i64 0, .bool false, .string (⟨#[]⟩ : ByteArray), .string (⟨#[]⟩ : ByteArray)]) (t := 43) ?hr ?_; (case hd => rfl); (case hg => rfl); (case hr => first | (go_simp; done) | (go_simp; rfl)); intro gb216 hg w88 hbox hb; have n0_ := Aside0.mk (blk_below (g := gb198) (o := .cells #[.int .i64 t193, .bool t194, .string t195, .string t196] 43 (0, 0)) bk hb); have n1_ := Aside0.mk (blk_below (g := gb204) (o := .cells #[.int .i64 t199, .bool t200, .string t201, .string t202] 43 (0, 0)) bk hb); have n2_ := Aside0.mk (blk_below (g := gb210) (o := .cells #[.int .i64 t205, .bool t206, .string t207, .string t208] 43 (0, 0)) bk hb); have n3_ := Aside0.mk (below_step bl hb); have n4_ := Aside0.mk (hbox); have n5_ := Aside0.mk ((by rw [hg]; exact (below_size bl) : w.heap.size ≤ gb216)); have n6_ := Aside0.mk ((by rw [hg]; exact (below_size bl) : w.heap.size ≤ gb216)); have n7_ := Aside0.mk ((by rw [hg]; exact Nat.ne_of_lt (blk_lt (g := gb198) (o := .cells #[.int .i64 t193, .bool t194, .string t195, .string t196] 43 (0, 0)) bk) : gb198 ≠ gb216)); have n8_ := Aside0.mk ((by rw [hg]; exact Nat.ne_of_gt (blk_lt (g := gb198) (o := .cells #[.int .i64 t193, .bool t194, .string t195, .string t196] 43 (0, 0)) bk) : gb216 ≠ gb198)); have n9_ := Aside0.mk ((by rw [hg]; exact Nat.ne_of_lt (blk_lt (g := gb204) (o := .cells #[.int .i64 t199, .bool t200, .string t201, .string t202] 43 (0, 0)) bk) : gb204 ≠ gb216)); have n10_ := Aside0.mk ((by rw [hg]; exact Nat.ne_of_gt (blk_lt (g := gb204) (o := .cells #[.int .i64 t199, .bool t200, .string t201, .string t202] 43 (0, 0)) bk) : gb216 ≠ gb204)); have n11_ := Aside0.mk ((by rw [hg]; exact Nat.ne_of_lt (blk_lt (g := gb210) (o := .cells #[.int .i64 t205, .bool t206, .string t207, .string t208] 43 (0, 0)) bk) : gb210 ≠ gb216)); have n12_ := Aside0.mk ((by rw [hg]; exact Nat.ne_of_gt (blk_lt (g := gb210) (o := .cells #[.int .i64 t205, .bool t206, .string t207, .string t208] 43 (0, 0)) bk) : gb216 ≠ gb210)); clear BK198; clear BK204; clear BK210; clear HB; have BK198 := n0_; have BK204 := n1_; have BK210 := n2_; have HB := n3_; have BK216 := n4_; have GW216 := n5_; have GE216 := n6_; have NB198_216 := n7_; have NB216_198 := n8_; have NB204_216 := n9_; have NB216_204 := n10_; have NB210_216 := n11_; have NB216_210 := n12_; clear n0_ n1_ n2_ n3_ n4_ n5_ n6_ n7_ n8_ n9_ n10_ n11_ n12_; clear hb hbox hg; have hnb89 := NB216_198.out; have hnc89 := NB198_216.out; have hnb90 := NB216_204.out; have hnc90 := NB204_216.out; have hnb91 := NB216_210.out; have hnc91 := NB210_216.out; have hcz92_0 : w88.cell? ⟨gb216, 0, none⟩ = some (.int .i64 0) := (blk_cell BK216.out 0).trans rfl; have hcz92_1 : w88.cell? ⟨gb216, 1, none⟩ = some (.bool false) := (blk_cell BK216.out 1).trans rfl; have hcz92_2 : w88.cell? ⟨gb216, 2, none⟩ = some (.string (⟨#[]⟩ : ByteArray)) := (blk_cell BK216.out 2).trans rfl; have hcz92_3 : w88.cell? ⟨gb216, 3, none⟩ = some (.string (⟨#[]⟩ : ByteArray)) := (blk_cell BK216.out 3).trans rfl; have hfz92_0 := blk_frozen BK216.out 0; have hfz92_1 := blk_frozen BK216.out 1; have hfz92_2 := blk_frozen BK216.out 2; have hfz92_3 := blk_frozen BK216.out 3) | ((with_reducible refine gate_callee (f := 19) rfl ?_); refine goesL_ (some 28) rfl rfl Tryd.func19 (by kernel_rfl) rfl #[.string (⟨#[46, 95]⟩ : ByteArray)] rfl (by (try simp only [List.map_toArray, List.map_cons, List.map_nil]); first | done | rfl | (simp only [List.length_drop, List.length_take]; rfl)) ?_; (with_reducible refine (float11_Of.calls _ _ _ _ _ _ _ _ ?side1 A5.out).mono ?_); (case side1 => exact Go.Proofs.YtkijneohhilboaaDoor.PVT.Tabs_below HG.out bl); rintro e w93 ⟨rfl, hb⟩; refine ⟨_, rfl, ?_⟩; have n0_ := Aside0.mk (blk_below (g := gb198) (o := .cells #[.int .i64 t193, .bool t194, .string t195, .string t196] 43 (0, 0)) bk hb); have n1_ := Aside0.mk (blk_below (g := gb204) (o := .cells #[.int .i64 t199, .bool t200, .string t201, .string t202] 43 (0, 0)) bk hb); have n2_ := Aside0.mk (blk_below (g := gb210) (o := .cells #[.int .i64 t205, .bool t206, .string t207, .string t208] 43 (0, 0)) bk hb); have n3_ := Aside0.mk (blk_below (g := gb216) (o := .cells #[.int .i64 t211, .bool t212, .string t213, .string t214] 43 (0, 0)) bk hb); have n4_ := Aside0.mk (below_step bl hb); clear BK198; clear BK204; clear BK210; clear BK216; clear HB; have BK198 := n0_; have BK204 := n1_; have BK210 := n2_; have BK216 := n3_; have HB := n4_; clear n0_ n1_ n2_ n3_ n4_; (try clear hb); (try clear hb2); (try clear hk); (try clear hi)) | ((with_reducible refine gate_dst (N := 9) rfl ?_); refine box_event ?hg (N := 9) ?hd (cs := #[.int .i64 0, .bool false, .string (⟨#[]⟩ : ByteArray), .string (⟨#[]⟩ : ByteArray)]) (t := 43) ?hr ?_; (case hd => rfl); (case hg => rfl); (case hr => first | (go_simp; done) | (go_simp; rfl)); intro gb222 hg w94 hbox hb; have n0_ := Aside0.mk (blk_below (g := gb198) (o := .cells #[.int .i64 t193, .bool t194, .string t195, .string t196] 43 (0, 0)) bk hb); have n1_ := Aside0.mk (blk_below (g := gb204) (o := .cells #[.int .i64 t199, .bool t200, .string t201, .string t202] 43 (0, 0)) bk hb); have n2_ := Aside0.mk (blk_below (g := gb210) (o := .cells #[.int .i64 t205, .bool t206, .string t207, .string t208] 43 (0, 0)) bk hb); have n3_ := Aside0.mk (blk_below (g := gb216) (o := .cells #[.int .i64 t211, .bool t212, .string t213, .string t214] 43 (0, 0)) bk hb); have n4_ := Aside0.mk (below_step bl hb); have n5_ := Aside0.mk (hbox); have n6_ := Aside0.mk ((by rw [hg]; exact (below_size bl) : w.heap.size ≤ gb222)); have n7_ := Aside0.mk ((by rw [hg]; exact (below_size bl) : w.heap.size ≤ gb222)); have n8_ := Aside0.mk ((by rw [hg]; exact Nat.ne_of_lt (blk_lt (g := gb198) (o := .cells #[.int .i64 t193, .bool t194, .string t195, .string t196] 43 (0, 0)) bk) : gb198 ≠ gb222)); have n9_ := Aside0.mk ((by rw [hg]; exact Nat.ne_of_gt (blk_lt (g := gb198) (o := .cells #[.int .i64 t193, .bool t194, .string t195, .string t196] 43 (0, 0)) bk) : gb222 ≠ gb198)); have n10_ := Aside0.mk ((by rw [hg]; exact Nat.ne_of_lt (blk_lt (g := gb204) (o := .cells #[.int .i64 t199, .bool t200, .string t201, .string t202] 43 (0, 0)) bk) : gb204 ≠ gb222)); have n11_ := Aside0.mk ((by rw [hg]; exact Nat.ne_of_gt (blk_lt (g := gb204) (o := .cells #[.int .i64 t199, .bool t200, .string t201, .string t202] 43 (0, 0)) bk) : gb222 ≠ gb204)); have n12_ := Aside0.mk ((by rw [hg]; exact Nat.ne_of_lt (blk_lt (g := gb210) (o := .cells #[.int .i64 t205, .bool t206, .string t207, .string t208] 43 (0, 0)) bk) : gb210 ≠ gb222)); have n13_ := Aside0.mk ((by rw [hg]; exact Nat.ne_of_gt (blk_lt (g := gb210) (o := .cells #[.int .i64 t205, .bool t206, .string t207, .string t208] 43 (0, 0)) bk) : gb222 ≠ gb210)); have n14_ := Aside0.mk ((by rw [hg]; exact Nat.ne_of_lt (blk_lt (g := gb216) (o := .cells #[.int .i64 t211, .bool t212, .string t213, .string t214] 43 (0, 0)) bk) : gb216 ≠ gb222)); have n15_ := Aside0.mk ((by rw [hg]; exact Nat.ne_of_gt (blk_lt (g := gb216) (o := .cells #[.int .i64 t211, .bool t212, .string t213, .string t214] 43 (0, 0)) bk) : gb222 ≠ gb216)); clear BK198; clear BK204; clear BK210; clear BK216; clear HB; have BK198 := n0_; have BK204 := n1_; have BK210 := n2_; have BK216 := n3_; have HB := n4_; have BK222 := n5_; have GW222 := n6_; have GE222 := n7_; have NB198_222 := n8_; have NB222_198 := n9_; have NB204_222 := n10_; have NB222_204 := n11_; have NB210_222 := n12_; have NB222_210 := n13_; have NB216_222 := n14_; have NB222_216 := n15_; clear n0_ n1_ n2_ n3_ n4_ n5_ n6_ n7_ n8_ n9_ n10_ n11_ n12_ n13_ n14_ n15_; clear hb hbox hg; have hnb95 := NB222_198.out; have hnc95 := NB198_222.out; have hnb96 := NB222_204.out; have hnc96 := NB204_222.out; have hnb97 := NB222_210.out; have hnc97 := NB210_222.out; have hnb98 := NB222_216.out; have hnc98 := NB216_222.out; have hcz99_0 : w94.cell? ⟨gb222, 0, none⟩ = some (.int .i64 0) := (blk_cell BK222.out 0).trans rfl; have hcz99_1 : w94.cell? ⟨gb222, 1, none⟩ = some (.bool false) := (blk_cell BK222.out 1).trans rfl; have hcz99_2 : w94.cell? ⟨gb222, 2, none⟩ = some (.string (⟨#[]⟩ : ByteArray)) := (blk_cell BK222.out 2).trans rfl; have hcz99_3 : w94.cell? ⟨gb222, 3, none⟩ = some (.string (⟨#[]⟩ : ByteArray)) := (blk_cell BK222.out 3).trans rfl; have hfz99_0 := blk_frozen BK222.out 0; have hfz99_1 := blk_frozen BK222.out 1; have hfz99_2 := blk_frozen BK222.out 2; have hfz99_3 := blk_frozen BK222.out 3; have hcz100_0 : w94.cell? ⟨gb198, 0, none⟩ = some (.int .i64 t193) := (blk_cell BK198.out 0).trans rfl; have hcz100_1 : w94.cell? ⟨gb198, 1, none⟩ = some (.bool t194) := (blk_cell BK198.out 1).trans rfl; have hcz100_2 : w94.cell? ⟨gb198, 2, none⟩ = some (.string t195) := (blk_cell BK198.out 2).trans rfl; have hcz100_3 : w94.cell? ⟨gb198, 3, none⟩ = some (.string t196) := (blk_cell BK198.out 3).trans rfl; have hfz100_0 := blk_frozen BK198.out 0; have hfz100_1 := blk_frozen BK198.out 1; have hfz100_2 := blk_frozen BK198.out 2; have hfz100_3 := blk_frozen BK198.out 3; have hcz101_0 : w94.cell? ⟨gb210, 0, none⟩ = some (.int .i64 t205) := (blk_cell BK210.out 0).trans rfl; have hcz101_1 : w94.cell? ⟨gb210, 1, none⟩ = some (.bool t206) := (blk_cell BK210.out 1).trans rfl; have hcz101_2 : w94.cell? ⟨gb210, 2, none⟩ = some (.string t207) := (blk_cell BK210.out 2).trans rfl; have hcz101_3 : w94.cell? ⟨gb210, 3, none⟩ = some (.string t208) := (blk_cell BK210.out 3).trans rfl; have hfz101_0 := blk_frozen BK210.out 0; have hfz101_1 := blk_frozen BK210.out 1; have hfz101_2 := blk_frozen BK210.out 2; have hfz101_3 := blk_frozen BK210.out 3; have hcz102_0 : w94.cell? ⟨gb216, 0, none⟩ = some (.int .i64 t211) := (blk_cell BK216.out 0).trans rfl; have hcz102_1 : w94.cell? ⟨gb216, 1, none⟩ = some (.bool t212) := (blk_cell BK216.out 1).trans rfl; have hcz102_2 : w94.cell? ⟨gb216, 2, none⟩ = some (.string t213) := (blk_cell BK216.out 2).trans rfl; have hcz102_3 : w94.cell? ⟨gb216, 3, none⟩ = some (.string t214) := (blk_cell BK216.out 3).trans rfl; have hfz102_0 := blk_frozen BK216.out 0; have hfz102_1 := blk_frozen BK216.out 1; have hfz102_2 := blk_frozen BK216.out 2; have hfz102_3 := blk_frozen BK216.out 3) | (go_at_call 20; (with_reducible refine (float11_Form.calls _ _ _ _ A68.out).mono ?_); rintro e w103 ⟨rfl, hb⟩; have n0_ := Aside0.mk (blk_below (g := gb198) (o := .cells #[.int .i64 t193, .bool t194, .string t195, .string t196] 43 (0, 0)) bk hb); have n1_ := Aside0.mk (blk_below (g := gb204) (o := .cells #[.int .i64 t199, .bool t200, .string t201, .string t202] 43 (0, 0)) bk hb); have n2_ := Aside0.mk (blk_below (g := gb210) (o := .cells #[.int .i64 t205, .bool t206, .string t207, .string t208] 43 (0, 0)) bk hb); have n3_ := Aside0.mk (blk_below (g := gb216) (o := .cells #[.int .i64 t211, .bool t212, .string t213, .string t214] 43 (0, 0)) bk hb); have n4_ := Aside0.mk (blk_below (g := gb222) (o := .cells #[.int .i64 t217, .bool t218, .string t219, .string t220] 43 (0, 0)) bk hb); have n5_ := Aside0.mk (below_step bl hb); clear BK198; clear BK204; clear BK210; clear BK216; clear BK222; clear HB; have BK198 := n0_; have BK204 := n1_; have BK210 := n2_; have BK216 := n3_; have BK222 := n4_; have HB := n5_; clear n0_ n1_ n2_ n3_ n4_ n5_; (try clear hb); (try clear hb2); (try clear hk); (try clear hi)) | (go_at_call 20; (with_reducible refine (float11_Form.calls _ _ _ _ A70.out).mono ?_); rintro e w104 ⟨rfl, hb⟩; have n0_ := Aside0.mk (blk_below (g := gb198) (o := .cells #[.int .i64 t193, .bool t194, .string t195, .string t196] 43 (0, 0)) bk hb); have n1_ := Aside0.mk (blk_below (g := gb204) (o := .cells #[.int .i64 t199, .bool t200, .string t201, .string t202] 43 (0, 0)) bk hb); have n2_ := Aside0.mk (blk_below (g := gb210) (o := .cells #[.int .i64 t205, .bool t206, .string t207, .string t208] 43 (0, 0)) bk hb); have n3_ := Aside0.mk (blk_below (g := gb216) (o := .cells #[.int .i64 t211, .bool t212, .string t213, .string t214] 43 (0, 0)) bk hb); have n4_ := Aside0.mk (blk_below (g := gb222) (o := .cells #[.int .i64 t217, .bool t218, .string t219, .string t220] 43 (0, 0)) bk hb); have n5_ := Aside0.mk (below_step bl hb); clear BK198; clear BK204; clear BK210; clear BK216; clear BK222; clear HB; have BK198 := n0_; have BK204 := n1_; have BK210 := n2_; have BK216 := n3_; have BK222 := n4_; have HB := n5_; clear n0_ n1_ n2_ n3_ n4_ n5_; (try clear hb); (try clear hb2); (try clear hk); (try clear hi)) | (go_at_call 20; (with_reducible refine (float11_Form.calls _ _ _ _ A72.out).mono ?_); rintro e w105 ⟨rfl, hb⟩; have n0_ := Aside0.mk (blk_below (g := gb198) (o := .cells #[.int .i64 t193, .bool t194, .string t195, .string t196] 43 (0, 0)) bk hb); have n1_ := Aside0.mk (blk_below (g := gb204) (o := .cells #[.int .i64 t199, .bool t200, .string t201, .string t202] 43 (0, 0)) bk hb); have n2_ := Aside0.mk (blk_below (g := gb210) (o := .cells #[.int .i64 t205, .bool t206, .string t207, .string t208] 43 (0, 0)) bk hb); have n3_ := Aside0.mk (blk_below (g := gb216) (o := .cells #[.int .i64 t211, .bool t212, .string t213, .string t214] 43 (0, 0)) bk hb); have n4_ := Aside0.mk (blk_below (g := gb222) (o := .cells #[.int .i64 t217, .bool t218, .string t219, .string t220] 43 (0, 0)) bk hb); have n5_ := Aside0.mk (below_step bl hb); clear BK198; clear BK204; clear BK210; clear BK216; clear BK222; clear HB; have BK198 := n0_; have BK204 := n1_; have BK210 := n2_; have BK216 := n3_; have BK222 := n4_; have HB := n5_; clear n0_ n1_ n2_ n3_ n4_ n5_; (try clear hb); (try clear hb2); (try clear hk); (try clear hi)) | (go_at_call 20; (with_reducible refine (float11_Form.calls _ _ _ _ A74.out).mono ?_); rintro e w106 ⟨rfl, hb⟩; have n0_ := Aside0.mk (blk_below (g := gb198) (o := .cells #[.int .i64 t193, .bool t194, .string t195, .string t196] 43 (0, 0)) bk hb); have n1_ := Aside0.mk (blk_below (g := gb204) (o := .cells #[.int .i64 t199, .bool t200, .string t201, .string t202] 43 (0, 0)) bk hb); have n2_ := Aside0.mk (blk_below (g := gb210) (o := .cells #[.int .i64 t205, .bool t206, .string t207, .string t208] 43 (0, 0)) bk hb); have n3_ := Aside0.mk (blk_below (g := gb216) (o := .cells #[.int .i64 t211, .bool t212, .string t213, .string t214] 43 (0, 0)) bk hb); have n4_ := Aside0.mk (blk_below (g := gb222) (o := .cells #[.int .i64 t217, .bool t218, .string t219, .string t220] 43 (0, 0)) bk hb); have n5_ := Aside0.mk (below_step bl hb); clear BK198; clear BK204; clear BK210; clear BK216; clear BK222; clear HB; have BK198 := n0_; have BK204 := n1_; have BK210 := n2_; have BK216 := n3_; have BK222 := n4_; have HB := n5_; clear n0_ n1_ n2_ n3_ n4_ n5_; (try clear hb); (try clear hb2); (try clear hk); (try clear hi)))
   go_ret
   exact ⟨by first | rfl | (simp [errW_none, errW_some] <;> rfl) | (simp [*, errW_none, errW_some] <;> rfl), bl⟩
end Go.Proofs.YtkijneohhilboaaDoor.PV
