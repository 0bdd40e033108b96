/- What int11.Form computes: the form of a text, walked over its labels. Conditions: those that each theorem names. -/
import Derived.ScopeJumps
import Derived.Test.YtkijneohhilboaaDoorShelf
import Derived.Test.YtkijneohhilboaaDoorAid
import Derived.Test.YtkijneohhilboaaDoorBigRoom
import Derived.Lib.IndexLaws
namespace Go.Proofs.YtkijneohhilboaaDoor.Jump
open Go Go.Proofs Go.RowKit Go.Lib Go.Proofs.YtkijneohhilboaaDoorW.PrintWords Go.Proofs.YtkijneohhilboaaDoor.Aid Go.Proofs.YtkijneohhilboaaDoor.Room
set_option linter.unusedSimpArgs false
set_option linter.unusedVariables false
/-- As Q; by a goto to label l: J. -/
def jumps (J : Nat → Act → World → Prop) (Q : Exit → Act → World → Prop) : Exit → Act → World → Prop
  | .goto l, a, w => J l a w
  | e, a, w => Q e a w
section
variable {P : Program} {a : Act} {w : World} {Q : Exit → Act → World → Prop}
theorem wp_scope_fuel {c : Code} (J : Nat → Nat → Act → World → Prop)
    (first : c.wp P (jumps (fun l a w => ∃ n, J n l a w) Q) a w)
    (pass : ∀ n l a w, J n l a w → ∃ rest, findLabel c l = some rest ∧ rest.wp P (jumps (fun l' a' w' => ∃ m, m < n ∧ J m l' a' w') Q) a w) : (Code.scope c).wp P Q a w := by
  intro b k cs
  have key : ∀ n l a w, J n l a w → ∀ rest, findLabel c l = some rest → ∃ e a' w', Q e a' w' ∧ Arrives P (lone (b.at a (.code rest :: .inScope c :: k)) cs w) b k cs e a' w' := by
    intro n
    induction n using Nat.strongRecOn with
    | _ n ih =>
      intro l a w hJ rest hrest
      obtain ⟨rest', hr', hp⟩ := pass n l a w hJ
      rw [hrest] at hr'
      obtain rfl := Option.some.inj hr'
      obtain ⟨e, a₁, w₁, hq, harr⟩ := hp b (.inScope c :: k) cs
      cases e with
      | normal => exact ⟨.normal, a₁, w₁, hq, Steps.trans harr (.one step_inScope)⟩
      | exit id => exact ⟨.exit id, a₁, w₁, hq, fun k' hk => harr k' (by simp [exitTo, hk])⟩
      | goto l' =>
        obtain ⟨m, hm, hJ'⟩ := hq
        obtain ⟨rest2, hr2, _⟩ := pass m l' a₁ w₁ hJ'
        obtain ⟨e₂, a₂, w₂, hq₂, harr₂⟩ := ih m hm l' a₁ w₁ hJ' rest2 hr2
        have hg : gotoIn l' (.inScope c :: k) = some (.code rest2 :: .inScope c :: k) := by simp [gotoIn, hr2]
        exact ⟨e₂, a₂, w₂, hq₂, .of_steps (harr _ hg) harr₂⟩
      | ret => exact ⟨_, a₁, w₁, hq, harr⟩
      | panic ch => exact ⟨_, a₁, w₁, hq, harr⟩
      | outgrown => exact ⟨_, a₁, w₁, hq, harr⟩
  obtain ⟨e, a₁, w₁, hq, harr⟩ := first b (.inScope c :: k) cs
  cases e with
  | normal => exact ⟨.normal, a₁, w₁, hq, .head step_scope (Steps.trans harr (.one step_inScope))⟩
  | exit id => exact ⟨.exit id, a₁, w₁, hq, fun k' hk => .head step_scope (harr k' (by simp [exitTo, hk]))⟩
  | goto l' =>
    obtain ⟨n, hJ'⟩ := hq
    obtain ⟨rest, hr, _⟩ := pass n l' a₁ w₁ hJ'
    have hg : gotoIn l' (.inScope c :: k) = some (.code rest :: .inScope c :: k) := by simp [gotoIn, hr]
    obtain ⟨e₂, a₂, w₂, hq₂, harr₂⟩ := key n l' a₁ w₁ hJ' rest hr
    exact ⟨e₂, a₂, w₂, hq₂, .of_steps (.head step_scope (harr _ hg)) harr₂⟩
  | ret => exact ⟨_, a₁, w₁, hq, .of_steps (.one step_scope) harr⟩
  | panic ch => exact ⟨_, a₁, w₁, hq, .of_steps (.one step_scope) harr⟩
  | outgrown => exact ⟨_, a₁, w₁, hq, .of_steps (.one step_scope) harr⟩
end
/-- the row of digits and _ -/
def rowF (form : Int) (ds : List UInt8) : Bool → List UInt8 → Int
  | sm, [] => if sm = true then form else 0
  | sm, x :: r => if x = 95 then rowF form ds sm r else if indexByte ds x < 0 then 0 else rowF form ds true r
def skip1 : List UInt8 → List UInt8
  | a :: b :: q => if (48 ≤ a.toNat ∧ a.toNat ≤ 53) ∧ (48 ≤ b.toNat ∧ b.toNat ≤ 57) then b :: q else a :: b :: q
  | r => r
def sixtyF : Nat → List UInt8 → Int
  | 0, _ => 0
  | _ + 1, [] => 6
  | n + 1, x :: r => if x = 58 then (match skip1 r with | [] => 0 | c :: q => if 48 ≤ c.toNat ∧ c.toNat ≤ 57 then sixtyF n q else 0) else 0
def tenB : List UInt8 := [48, 49, 50, 51, 52, 53, 54, 55, 56, 57]
def moreF : List UInt8 → Int
  | [] => 5
  | x :: r => if x = 58 then sixtyF (r.length + 2) (x :: r) else if x ≠ 95 ∧ indexByte tenB x < 0 then 0 else moreF r
def firstF : List UInt8 → Int
  | [] => 0
  | x :: r => if x.toNat < 49 ∨ 57 < x.toNat then 0 else moreF r
def formM (form : Int) (ds : List UInt8) (at_ : Nat) (l : List UInt8) : Int := if form = 4 then 4 else if form = 5 then firstF l else rowF form ds false (l.drop at_)
theorem frame (T : Array Value) (h : T.size = 139) : ∃ u : Nat → Value, T = #[u 0, u 1, u 2, u 3, u 4, u 5, u 6, u 7, u 8, u 9, u 10, u 11, u 12, u 13, u 14, u 15, u 16, u 17, u 18, u 19, u 20, u 21, u 22, u 23, u 24, u 25, u 26, u 27, u 28, u 29, u 30, u 31, u 32, u 33, u 34, u 35, u 36, u 37, u 38, u 39, u 40, u 41, u 42, u 43, u 44, u 45, u 46, u 47, u 48, u 49, u 50, u 51, u 52, u 53, u 54, u 55, u 56, u 57, u 58, u 59, u 60, u 61, u 62, u 63, u 64, u 65, u 66, u 67, u 68, u 69, u 70, u 71, u 72, u 73, u 74, u 75, u 76, u 77, u 78, u 79, u 80, u 81, u 82, u 83, u 84, u 85, u 86, u 87, u 88, u 89, u 90, u 91, u 92, u 93, u 94, u 95, u 96, u 97, u 98, u 99, u 100, u 101, u 102, u 103, u 104, u 105, u 106, u 107, u 108, u 109, u 110, u 111, u 112, u 113, u 114, u 115, u 116, u 117, u 118, u 119, u 120, u 121, u 122, u 123, u 124, u 125, u 126, u 127, u 128, u 129, u 130, u 131, u 132, u 133, u 134, u 135, u 136, u 137, u 138] ∧ ∀ i, i < 139 → T[i]? = some (u i) := by
  refine ⟨fun i => T.getD i undef, ?_, fun i hi => ?_⟩
  · have e : T = ((List.range 139).map fun i => T.getD i undef).toArray := by
      apply Array.ext
      · simp [h]
      · intro i h1 h2
        simp [Array.getD, h1]
    exact e.trans rfl
  · have h' : i < T.size := by omega
    simp [Array.getD, h']
/-- where the run stands at a label -/
def J (t : ByteArray) (w : World) (R : Int) (n l : Nat) (a : Act) (w' : World) : Prop :=
  ∃ (form : Int) (ds : ByteArray) (p : Nat) (sm : Bool), a.defers = [] ∧ a.tmps.size = 139 ∧ a.tmps[0]? = some (.string t) ∧ a.tmps[3]? = some (.int .i64 form) ∧ a.tmps[4]? = some (.string ds) ∧ a.tmps[5]? = some (.int .i64 (p : Int)) ∧ a.tmps[6]? = some (.bool sm) ∧
    Below w.heap.size w w' ∧ p ≤ t.size ∧ n = 2 * (t.size - p) + (if l = 2 then 1 else if l = 0 then 3 else 0) ∧
    ((l = 0 ∧ p = 0 ∧ form = 5 ∧ firstF t.data.toList = R) ∨ (l = 1 ∧ rowF form ds.data.toList sm (t.data.toList.drop p) = R) ∨ (l = 2 ∧ form = 5 ∧ moreF (t.data.toList.drop p) = R) ∨ (l = 3 ∧ form = 6 ∧ ∃ m, (t.data.toList.drop p).length < m ∧ sixtyF m (t.data.toList.drop p) = R))
set_option maxHeartbeats 8000000 in
set_option maxRecDepth 100000 in
theorem form_calls (s t ds0 : ByteArray) (neg : Bool) (form0 at0 : Int) (w : World) (hsz : t.size ≤ 1000000000) (h0 : 0 ≤ at0) (h1 : at0 ≤ t.size) (h5 : form0 = 5 → at0 = 0)
    (hU : ∀ W, Calls Tryd.prog 23 #[.string s] W fun e w' => e = .returned (.tuple #[.bool neg, .string t]) ∧ Below W.heap.size W w')
    (hH : ∀ W, Calls Tryd.prog 30 #[.string t] W fun e w' => e = .returned (.tuple #[.int .i64 form0, .string ds0, .int .i64 at0]) ∧ Below W.heap.size W w') :
    Calls Tryd.prog 14 #[.string s] w fun e w' => e = .returned (.int .i64 (formM form0 ds0.data.toList at0.toNat t.data.toList)) ∧ Below w.heap.size w w' := by
  obtain ⟨R, hR⟩ : ∃ R, formM form0 ds0.data.toList at0.toNat t.data.toList = R := ⟨_, rfl⟩
  rw [hR]
  go_enter Tryd.func14, Tryd.ntmps14
  go_wp2_with fail
  refine wp_scope_fuel (J t w R) ?first ?pass
  case first =>
    have H5 := Aside0.mk h5; clear h5
    obtain ⟨p, rfl⟩ : ∃ p : Nat, at0 = p := ⟨at0.toNat, by omega⟩
    rw [Int.toNat_natCast] at hR
    by_cases f4 : form0 = 4
    · have k4 : (form0 = 4) = True := eq_true f4
      have k4b : (form0 == 4) = true := beq_iff_eq.2 f4
      have hR : 4 = R := by rw [← hR]; unfold formM; rw [if_pos f4]
      have HR := Aside0.mk hR; clear hR
      go_wp2_with (first
        | (go_at_call 23; refine (hU _).mono ?_; rintro e w1 ⟨rfl, b1⟩)
        | (go_at_call 30; refine (hH _).mono ?_; rintro e w2 ⟨rfl, b2⟩))
      have bel := b1.trans (b2.mono b1.size)
      (try simp only [jumps])
      go_ret
      exact ⟨by have hR := HR.out; subst hR; rfl, bel⟩
    · have k4 : (form0 = 4) = False := eq_false f4
      have k4b : (form0 == 4) = false := beq_eq_false_iff_ne.2 f4
      by_cases f5 : form0 = 5
      · have k5 : (form0 = 5) = True := eq_true f5
        have k5b : (form0 == 5) = true := beq_iff_eq.2 f5
        have hR : firstF t.data.toList = R := by rw [← hR]; unfold formM; rw [if_neg f4, if_pos f5]
        go_wp2_with (first
          | (go_at_call 23; refine (hU _).mono ?_; rintro e w1 ⟨rfl, b1⟩)
          | (go_at_call 30; refine (hH _).mono ?_; rintro e w2 ⟨rfl, b2⟩))
        have bel := b1.trans (b2.mono b1.size)
        have hp0 := H5.out f5
        apply wp_goto
        show ∃ n, J t w R n 0 _ _
        exact ⟨_, 5, ds0, p, false, rfl, rfl, rfl, rfl, rfl, rfl, rfl, bel, by omega, rfl, .inl ⟨rfl, by omega, rfl, hR⟩⟩
      · have k5 : (form0 = 5) = False := eq_false f5
        have k5b : (form0 == 5) = false := beq_eq_false_iff_ne.2 f5
        have hR : rowF form0 ds0.data.toList false (t.data.toList.drop p) = R := by rw [← hR]; unfold formM; rw [if_neg f4, if_neg f5]
        go_wp2_with (first
          | (go_at_call 23; refine (hU _).mono ?_; rintro e w1 ⟨rfl, b1⟩)
          | (go_at_call 30; refine (hH _).mono ?_; rintro e w2 ⟨rfl, b2⟩))
        have bel := b1.trans (b2.mono b1.size)
        apply wp_label
        by_cases hps : p = t.size
        · have c1 : ((p : Int) = (t.size : Int)) = True := eq_true (by omega)
          have c1b : ((p : Int) == (t.size : Int)) = true := beq_iff_eq.2 (by omega)
          have hd0 : t.data.toList.drop p = [] := List.drop_eq_nil_of_le (by rw [← Lib.size_eq]; omega)
          rw [hd0] at hR
          have hR : 0 = R := hR
          have HR := Aside0.mk hR; clear hR
          go_wp2
          (try simp only [jumps])
          go_ret
          exact ⟨by have hR := HR.out; subst hR; rfl, bel⟩
        · have c1 : ((p : Int) = (t.size : Int)) = False := eq_false (by omega)
          have c1b : ((p : Int) == (t.size : Int)) = false := beq_eq_false_iff_ne.2 (by omega)
          have hlx : p < t.data.toList.length := by rw [← Lib.size_eq]; omega
          obtain ⟨x, hex, hdx⟩ := drop_cons hlx
          have px : (0 ≤ (p : Int)) = True := eq_true (by omega)
          have qx : ((p : Int) < (t.size : Int)) = True := eq_true (by omega)
          have hjx : t[p]'(by omega) = x := by
            apply UInt8.toNat_inj.1
            have h1 : ((t[p]'(by omega)).toNat : Int) = ba t.data.toList (p) := by unfold ba; rw [List.getD_eq_getElem?_getD, List.getElem?_eq_getElem hlx]; rfl
            omega
          have hux : (x.toNat : Int).toNat.toUInt8 = x := by rw [Int.toNat_natCast]; exact UInt8.ofNat_toNat ..
          have xnex : ∀ c : UInt8, x ≠ c → ((x.toNat : Int) = (c.toNat : Int)) = False := fun c h => eq_false (fun e => h (UInt8.toNat_inj.1 (by omega)))
          have xnbx : ∀ c : UInt8, x ≠ c → ((x.toNat : Int) == (c.toNat : Int)) = false ∧ ((x.toNat : Int) != (c.toNat : Int)) = true := fun c h => ⟨beq_eq_false_iff_ne.2 (fun e => h (UInt8.toNat_inj.1 (by omega))), bne_iff_ne.2 (fun e => h (UInt8.toNat_inj.1 (by omega)))⟩
          clear hex
          rw [hdx] at hR
          by_cases h95 : x = 95
          · have c2 : ((x.toNat : Int) = 95) = True := eq_true (by rw [h95]; rfl)
            have c2b : ((x.toNat : Int) == 95) = true := by rw [h95]; rfl
            have c2n : ((x.toNat : Int) != 95) = false := by rw [h95]; rfl
            rw [rowF, if_pos h95] at hR
            go_wp2
            apply wp_goto
            show ∃ m, J t w R m 1 _ _
            (try have hq := HQ.out)
            (try have hp0 := HP.out)
            exact ⟨_, form0, ds0, p + 1, false, rfl, rfl, rfl, rfl, rfl, rfl, rfl, bel, by omega, rfl, .inr (.inl ⟨rfl, hR⟩)⟩
          · have c2 : ((x.toNat : Int) = 95) = False := xnex 95 h95
            have c2b : ((x.toNat : Int) == 95) = false := (xnbx 95 h95).1
            have c2n : ((x.toNat : Int) != 95) = true := (xnbx 95 h95).2
            have hix := (Tryd.strings_IndexByte ds0 (x.toNat : Int) w2)
            obtain ⟨z, hz⟩ : ∃ z, indexByte ds0.data.toList x = z := ⟨_, rfl⟩
            rw [hux, hz] at hix
            rw [rowF, if_neg h95, hz] at hR
            by_cases hz0 : z < 0
            · have c3 : (z < 0) = True := eq_true hz0
              rw [if_pos hz0] at hR
              have HR := Aside0.mk hR; clear hR
              go_wp2_with (go_at_call 31; refine hix.mono ?_; rintro e w2 ⟨rfl, rfl⟩)
              (try simp only [jumps])
              go_ret
              exact ⟨by have hR := HR.out; subst hR; rfl, bel⟩
            · have c3 : (z < 0) = False := eq_false hz0
              rw [if_neg hz0] at hR
              go_wp2_with (go_at_call 31; refine hix.mono ?_; rintro e w2 ⟨rfl, rfl⟩)
              apply wp_goto
              show ∃ m, J t w R m 1 _ _
              (try have hq := HQ.out)
              (try have hp0 := HP.out)
              exact ⟨_, form0, ds0, p + 1, true, rfl, rfl, rfl, rfl, rfl, rfl, rfl, bel, by omega, rfl, .inr (.inl ⟨rfl, hR⟩)⟩
  case pass =>
    rintro n l a w' ⟨form, ds, p, sm, hdf, hts, t0, t3, t4, t5, t6, bel, hp, hn, hx⟩
    obtain ⟨T, df⟩ := a
    obtain rfl : df = [] := hdf
    obtain ⟨u, hT, hu⟩ := frame T hts
    have e0 : u 0 = .string t := Option.some.inj ((hu 0 (by omega)).symm.trans t0)
    have e3 : u 3 = .int .i64 form := Option.some.inj ((hu 3 (by omega)).symm.trans t3)
    have e4 : u 4 = .string ds := Option.some.inj ((hu 4 (by omega)).symm.trans t4)
    have e5 : u 5 = .int .i64 (p : Int) := Option.some.inj ((hu 5 (by omega)).symm.trans t5)
    have e6 : u 6 = .bool sm := Option.some.inj ((hu 6 (by omega)).symm.trans t6)
    rw [e0, e3, e4, e5, e6] at hT
    subst hT
    clear hu t0 t3 t4 t5 t6 hts e0 e3 e4 e5 e6
    rcases hx with ⟨rfl, hp0, rfl, hR⟩ | ⟨rfl, hR⟩ | ⟨rfl, rfl, hR⟩ | ⟨rfl, rfl, m, hm, hR⟩
    · refine ⟨_, rfl, ?_⟩
      rw [if_neg (by decide), if_pos rfl] at hn
      have HP := Aside0.mk hp0; clear hp0
      by_cases he : t.toList = []
      · have c1 : (t.toList = ([] : List UInt8)) = True := eq_true he
        have c1b : (t.toList == ([] : List UInt8)) = true := by rw [he]; rfl
        have c1c : t.toList.isEmpty = true := by rw [he]; rfl
        have hR : 0 = R := by rw [← Lib.toList_data, he] at hR; exact hR
        have HR := Aside0.mk hR; clear hR
        go_wp2
        (try simp only [jumps])
        go_ret
        exact ⟨by have hR := HR.out; subst hR; rfl, bel⟩
      · have c1 : (t.toList = ([] : List UInt8)) = False := eq_false he
        have c1b : (t.toList == ([] : List UInt8)) = false := beq_eq_false_iff_ne.2 he
        have c1c : t.toList.isEmpty = false := by cases hq : t.toList with | nil => exact absurd hq he | cons _ _ => rfl
        have hz0 : 0 < t.size := by rw [Lib.size_eq]; exact List.length_pos_iff.2 (by rw [← Lib.toList_data]; exact he)
        have hlx : 0 < t.data.toList.length := by rw [← Lib.size_eq]; omega
        obtain ⟨x, hex, hdx⟩ := drop_cons hlx
        have px : (0 ≤ (0 : Int)) = True := eq_true (by omega)
        have qx : ((0 : Int) < (t.size : Int)) = True := eq_true (by omega)
        have hjx : t[0]'(by omega) = x := by
          apply UInt8.toNat_inj.1
          have h1 : ((t[0]'(by omega)).toNat : Int) = ba t.data.toList (0) := by unfold ba; rw [List.getD_eq_getElem?_getD, List.getElem?_eq_getElem hlx]; rfl
          omega
        have hux : (x.toNat : Int).toNat.toUInt8 = x := by rw [Int.toNat_natCast]; exact UInt8.ofNat_toNat ..
        have xnex : ∀ c : UInt8, x ≠ c → ((x.toNat : Int) = (c.toNat : Int)) = False := fun c h => eq_false (fun e => h (UInt8.toNat_inj.1 (by omega)))
        have xnbx : ∀ c : UInt8, x ≠ c → ((x.toNat : Int) == (c.toNat : Int)) = false ∧ ((x.toNat : Int) != (c.toNat : Int)) = true := fun c h => ⟨beq_eq_false_iff_ne.2 (fun e => h (UInt8.toNat_inj.1 (by omega))), bne_iff_ne.2 (fun e => h (UInt8.toNat_inj.1 (by omega)))⟩
        clear hex
        rw [List.drop_zero] at hdx
        rw [hdx] at hR
        by_cases g1 : x.toNat < 49
        · have d1 : ((x.toNat : Int) < 49) = True := eq_true (by omega)
          rw [firstF, if_pos (.inl g1)] at hR
          have HR := Aside0.mk hR; clear hR
          go_wp2
          (try simp only [jumps])
          go_ret
          exact ⟨by have hR := HR.out; subst hR; rfl, bel⟩
        · have d1 : ((x.toNat : Int) < 49) = False := eq_false (by omega)
          by_cases g2 : 57 < x.toNat
          · have d2 : (57 < (x.toNat : Int)) = True := eq_true (by omega)
            rw [firstF, if_pos (.inr g2)] at hR
            have HR := Aside0.mk hR; clear hR
            go_wp2
            (try simp only [jumps])
            go_ret
            exact ⟨by have hR := HR.out; subst hR; rfl, bel⟩
          · have d2 : (57 < (x.toNat : Int)) = False := eq_false (by omega)
            rw [firstF, if_neg (by omega)] at hR
            go_wp2
            apply wp_label
            obtain ⟨q, hq⟩ : ∃ q, q = p + 1 := ⟨_, rfl⟩
            rw [show 0 + 1 = q by have := HP.out; omega] at hR
            have hpq : q ≤ t.size := by have := HP.out; omega
            rw [show (p : Int) + 1 = (q : Int) by omega]
            have HQ := Aside0.mk hq; clear hq
            by_cases hps : q = t.size
            · have c1 : ((q : Int) = (t.size : Int)) = True := eq_true (by omega)
              have c1b : ((q : Int) == (t.size : Int)) = true := beq_iff_eq.2 (by omega)
              have hd0 : t.data.toList.drop q = [] := List.drop_eq_nil_of_le (by rw [← Lib.size_eq]; omega)
              rw [hd0] at hR
              have hR : 5 = R := hR
              have HR := Aside0.mk hR; clear hR
              go_wp2
              (try simp only [jumps])
              go_ret
              exact ⟨by have hR := HR.out; subst hR; rfl, bel⟩
            · have c1 : ((q : Int) = (t.size : Int)) = False := eq_false (by omega)
              have c1b : ((q : Int) == (t.size : Int)) = false := beq_eq_false_iff_ne.2 (by omega)
              have hlx : q < t.data.toList.length := by rw [← Lib.size_eq]; omega
              obtain ⟨x, hex, hdx⟩ := drop_cons hlx
              have px : (0 ≤ (q : Int)) = True := eq_true (by omega)
              have qx : ((q : Int) < (t.size : Int)) = True := eq_true (by omega)
              have hjx : t[q]'(by omega) = x := by
                apply UInt8.toNat_inj.1
                have h1 : ((t[q]'(by omega)).toNat : Int) = ba t.data.toList (q) := by unfold ba; rw [List.getD_eq_getElem?_getD, List.getElem?_eq_getElem hlx]; rfl
                omega
              have hux : (x.toNat : Int).toNat.toUInt8 = x := by rw [Int.toNat_natCast]; exact UInt8.ofNat_toNat ..
              have xnex : ∀ c : UInt8, x ≠ c → ((x.toNat : Int) = (c.toNat : Int)) = False := fun c h => eq_false (fun e => h (UInt8.toNat_inj.1 (by omega)))
              have xnbx : ∀ c : UInt8, x ≠ c → ((x.toNat : Int) == (c.toNat : Int)) = false ∧ ((x.toNat : Int) != (c.toNat : Int)) = true := fun c h => ⟨beq_eq_false_iff_ne.2 (fun e => h (UInt8.toNat_inj.1 (by omega))), bne_iff_ne.2 (fun e => h (UInt8.toNat_inj.1 (by omega)))⟩
              clear hex
              rw [hdx] at hR
              by_cases h58 : x = 58
              · have c2 : ((x.toNat : Int) = 58) = True := eq_true (by rw [h58]; rfl)
                have c2b : ((x.toNat : Int) == 58) = true := by rw [h58]; rfl
                have c2n : ((x.toNat : Int) != 58) = false := by rw [h58]; rfl
                rw [moreF, if_pos h58, ← hdx] at hR
                go_wp2
                apply wp_goto
                show ∃ m, m < n ∧ J t w R m 3 _ _
                (try have hq := HQ.out)
                (try have hp0 := HP.out)
                exact ⟨_, by simp; omega, 6, ds, q, sm, rfl, rfl, rfl, rfl, rfl, rfl, rfl, bel, by omega, rfl, .inr (.inr (.inr ⟨rfl, rfl, _, by rw [hdx, List.length_cons]; exact Nat.lt_succ_self _, hR⟩))⟩
              · have c2 : ((x.toNat : Int) = 58) = False := xnex 58 h58
                have c2b : ((x.toNat : Int) == 58) = false := (xnbx 58 h58).1
                have c2n : ((x.toNat : Int) != 58) = true := (xnbx 58 h58).2
                rw [moreF, if_neg h58] at hR
                by_cases h95 : x = 95
                · have c4 : ((x.toNat : Int) = 95) = True := eq_true (by rw [h95]; rfl)
                  have c4b : ((x.toNat : Int) == 95) = true := by rw [h95]; rfl
                  have c4n : ((x.toNat : Int) != 95) = false := by rw [h95]; rfl
                  rw [if_neg (fun q => q.1 h95)] at hR
                  go_wp2
                  apply wp_goto
                  show ∃ m, m < n ∧ J t w R m 2 _ _
                  (try have hq := HQ.out)
                  (try have hp0 := HP.out)
                  exact ⟨_, by simp; omega, 5, ds, q + 1, sm, rfl, rfl, rfl, rfl, rfl, rfl, rfl, bel, by omega, rfl, .inr (.inr (.inl ⟨rfl, rfl, hR⟩))⟩
                · have c4 : ((x.toNat : Int) = 95) = False := xnex 95 h95
                  have c4b : ((x.toNat : Int) == 95) = false := (xnbx 95 h95).1
                  have c4n : ((x.toNat : Int) != 95) = true := (xnbx 95 h95).2
                  have hix := (Tryd.strings_IndexByte (⟨#[48, 49, 50, 51, 52, 53, 54, 55, 56, 57]⟩ : ByteArray) (x.toNat : Int) w')
                  obtain ⟨z, hz⟩ : ∃ z, indexByte tenB x = z := ⟨_, rfl⟩
                  rw [hux, show (⟨#[48, 49, 50, 51, 52, 53, 54, 55, 56, 57]⟩ : ByteArray).data.toList = tenB from rfl, hz] at hix
                  rw [hz] at hR
                  by_cases hz0 : z < 0
                  · have c3 : (z < 0) = True := eq_true hz0
                    rw [if_pos ⟨h95, hz0⟩] at hR
                    have HR := Aside0.mk hR; clear hR
                    go_wp2_with (go_at_call 31; refine hix.mono ?_; rintro e w2 ⟨rfl, rfl⟩)
                    (try simp only [jumps])
                    go_ret
                    exact ⟨by have hR := HR.out; subst hR; rfl, bel⟩
                  · have c3 : (z < 0) = False := eq_false hz0
                    rw [if_neg (fun q => hz0 q.2)] at hR
                    go_wp2_with (go_at_call 31; refine hix.mono ?_; rintro e w2 ⟨rfl, rfl⟩)
                    apply wp_goto
                    show ∃ m, m < n ∧ J t w R m 2 _ _
                    (try have hq := HQ.out)
                    (try have hp0 := HP.out)
                    exact ⟨_, by simp; omega, 5, ds, q + 1, sm, rfl, rfl, rfl, rfl, rfl, rfl, rfl, bel, by omega, rfl, .inr (.inr (.inl ⟨rfl, rfl, hR⟩))⟩
    · refine ⟨_, rfl, ?_⟩
      rw [if_neg (by decide), if_neg (by decide)] at hn
      by_cases hps : p = t.size
      · have c1 : ((p : Int) = (t.size : Int)) = True := eq_true (by omega)
        have c1b : ((p : Int) == (t.size : Int)) = true := beq_iff_eq.2 (by omega)
        have hd0 : t.data.toList.drop p = [] := List.drop_eq_nil_of_le (by rw [← Lib.size_eq]; omega)
        rw [hd0] at hR
        cases sm with
        | true =>
          have hR : form = R := hR
          have HR := Aside0.mk hR; clear hR
          go_wp2
          (try simp only [jumps])
          go_ret
          exact ⟨by have hR := HR.out; subst hR; rfl, bel⟩
        | false =>
          have hR : 0 = R := hR
          have HR := Aside0.mk hR; clear hR
          go_wp2
          (try simp only [jumps])
          go_ret
          exact ⟨by have hR := HR.out; subst hR; rfl, bel⟩
      · have c1 : ((p : Int) = (t.size : Int)) = False := eq_false (by omega)
        have c1b : ((p : Int) == (t.size : Int)) = false := beq_eq_false_iff_ne.2 (by omega)
        have hlx : p < t.data.toList.length := by rw [← Lib.size_eq]; omega
        obtain ⟨x, hex, hdx⟩ := drop_cons hlx
        have px : (0 ≤ (p : Int)) = True := eq_true (by omega)
        have qx : ((p : Int) < (t.size : Int)) = True := eq_true (by omega)
        have hjx : t[p]'(by omega) = x := by
          apply UInt8.toNat_inj.1
          have h1 : ((t[p]'(by omega)).toNat : Int) = ba t.data.toList (p) := by unfold ba; rw [List.getD_eq_getElem?_getD, List.getElem?_eq_getElem hlx]; rfl
          omega
        have hux : (x.toNat : Int).toNat.toUInt8 = x := by rw [Int.toNat_natCast]; exact UInt8.ofNat_toNat ..
        have xnex : ∀ c : UInt8, x ≠ c → ((x.toNat : Int) = (c.toNat : Int)) = False := fun c h => eq_false (fun e => h (UInt8.toNat_inj.1 (by omega)))
        have xnbx : ∀ c : UInt8, x ≠ c → ((x.toNat : Int) == (c.toNat : Int)) = false ∧ ((x.toNat : Int) != (c.toNat : Int)) = true := fun c h => ⟨beq_eq_false_iff_ne.2 (fun e => h (UInt8.toNat_inj.1 (by omega))), bne_iff_ne.2 (fun e => h (UInt8.toNat_inj.1 (by omega)))⟩
        clear hex
        rw [hdx] at hR
        by_cases h95 : x = 95
        · have c2 : ((x.toNat : Int) = 95) = True := eq_true (by rw [h95]; rfl)
          have c2b : ((x.toNat : Int) == 95) = true := by rw [h95]; rfl
          have c2n : ((x.toNat : Int) != 95) = false := by rw [h95]; rfl
          rw [rowF, if_pos h95] at hR
          go_wp2
          apply wp_goto
          show ∃ m, m < n ∧ J t w R m 1 _ _
          (try have hq := HQ.out)
          (try have hp0 := HP.out)
          exact ⟨_, by simp; omega, form, ds, p + 1, sm, rfl, rfl, rfl, rfl, rfl, rfl, rfl, bel, by omega, rfl, .inr (.inl ⟨rfl, hR⟩)⟩
        · have c2 : ((x.toNat : Int) = 95) = False := xnex 95 h95
          have c2b : ((x.toNat : Int) == 95) = false := (xnbx 95 h95).1
          have c2n : ((x.toNat : Int) != 95) = true := (xnbx 95 h95).2
          have hix := (Tryd.strings_IndexByte ds (x.toNat : Int) w')
          obtain ⟨z, hz⟩ : ∃ z, indexByte ds.data.toList x = z := ⟨_, rfl⟩
          rw [hux, hz] at hix
          rw [rowF, if_neg h95, hz] at hR
          by_cases hz0 : z < 0
          · have c3 : (z < 0) = True := eq_true hz0
            rw [if_pos hz0] at hR
            have HR := Aside0.mk hR; clear hR
            go_wp2_with (go_at_call 31; refine hix.mono ?_; rintro e w2 ⟨rfl, rfl⟩)
            (try simp only [jumps])
            go_ret
            exact ⟨by have hR := HR.out; subst hR; rfl, bel⟩
          · have c3 : (z < 0) = False := eq_false hz0
            rw [if_neg hz0] at hR
            go_wp2_with (go_at_call 31; refine hix.mono ?_; rintro e w2 ⟨rfl, rfl⟩)
            apply wp_goto
            show ∃ m, m < n ∧ J t w R m 1 _ _
            (try have hq := HQ.out)
            (try have hp0 := HP.out)
            exact ⟨_, by simp; omega, form, ds, p + 1, true, rfl, rfl, rfl, rfl, rfl, rfl, rfl, bel, by omega, rfl, .inr (.inl ⟨rfl, hR⟩)⟩
    · refine ⟨_, rfl, ?_⟩
      rw [if_pos rfl] at hn
      by_cases hps : p = t.size
      · have c1 : ((p : Int) = (t.size : Int)) = True := eq_true (by omega)
        have c1b : ((p : Int) == (t.size : Int)) = true := beq_iff_eq.2 (by omega)
        have hd0 : t.data.toList.drop p = [] := List.drop_eq_nil_of_le (by rw [← Lib.size_eq]; omega)
        rw [hd0] at hR
        have hR : 5 = R := hR
        have HR := Aside0.mk hR; clear hR
        go_wp2
        (try simp only [jumps])
        go_ret
        exact ⟨by have hR := HR.out; subst hR; rfl, bel⟩
      · have c1 : ((p : Int) = (t.size : Int)) = False := eq_false (by omega)
        have c1b : ((p : Int) == (t.size : Int)) = false := beq_eq_false_iff_ne.2 (by omega)
        have hlx : p < t.data.toList.length := by rw [← Lib.size_eq]; omega
        obtain ⟨x, hex, hdx⟩ := drop_cons hlx
        have px : (0 ≤ (p : Int)) = True := eq_true (by omega)
        have qx : ((p : Int) < (t.size : Int)) = True := eq_true (by omega)
        have hjx : t[p]'(by omega) = x := by
          apply UInt8.toNat_inj.1
          have h1 : ((t[p]'(by omega)).toNat : Int) = ba t.data.toList (p) := by unfold ba; rw [List.getD_eq_getElem?_getD, List.getElem?_eq_getElem hlx]; rfl
          omega
        have hux : (x.toNat : Int).toNat.toUInt8 = x := by rw [Int.toNat_natCast]; exact UInt8.ofNat_toNat ..
        have xnex : ∀ c : UInt8, x ≠ c → ((x.toNat : Int) = (c.toNat : Int)) = False := fun c h => eq_false (fun e => h (UInt8.toNat_inj.1 (by omega)))
        have xnbx : ∀ c : UInt8, x ≠ c → ((x.toNat : Int) == (c.toNat : Int)) = false ∧ ((x.toNat : Int) != (c.toNat : Int)) = true := fun c h => ⟨beq_eq_false_iff_ne.2 (fun e => h (UInt8.toNat_inj.1 (by omega))), bne_iff_ne.2 (fun e => h (UInt8.toNat_inj.1 (by omega)))⟩
        clear hex
        rw [hdx] at hR
        by_cases h58 : x = 58
        · have c2 : ((x.toNat : Int) = 58) = True := eq_true (by rw [h58]; rfl)
          have c2b : ((x.toNat : Int) == 58) = true := by rw [h58]; rfl
          have c2n : ((x.toNat : Int) != 58) = false := by rw [h58]; rfl
          rw [moreF, if_pos h58, ← hdx] at hR
          go_wp2
          apply wp_goto
          show ∃ m, m < n ∧ J t w R m 3 _ _
          (try have hq := HQ.out)
          (try have hp0 := HP.out)
          exact ⟨_, by simp; omega, 6, ds, p, sm, rfl, rfl, rfl, rfl, rfl, rfl, rfl, bel, by omega, rfl, .inr (.inr (.inr ⟨rfl, rfl, _, by rw [hdx, List.length_cons]; exact Nat.lt_succ_self _, hR⟩))⟩
        · have c2 : ((x.toNat : Int) = 58) = False := xnex 58 h58
          have c2b : ((x.toNat : Int) == 58) = false := (xnbx 58 h58).1
          have c2n : ((x.toNat : Int) != 58) = true := (xnbx 58 h58).2
          rw [moreF, if_neg h58] at hR
          by_cases h95 : x = 95
          · have c4 : ((x.toNat : Int) = 95) = True := eq_true (by rw [h95]; rfl)
            have c4b : ((x.toNat : Int) == 95) = true := by rw [h95]; rfl
            have c4n : ((x.toNat : Int) != 95) = false := by rw [h95]; rfl
            rw [if_neg (fun q => q.1 h95)] at hR
            go_wp2
            apply wp_goto
            show ∃ m, m < n ∧ J t w R m 2 _ _
            (try have hq := HQ.out)
            (try have hp0 := HP.out)
            exact ⟨_, by simp; omega, 5, ds, p + 1, sm, rfl, rfl, rfl, rfl, rfl, rfl, rfl, bel, by omega, rfl, .inr (.inr (.inl ⟨rfl, rfl, hR⟩))⟩
          · have c4 : ((x.toNat : Int) = 95) = False := xnex 95 h95
            have c4b : ((x.toNat : Int) == 95) = false := (xnbx 95 h95).1
            have c4n : ((x.toNat : Int) != 95) = true := (xnbx 95 h95).2
            have hix := (Tryd.strings_IndexByte (⟨#[48, 49, 50, 51, 52, 53, 54, 55, 56, 57]⟩ : ByteArray) (x.toNat : Int) w')
            obtain ⟨z, hz⟩ : ∃ z, indexByte tenB x = z := ⟨_, rfl⟩
            rw [hux, show (⟨#[48, 49, 50, 51, 52, 53, 54, 55, 56, 57]⟩ : ByteArray).data.toList = tenB from rfl, hz] at hix
            rw [hz] at hR
            by_cases hz0 : z < 0
            · have c3 : (z < 0) = True := eq_true hz0
              rw [if_pos ⟨h95, hz0⟩] at hR
              have HR := Aside0.mk hR; clear hR
              go_wp2_with (go_at_call 31; refine hix.mono ?_; rintro e w2 ⟨rfl, rfl⟩)
              (try simp only [jumps])
              go_ret
              exact ⟨by have hR := HR.out; subst hR; rfl, bel⟩
            · have c3 : (z < 0) = False := eq_false hz0
              rw [if_neg (fun q => hz0 q.2)] at hR
              go_wp2_with (go_at_call 31; refine hix.mono ?_; rintro e w2 ⟨rfl, rfl⟩)
              apply wp_goto
              show ∃ m, m < n ∧ J t w R m 2 _ _
              (try have hq := HQ.out)
              (try have hp0 := HP.out)
              exact ⟨_, by simp; omega, 5, ds, p + 1, sm, rfl, rfl, rfl, rfl, rfl, rfl, rfl, bel, by omega, rfl, .inr (.inr (.inl ⟨rfl, rfl, hR⟩))⟩
    · refine ⟨_, rfl, ?_⟩
      rw [if_neg (by decide), if_neg (by decide)] at hn
      obtain ⟨m, rfl⟩ : ∃ q, m = q + 1 := ⟨m - 1, by omega⟩
      by_cases hps : p = t.size
      · have c1 : ((p : Int) = (t.size : Int)) = True := eq_true (by omega)
        have c1b : ((p : Int) == (t.size : Int)) = true := beq_iff_eq.2 (by omega)
        have hd0 : t.data.toList.drop p = [] := List.drop_eq_nil_of_le (by rw [← Lib.size_eq]; omega)
        rw [hd0] at hR
        have hR : 6 = R := hR
        have HR := Aside0.mk hR; clear hR
        go_wp2
        (try simp only [jumps])
        go_ret
        exact ⟨by have hR := HR.out; subst hR; rfl, bel⟩
      · have c1 : ((p : Int) = (t.size : Int)) = False := eq_false (by omega)
        have c1b : ((p : Int) == (t.size : Int)) = false := beq_eq_false_iff_ne.2 (by omega)
        have hlx : p < t.data.toList.length := by rw [← Lib.size_eq]; omega
        obtain ⟨x, hex, hdx⟩ := drop_cons hlx
        have px : (0 ≤ (p : Int)) = True := eq_true (by omega)
        have qx : ((p : Int) < (t.size : Int)) = True := eq_true (by omega)
        have hjx : t[p]'(by omega) = x := by
          apply UInt8.toNat_inj.1
          have h1 : ((t[p]'(by omega)).toNat : Int) = ba t.data.toList (p) := by unfold ba; rw [List.getD_eq_getElem?_getD, List.getElem?_eq_getElem hlx]; rfl
          omega
        have hux : (x.toNat : Int).toNat.toUInt8 = x := by rw [Int.toNat_natCast]; exact UInt8.ofNat_toNat ..
        have xnex : ∀ c : UInt8, x ≠ c → ((x.toNat : Int) = (c.toNat : Int)) = False := fun c h => eq_false (fun e => h (UInt8.toNat_inj.1 (by omega)))
        have xnbx : ∀ c : UInt8, x ≠ c → ((x.toNat : Int) == (c.toNat : Int)) = false ∧ ((x.toNat : Int) != (c.toNat : Int)) = true := fun c h => ⟨beq_eq_false_iff_ne.2 (fun e => h (UInt8.toNat_inj.1 (by omega))), bne_iff_ne.2 (fun e => h (UInt8.toNat_inj.1 (by omega)))⟩
        clear hex
        rw [hdx] at hR hm
        rw [List.length_cons] at hm
        by_cases h58 : x = 58
        · have c2 : ((x.toNat : Int) = 58) = True := eq_true (by rw [h58]; rfl)
          have c2b : ((x.toNat : Int) == 58) = true := by rw [h58]; rfl
          have c2n : ((x.toNat : Int) != 58) = false := by rw [h58]; rfl
          rw [sixtyF, if_pos h58] at hR
          by_cases h2 : p + 2 < t.size
          · have hla : p + 1 < t.data.toList.length := by rw [← Lib.size_eq]; omega
            obtain ⟨a, hea, hda⟩ := drop_cons hla
            have pa : (0 ≤ ((p : Int) + 1)) = True := eq_true (by omega)
            have qa : (((p : Int) + 1) < (t.size : Int)) = True := eq_true (by omega)
            have hja : t[p + 1]'(by omega) = a := by
              apply UInt8.toNat_inj.1
              have h1 : ((t[p + 1]'(by omega)).toNat : Int) = ba t.data.toList (p + 1) := by unfold ba; rw [List.getD_eq_getElem?_getD, List.getElem?_eq_getElem hla]; rfl
              omega
            have hua : (a.toNat : Int).toNat.toUInt8 = a := by rw [Int.toNat_natCast]; exact UInt8.ofNat_toNat ..
            have xnea : ∀ c : UInt8, a ≠ c → ((a.toNat : Int) = (c.toNat : Int)) = False := fun c h => eq_false (fun e => h (UInt8.toNat_inj.1 (by omega)))
            have xnba : ∀ c : UInt8, a ≠ c → ((a.toNat : Int) == (c.toNat : Int)) = false ∧ ((a.toNat : Int) != (c.toNat : Int)) = true := fun c h => ⟨beq_eq_false_iff_ne.2 (fun e => h (UInt8.toNat_inj.1 (by omega))), bne_iff_ne.2 (fun e => h (UInt8.toNat_inj.1 (by omega)))⟩
            clear hea
            have hlb : p + 2 < t.data.toList.length := by rw [← Lib.size_eq]; omega
            obtain ⟨b, heb, hdb⟩ := drop_cons hlb
            have pb : (0 ≤ ((p : Int) + 2)) = True := eq_true (by omega)
            have qb : (((p : Int) + 2) < (t.size : Int)) = True := eq_true (by omega)
            have hjb : t[p + 2]'(by omega) = b := by
              apply UInt8.toNat_inj.1
              have h1 : ((t[p + 2]'(by omega)).toNat : Int) = ba t.data.toList (p + 2) := by unfold ba; rw [List.getD_eq_getElem?_getD, List.getElem?_eq_getElem hlb]; rfl
              omega
            have hub : (b.toNat : Int).toNat.toUInt8 = b := by rw [Int.toNat_natCast]; exact UInt8.ofNat_toNat ..
            have xneb : ∀ c : UInt8, b ≠ c → ((b.toNat : Int) = (c.toNat : Int)) = False := fun c h => eq_false (fun e => h (UInt8.toNat_inj.1 (by omega)))
            have xnbb : ∀ c : UInt8, b ≠ c → ((b.toNat : Int) == (c.toNat : Int)) = false ∧ ((b.toNat : Int) != (c.toNat : Int)) = true := fun c h => ⟨beq_eq_false_iff_ne.2 (fun e => h (UInt8.toNat_inj.1 (by omega))), bne_iff_ne.2 (fun e => h (UInt8.toNat_inj.1 (by omega)))⟩
            clear heb
            rw [hda] at hR hm
            rw [show p + 1 + 1 = p + 2 from rfl, hdb] at hR hm
            simp only [List.length_cons] at hm
            have c5 : ((p : Int) + 1 + 1 < (t.size : Int)) = True := eq_true (by omega)
            have c5b : ((p : Int) + 2 < (t.size : Int)) = True := eq_true (by omega)
            have c6 : ((p : Int) + 1 = (t.size : Int)) = False := eq_false (by omega)
            have c6b : ((p : Int) + 1 == (t.size : Int)) = false := beq_eq_false_iff_ne.2 (by omega)
            have c7 : ((p : Int) + 2 = (t.size : Int)) = False := eq_false (by omega)
            have c7b : ((p : Int) + 2 == (t.size : Int)) = false := beq_eq_false_iff_ne.2 (by omega)
            by_cases k1 : 48 ≤ a.toNat
            · have d1 : (48 ≤ (a.toNat : Int)) = True := eq_true (by omega)
              by_cases k2 : a.toNat ≤ 53
              · have d2 : ((a.toNat : Int) ≤ 53) = True := eq_true (by omega)
                by_cases k3 : 48 ≤ b.toNat
                · have d3 : (48 ≤ (b.toNat : Int)) = True := eq_true (by omega)
                  by_cases k4 : b.toNat ≤ 57
                  · have d4 : ((b.toNat : Int) ≤ 57) = True := eq_true (by omega)
                    rw [skip1, if_pos ⟨⟨k1, k2⟩, ⟨k3, k4⟩⟩] at hR
                    dsimp only at hR
                    by_cases hg : 48 ≤ b.toNat ∧ b.toNat ≤ 57
                    · have g1 : ((b.toNat : Int) < 48) = False := eq_false (by omega)
                      have g2 : (57 < (b.toNat : Int)) = False := eq_false (by omega)
                      rw [if_pos hg] at hR
                      go_wp2
                      apply wp_goto
                      show ∃ m, m < n ∧ J t w R m 3 _ _
                      (try have hq := HQ.out)
                      (try have hp0 := HP.out)
                      exact ⟨_, by simp; omega, 6, ds, p + 3, sm, rfl, rfl, rfl, rfl, rfl, rfl, rfl, bel, by omega, rfl, .inr (.inr (.inr ⟨rfl, rfl, m, by show (t.data.toList.drop (p + 2 + 1)).length < m; omega, hR⟩))⟩
                    · rw [if_neg hg] at hR
                      by_cases hg1 : b.toNat < 48
                      · have g1 : ((b.toNat : Int) < 48) = True := eq_true (by omega)
                        first | (exfalso; omega) | (have HR := Aside0.mk hR; clear hR; go_wp2; (try simp only [jumps]); go_ret; exact ⟨by have hR := HR.out; subst hR; rfl, bel⟩)
                      · have g1 : ((b.toNat : Int) < 48) = False := eq_false (by omega)
                        have g2 : (57 < (b.toNat : Int)) = True := eq_true (by omega)
                        first | (exfalso; omega) | (have HR := Aside0.mk hR; clear hR; go_wp2; (try simp only [jumps]); go_ret; exact ⟨by have hR := HR.out; subst hR; rfl, bel⟩)
                  · have d9 : ((b.toNat : Int) ≤ 57) = False := eq_false (by omega)
                    rw [skip1, if_neg (by omega)] at hR
                    dsimp only at hR
                    rw [← hdb] at hR
                    by_cases hg : 48 ≤ a.toNat ∧ a.toNat ≤ 57
                    · have g1 : ((a.toNat : Int) < 48) = False := eq_false (by omega)
                      have g2 : (57 < (a.toNat : Int)) = False := eq_false (by omega)
                      rw [if_pos hg] at hR
                      go_wp2
                      apply wp_goto
                      show ∃ m, m < n ∧ J t w R m 3 _ _
                      (try have hq := HQ.out)
                      (try have hp0 := HP.out)
                      exact ⟨_, by simp; omega, 6, ds, p + 2, sm, rfl, rfl, rfl, rfl, rfl, rfl, rfl, bel, by omega, rfl, .inr (.inr (.inr ⟨rfl, rfl, m, by rw [show p + 1 + 1 = p + 2 from rfl, hdb, List.length_cons]; omega, hR⟩))⟩
                    · rw [if_neg hg] at hR
                      by_cases hg1 : a.toNat < 48
                      · have g1 : ((a.toNat : Int) < 48) = True := eq_true (by omega)
                        first | (exfalso; omega) | (have HR := Aside0.mk hR; clear hR; go_wp2; (try simp only [jumps]); go_ret; exact ⟨by have hR := HR.out; subst hR; rfl, bel⟩)
                      · have g1 : ((a.toNat : Int) < 48) = False := eq_false (by omega)
                        have g2 : (57 < (a.toNat : Int)) = True := eq_true (by omega)
                        first | (exfalso; omega) | (have HR := Aside0.mk hR; clear hR; go_wp2; (try simp only [jumps]); go_ret; exact ⟨by have hR := HR.out; subst hR; rfl, bel⟩)
                · have d9 : (48 ≤ (b.toNat : Int)) = False := eq_false (by omega)
                  rw [skip1, if_neg (by omega)] at hR
                  dsimp only at hR
                  rw [← hdb] at hR
                  by_cases hg : 48 ≤ a.toNat ∧ a.toNat ≤ 57
                  · have g1 : ((a.toNat : Int) < 48) = False := eq_false (by omega)
                    have g2 : (57 < (a.toNat : Int)) = False := eq_false (by omega)
                    rw [if_pos hg] at hR
                    go_wp2
                    apply wp_goto
                    show ∃ m, m < n ∧ J t w R m 3 _ _
                    (try have hq := HQ.out)
                    (try have hp0 := HP.out)
                    exact ⟨_, by simp; omega, 6, ds, p + 2, sm, rfl, rfl, rfl, rfl, rfl, rfl, rfl, bel, by omega, rfl, .inr (.inr (.inr ⟨rfl, rfl, m, by rw [show p + 1 + 1 = p + 2 from rfl, hdb, List.length_cons]; omega, hR⟩))⟩
                  · rw [if_neg hg] at hR
                    by_cases hg1 : a.toNat < 48
                    · have g1 : ((a.toNat : Int) < 48) = True := eq_true (by omega)
                      first | (exfalso; omega) | (have HR := Aside0.mk hR; clear hR; go_wp2; (try simp only [jumps]); go_ret; exact ⟨by have hR := HR.out; subst hR; rfl, bel⟩)
                    · have g1 : ((a.toNat : Int) < 48) = False := eq_false (by omega)
                      have g2 : (57 < (a.toNat : Int)) = True := eq_true (by omega)
                      first | (exfalso; omega) | (have HR := Aside0.mk hR; clear hR; go_wp2; (try simp only [jumps]); go_ret; exact ⟨by have hR := HR.out; subst hR; rfl, bel⟩)
              · have d9 : ((a.toNat : Int) ≤ 53) = False := eq_false (by omega)
                rw [skip1, if_neg (by omega)] at hR
                dsimp only at hR
                rw [← hdb] at hR
                by_cases hg : 48 ≤ a.toNat ∧ a.toNat ≤ 57
                · have g1 : ((a.toNat : Int) < 48) = False := eq_false (by omega)
                  have g2 : (57 < (a.toNat : Int)) = False := eq_false (by omega)
                  rw [if_pos hg] at hR
                  go_wp2
                  apply wp_goto
                  show ∃ m, m < n ∧ J t w R m 3 _ _
                  (try have hq := HQ.out)
                  (try have hp0 := HP.out)
                  exact ⟨_, by simp; omega, 6, ds, p + 2, sm, rfl, rfl, rfl, rfl, rfl, rfl, rfl, bel, by omega, rfl, .inr (.inr (.inr ⟨rfl, rfl, m, by rw [show p + 1 + 1 = p + 2 from rfl, hdb, List.length_cons]; omega, hR⟩))⟩
                · rw [if_neg hg] at hR
                  by_cases hg1 : a.toNat < 48
                  · have g1 : ((a.toNat : Int) < 48) = True := eq_true (by omega)
                    first | (exfalso; omega) | (have HR := Aside0.mk hR; clear hR; go_wp2; (try simp only [jumps]); go_ret; exact ⟨by have hR := HR.out; subst hR; rfl, bel⟩)
                  · have g1 : ((a.toNat : Int) < 48) = False := eq_false (by omega)
                    have g2 : (57 < (a.toNat : Int)) = True := eq_true (by omega)
                    first | (exfalso; omega) | (have HR := Aside0.mk hR; clear hR; go_wp2; (try simp only [jumps]); go_ret; exact ⟨by have hR := HR.out; subst hR; rfl, bel⟩)
            · have d9 : (48 ≤ (a.toNat : Int)) = False := eq_false (by omega)
              rw [skip1, if_neg (by omega)] at hR
              dsimp only at hR
              rw [← hdb] at hR
              by_cases hg : 48 ≤ a.toNat ∧ a.toNat ≤ 57
              · have g1 : ((a.toNat : Int) < 48) = False := eq_false (by omega)
                have g2 : (57 < (a.toNat : Int)) = False := eq_false (by omega)
                rw [if_pos hg] at hR
                go_wp2
                apply wp_goto
                show ∃ m, m < n ∧ J t w R m 3 _ _
                (try have hq := HQ.out)
                (try have hp0 := HP.out)
                exact ⟨_, by simp; omega, 6, ds, p + 2, sm, rfl, rfl, rfl, rfl, rfl, rfl, rfl, bel, by omega, rfl, .inr (.inr (.inr ⟨rfl, rfl, m, by rw [show p + 1 + 1 = p + 2 from rfl, hdb, List.length_cons]; omega, hR⟩))⟩
              · rw [if_neg hg] at hR
                by_cases hg1 : a.toNat < 48
                · have g1 : ((a.toNat : Int) < 48) = True := eq_true (by omega)
                  first | (exfalso; omega) | (have HR := Aside0.mk hR; clear hR; go_wp2; (try simp only [jumps]); go_ret; exact ⟨by have hR := HR.out; subst hR; rfl, bel⟩)
                · have g1 : ((a.toNat : Int) < 48) = False := eq_false (by omega)
                  have g2 : (57 < (a.toNat : Int)) = True := eq_true (by omega)
                  first | (exfalso; omega) | (have HR := Aside0.mk hR; clear hR; go_wp2; (try simp only [jumps]); go_ret; exact ⟨by have hR := HR.out; subst hR; rfl, bel⟩)
          · have c5 : ((p : Int) + 1 + 1 < (t.size : Int)) = False := eq_false (by omega)
            have c5b : ((p : Int) + 2 < (t.size : Int)) = False := eq_false (by omega)
            by_cases h3 : p + 1 = t.size
            · have c6 : ((p : Int) + 1 = (t.size : Int)) = True := eq_true (by omega)
              have c6b : ((p : Int) + 1 == (t.size : Int)) = true := beq_iff_eq.2 (by omega)
              have hd1 : t.data.toList.drop (p + 1) = [] := List.drop_eq_nil_of_le (by rw [← Lib.size_eq]; omega)
              rw [hd1] at hR
              have hR : 0 = R := hR
              have HR := Aside0.mk hR; clear hR
              go_wp2
              (try simp only [jumps])
              go_ret
              exact ⟨by have hR := HR.out; subst hR; rfl, bel⟩
            · have hla : p + 1 < t.data.toList.length := by rw [← Lib.size_eq]; omega
              obtain ⟨a, hea, hda⟩ := drop_cons hla
              have pa : (0 ≤ ((p : Int) + 1)) = True := eq_true (by omega)
              have qa : (((p : Int) + 1) < (t.size : Int)) = True := eq_true (by omega)
              have hja : t[p + 1]'(by omega) = a := by
                apply UInt8.toNat_inj.1
                have h1 : ((t[p + 1]'(by omega)).toNat : Int) = ba t.data.toList (p + 1) := by unfold ba; rw [List.getD_eq_getElem?_getD, List.getElem?_eq_getElem hla]; rfl
                omega
              have hua : (a.toNat : Int).toNat.toUInt8 = a := by rw [Int.toNat_natCast]; exact UInt8.ofNat_toNat ..
              have xnea : ∀ c : UInt8, a ≠ c → ((a.toNat : Int) = (c.toNat : Int)) = False := fun c h => eq_false (fun e => h (UInt8.toNat_inj.1 (by omega)))
              have xnba : ∀ c : UInt8, a ≠ c → ((a.toNat : Int) == (c.toNat : Int)) = false ∧ ((a.toNat : Int) != (c.toNat : Int)) = true := fun c h => ⟨beq_eq_false_iff_ne.2 (fun e => h (UInt8.toNat_inj.1 (by omega))), bne_iff_ne.2 (fun e => h (UInt8.toNat_inj.1 (by omega)))⟩
              clear hea
              have hd2 : t.data.toList.drop (p + 1 + 1) = [] := List.drop_eq_nil_of_le (by rw [← Lib.size_eq]; omega)
              have c6 : ((p : Int) + 1 = (t.size : Int)) = False := eq_false (by omega)
              have c6b : ((p : Int) + 1 == (t.size : Int)) = false := beq_eq_false_iff_ne.2 (by omega)
              rw [hda, hd2] at hR
              rw [show skip1 [a] = [a] from rfl] at hR
              dsimp only at hR
              rw [← hd2] at hR
              by_cases hg : 48 ≤ a.toNat ∧ a.toNat ≤ 57
              · have g1 : ((a.toNat : Int) < 48) = False := eq_false (by omega)
                have g2 : (57 < (a.toNat : Int)) = False := eq_false (by omega)
                rw [if_pos hg] at hR
                go_wp2
                apply wp_goto
                show ∃ m, m < n ∧ J t w R m 3 _ _
                (try have hq := HQ.out)
                (try have hp0 := HP.out)
                exact ⟨_, by simp; omega, 6, ds, p + 2, sm, rfl, rfl, rfl, rfl, rfl, rfl, rfl, bel, by omega, rfl, .inr (.inr (.inr ⟨rfl, rfl, m, by rw [show p + 1 + 1 = p + 2 from rfl] at hd2; rw [show p + (1 + 1) = p + 2 from rfl, hd2, List.length_nil]; omega, hR⟩))⟩
              · rw [if_neg hg] at hR
                by_cases hg1 : a.toNat < 48
                · have g1 : ((a.toNat : Int) < 48) = True := eq_true (by omega)
                  first | (exfalso; omega) | (have HR := Aside0.mk hR; clear hR; go_wp2; (try simp only [jumps]); go_ret; exact ⟨by have hR := HR.out; subst hR; rfl, bel⟩)
                · have g1 : ((a.toNat : Int) < 48) = False := eq_false (by omega)
                  have g2 : (57 < (a.toNat : Int)) = True := eq_true (by omega)
                  first | (exfalso; omega) | (have HR := Aside0.mk hR; clear hR; go_wp2; (try simp only [jumps]); go_ret; exact ⟨by have hR := HR.out; subst hR; rfl, bel⟩)
        · have c2 : ((x.toNat : Int) = 58) = False := xnex 58 h58
          have c2b : ((x.toNat : Int) == 58) = false := (xnbx 58 h58).1
          have c2n : ((x.toNat : Int) != 58) = true := (xnbx 58 h58).2
          rw [sixtyF, if_neg h58] at hR
          have HR := Aside0.mk hR; clear hR
          go_wp2
          (try simp only [jumps])
          go_ret
          exact ⟨by have hR := HR.out; subst hR; rfl, bel⟩
end Go.Proofs.YtkijneohhilboaaDoor.Jump
