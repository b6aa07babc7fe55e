-- Written by a program of this session (wip/mkprint.py, wip/pr.sh) for this claim; Lean checks it.
import Derived.Test.YtfmlpkeaiohknaaDoorQx0
import Derived.Test.YtfmlpkeaiohknaaDoorQx1
import Derived.Test.YtfmlpkeaiohknaaDoorQx2
import Derived.Test.YtfmlpkeaiohknaaDoorQx3
import Derived.Test.YtfmlpkeaiohknaaDoorMMk0
namespace Go.Proofs.YtfmlpkeaiohknaaDoor.Q
open Go.RowKit Go.Proofs.YtfmlpkeaiohknaaDoorW.PrintWords Go.Proofs.YtfmlpkeaiohknaaDoorW.PrintLast Go.Proofs.YtfmlpkeaiohknaaDoorW.PrintMore
attribute [local go_sem] max2_int min2_int max_two min_two max_three min_three max_four min_four   -- for this text's walks alone
set_option linter.unusedVariables false
set_option linter.unusedSimpArgs false

/-! ### scarflaw10_known: function 9 -/
def scarflaw10_known.f (k : Nat)  : Option (Bool) := (scarflaw05_Name.f (⟨#[120]⟩ : ByteArray)).bind fun bt164 => ((scarflaw05_Name.f (⟨#[120]⟩ : ByteArray)).bind fun bt170 => ((scarflaw05_Bin.f (⟨#[43]⟩ : ByteArray) bt164.1 bt164.2.1 bt164.2.2.1 bt164.2.2.2 bt170.1 bt170.2.1 bt170.2.2.1 bt170.2.2.2).bind fun bt176 => ((shape_Of.f bt176.1 bt176.2.1 bt176.2.2.1 bt176.2.2.2).bind fun bt183 => ((shape_Marks.f (([(⟨bt176.1, bt176.2.1, bt176.2.2.1, bt176.2.2.2⟩ : S24)] : List (S24)))).bind fun t199 => (if (bt183.1.length : Int) = 3 then ((scarfref03_Same.f k bt183.2.1 (([(-1), 0, 0] : List Int))).bind fun t205 => (if t205 = true then ((scarfref03_Same.f k bt183.2.2.1 (([3, 1, 1] : List Int))).bind fun t209 => (if t209 = true then (if (t199.length : Int) = 1 then (if 0 < (t199.length : Int) then ((scarfref03_Same.f k (rd_L3 t199 0) (([0, 1, 1] : List Int))).bind fun t214 => (if t214 = true then ((shape_Tree.f k bt183.1 bt183.2.1 bt183.2.2.1 bt183.2.2.2).bind fun bt215 => ((scarfref05_Same.f k bt215.1 bt215.2.1 bt215.2.2.1 bt215.2.2.2 bt176.1 bt176.2.1 bt176.2.2.1 bt176.2.2.2).bind fun t221 => (if t221 = true then (some true) else (some false)))) else (some false))) else (none)) else (some false)) else (some false))) else (some false))) else (some false))))))
theorem scarflaw10_known.mono : ∀ k, LeO (scarflaw10_known.f k ) (scarflaw10_known.f (k + 1) ) := by
 intro  k
 unfold scarflaw10_known.f
 repeat' first
   | (with_reducible exact scarfref03_Same.mono _ _ _)
   | (with_reducible exact scarfref05_Same.mono _ _ _ _ _ _ _ _ _)
   | (with_reducible exact shape_Tree.mono _ _ _ _ _)
   | (with_reducible exact LeO.refl _)
   | (with_reducible exact LeO.none _)
   | (with_reducible refine LeO.ite ?_ ?_)
   | (with_reducible refine LeO.bind ?_ (fun _ => ?_))
   | exact scarfref03_Same.mono _ _ _
   | exact scarfref05_Same.mono _ _ _ _ _ _ _ _ _
   | exact shape_Tree.mono _ _ _ _ _
   | exact LeO.none _
   | refine LeO.ite ?_ ?_
   | refine LeO.bind ?_ (fun _ => ?_)
def scarflaw10_known.T4 : Bool × List (List Nat × List Nat) := (true, [([], []), ([0], [0]), ([1], [1]), ([2], [2]), ([3], [3]), ([4], [4]), ([5, 4], [4, 5]), ([4], [4]), ([6, 7, 4, 4], [4, 6, 7]), ([4, 8], [4, 8]), ([9, 8], [9]), ([10], [10]), ([11, 10], [10, 11]), ([10], [10]), ([12, 13, 10, 10], [10, 12, 13]), ([10, 14], [10, 14]), ([15, 14], [15]), ([16], [16]), ([17, 16], [16, 17]), ([18, 16], [16, 18]), ([16, 19], [16, 19]), ([20, 16], [20]), ([21], [21]), ([22, 21], [21, 22]), ([23, 21], [21, 23]), ([21], [21]), ([24, 25, 21, 21], [21, 24, 25]), ([21, 26], [21, 26]), ([27, 26], [27]), ([28], [28]), ([29, 28, 28], [28, 29]), ([28], [28]), ([30, 31, 30, 28], [28, 30, 31]), ([28, 32], [28, 32]), ([33, 32, 0, 1, 2, 3, 4, 5, 6, 7, 8, 9, 10, 11, 12, 13, 14, 15, 16, 17, 18, 19, 20, 21, 22, 23, 24, 25, 26, 27, 28, 29, 30, 31, 32, 33], [33])])
def scarflaw10_known.B4 : List Nat := [0, 1, 3, 7, 15, 31, 63, 31, 255, 511, 1023, 2047, 4095, 2047, 16383, 32767, 65535, 131071, 262143, 524287, 1048575, 2097151, 4194303, 8388607, 16777215, 4194303, 67108863, 134217727, 268435455, 536870911, 1073741823, 536870911, 4294967295, 8589934591, 17179869183]
theorem scarflaw10_known.tab4 : rtab .any (opsOf Tryd.f9 4) = scarflaw10_known.T4 := by kernel_rfl
theorem scarflaw10_known.bits4 : waitsOk scarflaw10_known.T4.2 scarflaw10_known.B4 = true := by kernel_rfl
set_option maxHeartbeats 8000000 in
set_option maxRecDepth 100000 in
theorem scarflaw10_known.calls (k : Nat)  (r : Bool) (w : World) (htab : TabOk w) (h : scarflaw10_known.f k  = some r) (hr_ : r = true := by rfl) :
  Calls Tryd.prog 9 #[] w fun e w' => e = .returned (.bool r) ∧ Below w.heap.size w w' := by
 subst hr_
 have hu24 := Tryd.underlying24
 have hu30 := Tryd.underlying30
 have HB := Aside0.mk (Below.refl w.heap.size w)
 have HTAB := Aside0.mk htab
 clear htab
 have H : ((scarflaw05_Name.f (⟨#[120]⟩ : ByteArray)).bind fun bt164 => ((scarflaw05_Name.f (⟨#[120]⟩ : ByteArray)).bind fun bt170 => ((scarflaw05_Bin.f (⟨#[43]⟩ : ByteArray) bt164.1 bt164.2.1 bt164.2.2.1 bt164.2.2.2 bt170.1 bt170.2.1 bt170.2.2.1 bt170.2.2.2).bind fun bt176 => ((shape_Of.f bt176.1 bt176.2.1 bt176.2.2.1 bt176.2.2.2).bind fun bt183 => ((shape_Marks.f (([(⟨bt176.1, bt176.2.1, bt176.2.2.1, bt176.2.2.2⟩ : S24)] : List (S24)))).bind fun t199 => (if (bt183.1.length : Int) = 3 then ((scarfref03_Same.f k bt183.2.1 (([(-1), 0, 0] : List Int))).bind fun t205 => (if t205 = true then ((scarfref03_Same.f k bt183.2.2.1 (([3, 1, 1] : List Int))).bind fun t209 => (if t209 = true then (if (t199.length : Int) = 1 then (if 0 < (t199.length : Int) then ((scarfref03_Same.f k (rd_L3 t199 0) (([0, 1, 1] : List Int))).bind fun t214 => (if t214 = true then ((shape_Tree.f k bt183.1 bt183.2.1 bt183.2.2.1 bt183.2.2.2).bind fun bt215 => ((scarfref05_Same.f k bt215.1 bt215.2.1 bt215.2.2.1 bt215.2.2.2 bt176.1 bt176.2.1 bt176.2.2.1 bt176.2.2.2).bind fun t221 => (if t221 = true then (some true) else (some false)))) else (some false))) else (none)) else (some false)) else (some false))) else (some false))) else (some false))))))) = some true := h
 clear h
 replace H := Option.bind_eq_some_iff.mp H
 obtain ⟨⟨t164, t165, t166, t167⟩, A10, H⟩ := H
 replace H : ((scarflaw05_Name.f (⟨#[120]⟩ : ByteArray)).bind fun bt170 => ((scarflaw05_Bin.f (⟨#[43]⟩ : ByteArray) t164 t165 t166 t167 bt170.1 bt170.2.1 bt170.2.2.1 bt170.2.2.2).bind fun bt176 => ((shape_Of.f bt176.1 bt176.2.1 bt176.2.2.1 bt176.2.2.2).bind fun bt183 => ((shape_Marks.f (([(⟨bt176.1, bt176.2.1, bt176.2.2.1, bt176.2.2.2⟩ : S24)] : List (S24)))).bind fun t199 => (if (bt183.1.length : Int) = 3 then ((scarfref03_Same.f k bt183.2.1 (([(-1), 0, 0] : List Int))).bind fun t205 => (if t205 = true then ((scarfref03_Same.f k bt183.2.2.1 (([3, 1, 1] : List Int))).bind fun t209 => (if t209 = true then (if (t199.length : Int) = 1 then (if 0 < (t199.length : Int) then ((scarfref03_Same.f k (rd_L3 t199 0) (([0, 1, 1] : List Int))).bind fun t214 => (if t214 = true then ((shape_Tree.f k bt183.1 bt183.2.1 bt183.2.2.1 bt183.2.2.2).bind fun bt215 => ((scarfref05_Same.f k bt215.1 bt215.2.1 bt215.2.2.1 bt215.2.2.2 bt176.1 bt176.2.1 bt176.2.2.1 bt176.2.2.2).bind fun t221 => (if t221 = true then (some true) else (some false)))) else (some false))) else (none)) else (some false)) else (some false))) else (some false))) else (some false)))))) = some true := H
 have A1 := Aside0.mk A10
 clear A10
 replace H := Option.bind_eq_some_iff.mp H
 obtain ⟨⟨t170, t171, t172, t173⟩, A20, H⟩ := H
 replace H : ((scarflaw05_Bin.f (⟨#[43]⟩ : ByteArray) t164 t165 t166 t167 t170 t171 t172 t173).bind fun bt176 => ((shape_Of.f bt176.1 bt176.2.1 bt176.2.2.1 bt176.2.2.2).bind fun bt183 => ((shape_Marks.f (([(⟨bt176.1, bt176.2.1, bt176.2.2.1, bt176.2.2.2⟩ : S24)] : List (S24)))).bind fun t199 => (if (bt183.1.length : Int) = 3 then ((scarfref03_Same.f k bt183.2.1 (([(-1), 0, 0] : List Int))).bind fun t205 => (if t205 = true then ((scarfref03_Same.f k bt183.2.2.1 (([3, 1, 1] : List Int))).bind fun t209 => (if t209 = true then (if (t199.length : Int) = 1 then (if 0 < (t199.length : Int) then ((scarfref03_Same.f k (rd_L3 t199 0) (([0, 1, 1] : List Int))).bind fun t214 => (if t214 = true then ((shape_Tree.f k bt183.1 bt183.2.1 bt183.2.2.1 bt183.2.2.2).bind fun bt215 => ((scarfref05_Same.f k bt215.1 bt215.2.1 bt215.2.2.1 bt215.2.2.2 bt176.1 bt176.2.1 bt176.2.2.1 bt176.2.2.2).bind fun t221 => (if t221 = true then (some true) else (some false)))) else (some false))) else (none)) else (some false)) else (some false))) else (some false))) else (some false))))) = some true := H
 have A2 := Aside0.mk A20
 clear A20
 replace H := Option.bind_eq_some_iff.mp H
 obtain ⟨⟨t176, t177, t178, t179⟩, A30, H⟩ := H
 replace H : ((shape_Of.f t176 t177 t178 t179).bind fun bt183 => ((shape_Marks.f (([(⟨t176, t177, t178, t179⟩ : S24)] : List (S24)))).bind fun t199 => (if (bt183.1.length : Int) = 3 then ((scarfref03_Same.f k bt183.2.1 (([(-1), 0, 0] : List Int))).bind fun t205 => (if t205 = true then ((scarfref03_Same.f k bt183.2.2.1 (([3, 1, 1] : List Int))).bind fun t209 => (if t209 = true then (if (t199.length : Int) = 1 then (if 0 < (t199.length : Int) then ((scarfref03_Same.f k (rd_L3 t199 0) (([0, 1, 1] : List Int))).bind fun t214 => (if t214 = true then ((shape_Tree.f k bt183.1 bt183.2.1 bt183.2.2.1 bt183.2.2.2).bind fun bt215 => ((scarfref05_Same.f k bt215.1 bt215.2.1 bt215.2.2.1 bt215.2.2.2 t176 t177 t178 t179).bind fun t221 => (if t221 = true then (some true) else (some false)))) else (some false))) else (none)) else (some false)) else (some false))) else (some false))) else (some false)))) = some true := H
 have A3 := Aside0.mk A30
 clear A30
 replace H := Option.bind_eq_some_iff.mp H
 obtain ⟨⟨t183, t186, t189, t192⟩, A40, H⟩ := H
 replace H : ((shape_Marks.f (([(⟨t176, t177, t178, t179⟩ : S24)] : List (S24)))).bind fun t199 => (if (t183.length : Int) = 3 then ((scarfref03_Same.f k t186 (([(-1), 0, 0] : List Int))).bind fun t205 => (if t205 = true then ((scarfref03_Same.f k t189 (([3, 1, 1] : List Int))).bind fun t209 => (if t209 = true then (if (t199.length : Int) = 1 then (if 0 < (t199.length : Int) then ((scarfref03_Same.f k (rd_L3 t199 0) (([0, 1, 1] : List Int))).bind fun t214 => (if t214 = true then ((shape_Tree.f k t183 t186 t189 t192).bind fun bt215 => ((scarfref05_Same.f k bt215.1 bt215.2.1 bt215.2.2.1 bt215.2.2.2 t176 t177 t178 t179).bind fun t221 => (if t221 = true then (some true) else (some false)))) else (some false))) else (none)) else (some false)) else (some false))) else (some false))) else (some false))) = some true := H
 have A4 := Aside0.mk A40
 clear A40
 obtain ⟨y196, hy196⟩ : ∃ y_ : List (S24), y_ = (([(⟨t176, t177, t178, t179⟩ : S24)] : List (S24))) := ⟨_, rfl⟩
 replace H : ((shape_Marks.f y196).bind fun t199 => (if (t183.length : Int) = 3 then ((scarfref03_Same.f k t186 (([(-1), 0, 0] : List Int))).bind fun t205 => (if t205 = true then ((scarfref03_Same.f k t189 (([3, 1, 1] : List Int))).bind fun t209 => (if t209 = true then (if (t199.length : Int) = 1 then (if 0 < (t199.length : Int) then ((scarfref03_Same.f k (rd_L3 t199 0) (([0, 1, 1] : List Int))).bind fun t214 => (if t214 = true then ((shape_Tree.f k t183 t186 t189 t192).bind fun bt215 => ((scarfref05_Same.f k bt215.1 bt215.2.1 bt215.2.2.1 bt215.2.2.2 t176 t177 t178 t179).bind fun t221 => (if t221 = true then (some true) else (some false)))) else (some false))) else (none)) else (some false)) else (some false))) else (some false))) else (some false))) = some true := by first | (rw [hy196]; with_reducible exact H) | (have H2_ := (Option.bind_some _ _).symm.trans H; rw [hy196]; with_reducible exact H2_) | (have H2_ := (Option.bind_some _ _).symm.trans H; with_reducible exact H2_) | with_reducible exact H | (rw [hy196]; exact H) | exact H
 have Ny196 := Aside0.mk hy196
 clear hy196
 replace H := Option.bind_eq_some_iff.mp H
 obtain ⟨t199, A50, H⟩ := H
 replace H : (if (t183.length : Int) = 3 then ((scarfref03_Same.f k t186 (([(-1), 0, 0] : List Int))).bind fun t205 => (if t205 = true then ((scarfref03_Same.f k t189 (([3, 1, 1] : List Int))).bind fun t209 => (if t209 = true then (if (t199.length : Int) = 1 then (if 0 < (t199.length : Int) then ((scarfref03_Same.f k (rd_L3 t199 0) (([0, 1, 1] : List Int))).bind fun t214 => (if t214 = true then ((shape_Tree.f k t183 t186 t189 t192).bind fun bt215 => ((scarfref05_Same.f k bt215.1 bt215.2.1 bt215.2.2.1 bt215.2.2.2 t176 t177 t178 t179).bind fun t221 => (if t221 = true then (some true) else (some false)))) else (some false))) else (none)) else (some false)) else (some false))) else (some false))) else (some false)) = some true := H
 have A5 := Aside0.mk A50
 clear A50
 by_cases c6 : (t183.length : Int) = 3
 ·rw [if_pos c6] at H
  have c6b0 : ((t183.length : Int) == 3) = true := beq_iff_eq.mpr c6
  have c6b1 : ((t183.length : Int) != 3) = false := bne_eq_false_iff_eq.mpr c6
  clear c6
  obtain ⟨y202, hy202⟩ : ∃ y_ : List Int, y_ = (([(-1), 0, 0] : List Int)) := ⟨_, rfl⟩
  replace H : ((scarfref03_Same.f k t186 y202).bind fun t205 => (if t205 = true then ((scarfref03_Same.f k t189 (([3, 1, 1] : List Int))).bind fun t209 => (if t209 = true then (if (t199.length : Int) = 1 then (if 0 < (t199.length : Int) then ((scarfref03_Same.f k (rd_L3 t199 0) (([0, 1, 1] : List Int))).bind fun t214 => (if t214 = true then ((shape_Tree.f k t183 t186 t189 t192).bind fun bt215 => ((scarfref05_Same.f k bt215.1 bt215.2.1 bt215.2.2.1 bt215.2.2.2 t176 t177 t178 t179).bind fun t221 => (if t221 = true then (some true) else (some false)))) else (some false))) else (none)) else (some false)) else (some false))) else (some false))) = some true := by first | (rw [hy202]; with_reducible exact H) | (have H2_ := (Option.bind_some _ _).symm.trans H; rw [hy202]; with_reducible exact H2_) | (have H2_ := (Option.bind_some _ _).symm.trans H; with_reducible exact H2_) | with_reducible exact H | (rw [hy202]; exact H) | exact H
  have Ny202 := Aside0.mk hy202
  clear hy202
  replace H := Option.bind_eq_some_iff.mp H
  obtain ⟨t205, A70, H⟩ := H
  replace H : (if t205 = true then ((scarfref03_Same.f k t189 (([3, 1, 1] : List Int))).bind fun t209 => (if t209 = true then (if (t199.length : Int) = 1 then (if 0 < (t199.length : Int) then ((scarfref03_Same.f k (rd_L3 t199 0) (([0, 1, 1] : List Int))).bind fun t214 => (if t214 = true then ((shape_Tree.f k t183 t186 t189 t192).bind fun bt215 => ((scarfref05_Same.f k bt215.1 bt215.2.1 bt215.2.2.1 bt215.2.2.2 t176 t177 t178 t179).bind fun t221 => (if t221 = true then (some true) else (some false)))) else (some false))) else (none)) else (some false)) else (some false))) else (some false)) = some true := H
  have A7 := Aside0.mk A70
  clear A70
  by_cases c8 : t205 = true
  ·subst c8
   have H1 : ((scarfref03_Same.f k t189 (([3, 1, 1] : List Int))).bind fun t209 => (if t209 = true then (if (t199.length : Int) = 1 then (if 0 < (t199.length : Int) then ((scarfref03_Same.f k (rd_L3 t199 0) (([0, 1, 1] : List Int))).bind fun t214 => (if t214 = true then ((shape_Tree.f k t183 t186 t189 t192).bind fun bt215 => ((scarfref05_Same.f k bt215.1 bt215.2.1 bt215.2.2.1 bt215.2.2.2 t176 t177 t178 t179).bind fun t221 => (if t221 = true then (some true) else (some false)))) else (some false))) else (none)) else (some false)) else (some false))) = some true := by first | with_reducible rfl | (rw [if_pos rfl] at H; exact H)
   clear H
   have H := H1
   clear H1
   obtain ⟨y206, hy206⟩ : ∃ y_ : List Int, y_ = (([3, 1, 1] : List Int)) := ⟨_, rfl⟩
   replace H : ((scarfref03_Same.f k t189 y206).bind fun t209 => (if t209 = true then (if (t199.length : Int) = 1 then (if 0 < (t199.length : Int) then ((scarfref03_Same.f k (rd_L3 t199 0) (([0, 1, 1] : List Int))).bind fun t214 => (if t214 = true then ((shape_Tree.f k t183 t186 t189 t192).bind fun bt215 => ((scarfref05_Same.f k bt215.1 bt215.2.1 bt215.2.2.1 bt215.2.2.2 t176 t177 t178 t179).bind fun t221 => (if t221 = true then (some true) else (some false)))) else (some false))) else (none)) else (some false)) else (some false))) = some true := by first | (rw [hy206]; with_reducible exact H) | (have H2_ := (Option.bind_some _ _).symm.trans H; rw [hy206]; with_reducible exact H2_) | (have H2_ := (Option.bind_some _ _).symm.trans H; with_reducible exact H2_) | with_reducible exact H | (rw [hy206]; exact H) | exact H
   have Ny206 := Aside0.mk hy206
   clear hy206
   replace H := Option.bind_eq_some_iff.mp H
   obtain ⟨t209, A90, H⟩ := H
   replace H : (if t209 = true then (if (t199.length : Int) = 1 then (if 0 < (t199.length : Int) then ((scarfref03_Same.f k (rd_L3 t199 0) (([0, 1, 1] : List Int))).bind fun t214 => (if t214 = true then ((shape_Tree.f k t183 t186 t189 t192).bind fun bt215 => ((scarfref05_Same.f k bt215.1 bt215.2.1 bt215.2.2.1 bt215.2.2.2 t176 t177 t178 t179).bind fun t221 => (if t221 = true then (some true) else (some false)))) else (some false))) else (none)) else (some false)) else (some false)) = some true := H
   have A9 := Aside0.mk A90
   clear A90
   by_cases c10 : t209 = true
   ·subst c10
    have H1 : (if (t199.length : Int) = 1 then (if 0 < (t199.length : Int) then ((scarfref03_Same.f k (rd_L3 t199 0) (([0, 1, 1] : List Int))).bind fun t214 => (if t214 = true then ((shape_Tree.f k t183 t186 t189 t192).bind fun bt215 => ((scarfref05_Same.f k bt215.1 bt215.2.1 bt215.2.2.1 bt215.2.2.2 t176 t177 t178 t179).bind fun t221 => (if t221 = true then (some true) else (some false)))) else (some false))) else (none)) else (some false)) = some true := by first | with_reducible rfl | (rw [if_pos rfl] at H; exact H)
    clear H
    have H := H1
    clear H1
    by_cases c11 : (t199.length : Int) = 1
    ·rw [if_pos c11] at H
     have c11b0 : ((t199.length : Int) == 1) = true := beq_iff_eq.mpr c11
     have c11b1 : ((t199.length : Int) != 1) = false := bne_eq_false_iff_eq.mpr c11
     clear c11
     by_cases c12 : 0 < (t199.length : Int)
     ·rw [if_pos c12] at H
      have c12b0 : decide (0 < (t199.length : Int)) = true := decide_eq_true c12
      have c12b1 : decide (0 < t199.length) = true := decide_eq_true (by omega)
      clear c12
      obtain ⟨y211, hy211⟩ : ∃ y_ : List Int, y_ = (([0, 1, 1] : List Int)) := ⟨_, rfl⟩
      replace H : ((scarfref03_Same.f k (rd_L3 t199 0) y211).bind fun t214 => (if t214 = true then ((shape_Tree.f k t183 t186 t189 t192).bind fun bt215 => ((scarfref05_Same.f k bt215.1 bt215.2.1 bt215.2.2.1 bt215.2.2.2 t176 t177 t178 t179).bind fun t221 => (if t221 = true then (some true) else (some false)))) else (some false))) = some true := by first | (rw [hy211]; with_reducible exact H) | (have H2_ := (Option.bind_some _ _).symm.trans H; rw [hy211]; with_reducible exact H2_) | (have H2_ := (Option.bind_some _ _).symm.trans H; with_reducible exact H2_) | with_reducible exact H | (rw [hy211]; exact H) | exact H
      have Ny211 := Aside0.mk hy211
      clear hy211
      replace H := Option.bind_eq_some_iff.mp H
      obtain ⟨t214, A130, H⟩ := H
      replace H : (if t214 = true then ((shape_Tree.f k t183 t186 t189 t192).bind fun bt215 => ((scarfref05_Same.f k bt215.1 bt215.2.1 bt215.2.2.1 bt215.2.2.2 t176 t177 t178 t179).bind fun t221 => (if t221 = true then (some true) else (some false)))) else (some false)) = some true := H
      have A13 := Aside0.mk A130
      clear A130
      by_cases c14 : t214 = true
      ·subst c14
       have H1 : ((shape_Tree.f k t183 t186 t189 t192).bind fun bt215 => ((scarfref05_Same.f k bt215.1 bt215.2.1 bt215.2.2.1 bt215.2.2.2 t176 t177 t178 t179).bind fun t221 => (if t221 = true then (some true) else (some false)))) = some true := by first | with_reducible rfl | (rw [if_pos rfl] at H; exact H)
       clear H
       have H := H1
       clear H1
       replace H := Option.bind_eq_some_iff.mp H
       obtain ⟨⟨t215, t216, t217, t218⟩, A150, H⟩ := H
       replace H : ((scarfref05_Same.f k t215 t216 t217 t218 t176 t177 t178 t179).bind fun t221 => (if t221 = true then (some true) else (some false))) = some true := H
       have A15 := Aside0.mk A150
       clear A150
       replace H := Option.bind_eq_some_iff.mp H
       obtain ⟨t221, A160, H⟩ := H
       replace H : (if t221 = true then (some true) else (some false)) = some true := H
       have A16 := Aside0.mk A160
       clear A160
       by_cases c17 : t221 = true
       ·subst c17
        have H1 : (some true) = some true := by first | with_reducible rfl | (rw [if_pos rfl] at H; exact H)
        clear H
        have H := H1
        clear H1
        go_enter Tryd.func9, Tryd.ntmps9
        try go_wp2_with (first | ((with_reducible refine gate_callee (f := 22) rfl ?_); refine goesL_ (some 4) rfl rfl Tryd.func22 (by kernel_rfl) rfl #[.string (⟨#[120]⟩ : ByteArray)] rfl (by (try simp only [List.map_toArray, List.map_cons, List.map_nil]); first | done | rfl | (simp only [List.length_drop, List.length_take]; rfl)) ?_; (with_reducible refine (scarflaw05_Name.calls (⟨#[120]⟩ : ByteArray) t164 t165 t166 t167 _ A1.out).mono ?_); rintro e w18 ⟨v168, rfl, ho0, hb⟩; refine ⟨_, rfl, ?_⟩; have n0_ := Aside0.mk (Kd.N_lower (Kd.N_mono (ok' := fun k_ => True) (Kd.R_N (Kd.R_bound ho0)) (fun k_ hk_ => trivial)) (below_size (by repeat (first | (with_reducible first | exact HB.out | apply below_alloc | apply pw_below_drewN | apply below_drew1) | exact HB.out)))); have n1_ := Aside0.mk (below_step (by repeat (first | (with_reducible first | exact HB.out | apply below_alloc | apply pw_below_drewN | apply below_drew1) | exact HB.out)) hb); clear HB; have HO169 := n0_; have HB := n1_; clear n0_ n1_; (try clear hb); (try clear hb2); (try clear hk); (try clear hi); (try clear ho0)) | ((with_reducible refine gate_callee (f := 22) rfl ?_); refine goesL_ (some 5) rfl rfl Tryd.func22 (by kernel_rfl) rfl #[.string (⟨#[120]⟩ : ByteArray)] rfl (by (try simp only [List.map_toArray, List.map_cons, List.map_nil]); first | done | rfl | (simp only [List.length_drop, List.length_take]; rfl)) ?_; (with_reducible refine (scarflaw05_Name.calls (⟨#[120]⟩ : ByteArray) t170 t171 t172 t173 _ A2.out).mono ?_); rintro e w19 ⟨v174, rfl, ho0, hb⟩; refine ⟨_, rfl, ?_⟩; have n0_ := Aside0.mk (Kd.N_elder' (by (with_reducible repeat (first | apply Kd.N_alloc | apply Kd.N_drewN | apply Kd.N_drew)); exact HO169.out) (Kd.R_base ho0) hb); have n1_ := Aside0.mk (Kd.N_lower (Kd.N_mono (ok' := fun k_ => some k_ ≠ (v168 : Value).ownBlock) (Kd.R_N (Kd.R_bound ho0)) (fun k_ hk_ => (Kd.fresh' (Kd.N_lt (by (with_reducible repeat (first | apply Kd.N_alloc | apply Kd.N_drewN | apply Kd.N_drew)); exact HO169.out)) k_ hk_.2.1))) (below_size (by repeat (first | (with_reducible first | exact HB.out | apply below_alloc | apply pw_below_drewN | apply below_drew1) | exact HB.out)))); have n2_ := Aside0.mk (below_step (by repeat (first | (with_reducible first | exact HB.out | apply below_alloc | apply pw_below_drewN | apply below_drew1) | exact HB.out)) hb); clear HO169; clear HB; have HO169 := n0_; have HO175 := n1_; have HB := n2_; clear n0_ n1_ n2_; (try clear hb); (try clear hb2); (try clear hk); (try clear hi); (try clear ho0); obtain ⟨Ao20, co20, eo20⟩ := Kd.N_slice HO169.out; subst eo20; obtain ⟨Ao21, co21, eo21⟩ := Kd.N_slice HO175.out; subst eo21) | ((with_reducible refine gate_callee (f := 21) rfl ?_); refine goesL_ (some 6) rfl rfl Tryd.func21 (by kernel_rfl) rfl #[.string (⟨#[43]⟩ : ByteArray), .agg #[.int .i64 t164, .string t165, .string t166, .slice Ao20 t167.length co20], .agg #[.int .i64 t170, .string t171, .string t172, .slice Ao21 t173.length co21]] rfl (by (try simp only [List.map_toArray, List.map_cons, List.map_nil]); first | done | rfl | (simp only [List.length_drop, List.length_take]; rfl)) ?_; (with_reducible refine (scarflaw05_Bin.calls (⟨#[43]⟩ : ByteArray) t164 t165 t166 (fun k_ => (True ∧ some k_ ≠ (.slice Ao21 t173.length co21 : Value).ownBlock)) _ _ t167 t170 t171 t172 (fun k_ => some k_ ≠ (.slice Ao20 t167.length co20 : Value).ownBlock) _ _ t173 t176 t177 t178 t179 _ ?side1 ?side2 A3.out).mono ?_); (case side1 => exact Kd.N_V (HO169.out)); (case side2 => exact Kd.N_V (HO175.out)); rintro e w22 ⟨v180, rfl, ho0, hb⟩; refine ⟨_, rfl, ?_⟩; have n0_ := Aside0.mk (Kd.N_elder' (by (with_reducible repeat (first | apply Kd.N_alloc | apply Kd.N_drewN | apply Kd.N_drew)); exact HO169.out) (Kd.N_base ho0) hb); have n1_ := Aside0.mk (Kd.N_elder' (by (with_reducible repeat (first | apply Kd.N_alloc | apply Kd.N_drewN | apply Kd.N_drew)); exact HO175.out) (Kd.N_base ho0) hb); have n2_ := Aside0.mk (Kd.N_lower (Kd.N_mono (ok' := fun k_ => True) ho0 (fun k_ hk_ => trivial)) (below_size (by repeat (first | (with_reducible first | exact HB.out | apply below_alloc | apply pw_below_drewN | apply below_drew1) | exact HB.out)))); have n3_ := Aside0.mk (below_step (by repeat (first | (with_reducible first | exact HB.out | apply below_alloc | apply pw_below_drewN | apply below_drew1) | exact HB.out)) hb); clear HO169; clear HO175; clear HB; have HO169 := n0_; have HO175 := n1_; have HO181 := n2_; have HB := n3_; clear n0_ n1_ n2_ n3_; (try clear hb); (try clear hb2); (try clear hk); (try clear hi); (try clear ho0)) | ((with_reducible refine gate_dst (N := 1) rfl ?_); (try (refine gate_guard (by rfl) ?_; dsimp only)); refine box_event ?hg (N := 1) ?hd (cs := #[.int .i64 0, .string (⟨#[]⟩ : ByteArray), .string (⟨#[]⟩ : ByteArray), .slice none 0 0]) (t := 24) ?hr ?_; (case hd => rfl); (case hg => rfl); (case hr => first | (go_simp; done) | (go_simp; rfl)); intro gb182 hg w23 hbox hb; have n0_ := Aside0.mk (Kd.N_below (Kd.N_elderB (by (with_reducible repeat (first | apply Kd.N_alloc | apply Kd.N_drewN | apply Kd.N_drew)); exact HO169.out) gb182 (Nat.le_of_eq hg.symm)) hb); have n1_ := Aside0.mk (Kd.N_below (Kd.N_elderB (by (with_reducible repeat (first | apply Kd.N_alloc | apply Kd.N_drewN | apply Kd.N_drew)); exact HO175.out) gb182 (Nat.le_of_eq hg.symm)) hb); have n2_ := Aside0.mk (Kd.N_below (Kd.N_elderB (by (with_reducible repeat (first | apply Kd.N_alloc | apply Kd.N_drewN | apply Kd.N_drew)); exact HO181.out) gb182 (Nat.le_of_eq hg.symm)) hb); have n3_ := Aside0.mk (below_step (by repeat (first | (with_reducible first | exact HB.out | apply below_alloc | apply pw_below_drewN | apply below_drew1) | exact HB.out)) hb); have n4_ := Aside0.mk (hbox); have n5_ := Aside0.mk ((by rw [hg]; exact (below_size (by repeat (first | (with_reducible first | exact HB.out | apply below_alloc | apply pw_below_drewN | apply below_drew1) | exact HB.out))) : w.heap.size ≤ gb182)); have n6_ := Aside0.mk ((by rw [hg]; exact (below_size (by repeat (first | (with_reducible first | exact HB.out | apply below_alloc | apply pw_below_drewN | apply below_drew1) | exact HB.out))) : w.heap.size ≤ gb182)); clear HO169; clear HO175; clear HO181; clear HB; have HO169 := n0_; have HO175 := n1_; have HO181 := n2_; have HB := n3_; have BK182 := n4_; have GW182 := n5_; have GE182 := n6_; clear n0_ n1_ n2_ n3_ n4_ n5_ n6_; clear hb hbox hg; have hcz24_0 : w23.cell? ⟨gb182, 0, none⟩ = some (.int .i64 0) := (blk_cell BK182.out 0).trans rfl; have hcz24_1 : w23.cell? ⟨gb182, 1, none⟩ = some (.string (⟨#[]⟩ : ByteArray)) := (blk_cell BK182.out 1).trans rfl; have hcz24_2 : w23.cell? ⟨gb182, 2, none⟩ = some (.string (⟨#[]⟩ : ByteArray)) := (blk_cell BK182.out 2).trans rfl; have hcz24_3 : w23.cell? ⟨gb182, 3, none⟩ = some (.slice none 0 0) := (blk_cell BK182.out 3).trans rfl; have hfz24_0 := blk_frozen BK182.out 0; have hfz24_1 := blk_frozen BK182.out 1; have hfz24_2 := blk_frozen BK182.out 2; have hfz24_3 := blk_frozen BK182.out 3; obtain ⟨Ao25, co25, eo25⟩ := Kd.N_slice HO181.out; subst eo25) | ((with_reducible refine gate_callee (f := 10) rfl ?_); refine goesL_ (some 8) rfl rfl Tryd.func10 (by kernel_rfl) rfl #[.agg #[.int .i64 t176, .string t177, .string t178, .slice Ao25 t179.length co25]] rfl (by (try simp only [List.map_toArray, List.map_cons, List.map_nil]); first | done | rfl | (simp only [List.length_drop, List.length_take]; rfl)) ?_; (with_reducible refine (shape_Of.calls t176 t177 t178 _ _ t179 t183 t186 t189 t192 _ ?side1 ?side2 A4.out).mono ?_); (case side1 => refine (Kd.N_reads' (e := 24) (base := w.heap.size) (ok := fun k_ => (True ∧ k_ ≠ gb182)) (n := t179.length) (c := co25) ?_).2.2; exact (by (with_reducible repeat (first | apply Kd.N_alloc | apply Kd.N_drewN | apply Kd.N_drew)); exact (Kd.N_mono (Kd.N_far (p := ⟨gb182, 3, none⟩) (Kd.N_far (p := ⟨gb182, 2, none⟩) (Kd.N_far (p := ⟨gb182, 1, none⟩) (Kd.N_far (p := ⟨gb182, 0, none⟩) (Kd.N_mono HO181.out (fun k_ hk => (⟨hk, hk.2⟩ : _ ∧ k_ ≠ gb182))) (fun _ hk => hk.2) (.int .i64 t176)) (fun _ hk => hk.2) (.string t177)) (fun _ hk => hk.2) (.string t178)) (fun _ hk => hk.2) (.slice Ao25 t179.length co25)) (fun _ h_ => h_.1)))); (case side2 => first | exact (Kd.N_reads' HO181.out).2.1 | exact (Kd.V_reads' HO181.out).2.1); rintro e w26 ⟨v184, v187, v190, v193, rfl, ho0, ho1, ho2, ho3, hb⟩; refine ⟨_, rfl, ?_⟩; have n0_ := Aside0.mk (Kd.N_mono (Kd.N_told (Kd.N_told (Kd.N_told (Kd.N_told (Kd.N_old (by (with_reducible repeat (first | apply Kd.N_alloc | apply Kd.N_drewN | apply Kd.N_drew)); exact (Kd.N_mono (Kd.N_far (p := ⟨gb182, 3, none⟩) (Kd.N_far (p := ⟨gb182, 2, none⟩) (Kd.N_far (p := ⟨gb182, 1, none⟩) (Kd.N_far (p := ⟨gb182, 0, none⟩) (Kd.N_mono HO169.out (fun k_ hk => (⟨hk, hk.2⟩ : _ ∧ k_ ≠ gb182))) (fun _ hk => hk.2) (.int .i64 t176)) (fun _ hk => hk.2) (.string t177)) (fun _ hk => hk.2) (.string t178)) (fun _ hk => hk.2) (.slice Ao25 t179.length co25)) (fun _ h_ => h_.1))) hb) (Kd.N_base ho0)) (Kd.R_base ho1)) (Kd.R_base ho2)) (Kd.S_base ho3)) (fun _ h_ => h_.1)); have n1_ := Aside0.mk (Kd.N_mono (Kd.N_told (Kd.N_told (Kd.N_told (Kd.N_told (Kd.N_old (by (with_reducible repeat (first | apply Kd.N_alloc | apply Kd.N_drewN | apply Kd.N_drew)); exact (Kd.N_mono (Kd.N_far (p := ⟨gb182, 3, none⟩) (Kd.N_far (p := ⟨gb182, 2, none⟩) (Kd.N_far (p := ⟨gb182, 1, none⟩) (Kd.N_far (p := ⟨gb182, 0, none⟩) (Kd.N_mono HO175.out (fun k_ hk => (⟨hk, hk.2⟩ : _ ∧ k_ ≠ gb182))) (fun _ hk => hk.2) (.int .i64 t176)) (fun _ hk => hk.2) (.string t177)) (fun _ hk => hk.2) (.string t178)) (fun _ hk => hk.2) (.slice Ao25 t179.length co25)) (fun _ h_ => h_.1))) hb) (Kd.N_base ho0)) (Kd.R_base ho1)) (Kd.R_base ho2)) (Kd.S_base ho3)) (fun _ h_ => h_.1)); have n2_ := Aside0.mk (Kd.N_mono (Kd.N_told (Kd.N_told (Kd.N_told (Kd.N_told (Kd.N_old (by (with_reducible repeat (first | apply Kd.N_alloc | apply Kd.N_drewN | apply Kd.N_drew)); exact (Kd.N_mono (Kd.N_far (p := ⟨gb182, 3, none⟩) (Kd.N_far (p := ⟨gb182, 2, none⟩) (Kd.N_far (p := ⟨gb182, 1, none⟩) (Kd.N_far (p := ⟨gb182, 0, none⟩) (Kd.N_mono HO181.out (fun k_ hk => (⟨hk, hk.2⟩ : _ ∧ k_ ≠ gb182))) (fun _ hk => hk.2) (.int .i64 t176)) (fun _ hk => hk.2) (.string t177)) (fun _ hk => hk.2) (.string t178)) (fun _ hk => hk.2) (.slice Ao25 t179.length co25)) (fun _ h_ => h_.1))) hb) (Kd.N_base ho0)) (Kd.R_base ho1)) (Kd.R_base ho2)) (Kd.S_base ho3)) (fun _ h_ => h_.1)); have n3_ := Aside0.mk (Kd.N_lower (Kd.N_mono (ok' := fun k_ => some k_ ≠ (v187 : Value).ownBlock ∧ some k_ ≠ (v190 : Value).ownBlock ∧ some k_ ≠ (v193 : Value).ownBlock ∧ some k_ ≠ (.slice Ao20 t167.length co20 : Value).ownBlock ∧ some k_ ≠ (.slice Ao21 t173.length co21 : Value).ownBlock ∧ some k_ ≠ (.slice Ao25 t179.length co25 : Value).ownBlock ∧ k_ ≠ gb182) ho0 (fun k_ hk_ => ⟨hk_.2.1, hk_.2.2.1, hk_.2.2.2, (Kd.fresh' (Kd.N_lt (by (with_reducible repeat (first | apply Kd.N_alloc | apply Kd.N_drewN | apply Kd.N_drew)); exact (Kd.N_mono (Kd.N_far (p := ⟨gb182, 3, none⟩) (Kd.N_far (p := ⟨gb182, 2, none⟩) (Kd.N_far (p := ⟨gb182, 1, none⟩) (Kd.N_far (p := ⟨gb182, 0, none⟩) (Kd.N_mono HO169.out (fun k_ hk => (⟨hk, hk.2⟩ : _ ∧ k_ ≠ gb182))) (fun _ hk => hk.2) (.int .i64 t176)) (fun _ hk => hk.2) (.string t177)) (fun _ hk => hk.2) (.string t178)) (fun _ hk => hk.2) (.slice Ao25 t179.length co25)) (fun _ h_ => h_.1)))) k_ hk_.1), (Kd.fresh' (Kd.N_lt (by (with_reducible repeat (first | apply Kd.N_alloc | apply Kd.N_drewN | apply Kd.N_drew)); exact (Kd.N_mono (Kd.N_far (p := ⟨gb182, 3, none⟩) (Kd.N_far (p := ⟨gb182, 2, none⟩) (Kd.N_far (p := ⟨gb182, 1, none⟩) (Kd.N_far (p := ⟨gb182, 0, none⟩) (Kd.N_mono HO175.out (fun k_ hk => (⟨hk, hk.2⟩ : _ ∧ k_ ≠ gb182))) (fun _ hk => hk.2) (.int .i64 t176)) (fun _ hk => hk.2) (.string t177)) (fun _ hk => hk.2) (.string t178)) (fun _ hk => hk.2) (.slice Ao25 t179.length co25)) (fun _ h_ => h_.1)))) k_ hk_.1), (Kd.fresh' (Kd.N_lt (by (with_reducible repeat (first | apply Kd.N_alloc | apply Kd.N_drewN | apply Kd.N_drew)); exact (Kd.N_mono (Kd.N_far (p := ⟨gb182, 3, none⟩) (Kd.N_far (p := ⟨gb182, 2, none⟩) (Kd.N_far (p := ⟨gb182, 1, none⟩) (Kd.N_far (p := ⟨gb182, 0, none⟩) (Kd.N_mono HO181.out (fun k_ hk => (⟨hk, hk.2⟩ : _ ∧ k_ ≠ gb182))) (fun _ hk => hk.2) (.int .i64 t176)) (fun _ hk => hk.2) (.string t177)) (fun _ hk => hk.2) (.string t178)) (fun _ hk => hk.2) (.slice Ao25 t179.length co25)) (fun _ h_ => h_.1)))) k_ hk_.1), (Kd.freshB (g := gb182) (o := .cells #[.int .i64 t176, .string t177, .string t178, .slice Ao25 t179.length co25] 24 (0, 0)) (by (with_reducible repeat (first | refine blk_drewN ?_ _ | refine blk_drew ?_ | refine blk_alloc ?_ _)); refine blk_put (cs := #[.int .i64 t176, .string t177, .string t178, .slice none 0 0]) ?_ 3 _ rfl; (with_reducible repeat (first | refine blk_drewN ?_ _ | refine blk_drew ?_ | refine blk_alloc ?_ _)); refine blk_put (cs := #[.int .i64 t176, .string t177, .string (⟨#[]⟩ : ByteArray), .slice none 0 0]) ?_ 2 _ rfl; (with_reducible repeat (first | refine blk_drewN ?_ _ | refine blk_drew ?_ | refine blk_alloc ?_ _)); refine blk_put (cs := #[.int .i64 t176, .string (⟨#[]⟩ : ByteArray), .string (⟨#[]⟩ : ByteArray), .slice none 0 0]) ?_ 1 _ rfl; (with_reducible repeat (first | refine blk_drewN ?_ _ | refine blk_drew ?_ | refine blk_alloc ?_ _)); refine blk_put (cs := #[.int .i64 0, .string (⟨#[]⟩ : ByteArray), .string (⟨#[]⟩ : ByteArray), .slice none 0 0]) ?_ 0 _ rfl; (with_reducible repeat (first | refine blk_drewN ?_ _ | refine blk_drew ?_ | refine blk_alloc ?_ _)); exact BK182.out) k_ hk_.1)⟩)) (below_size (by repeat (first | (with_reducible first | exact HB.out | apply below_alloc | apply pw_below_drewN | apply below_drew1 | refine below_set ?_ GE182.out) | exact HB.out)))); have n4_ := Aside0.mk (Kd.R_lower (Kd.R_mono (ok' := fun k_ => some k_ ≠ (v190 : Value).ownBlock) ho1 (fun _ hk_ => hk_.2)) (below_size (by repeat (first | (with_reducible first | exact HB.out | apply below_alloc | apply pw_below_drewN | apply below_drew1 | refine below_set ?_ GE182.out) | exact HB.out)))); have n5_ := Aside0.mk (Kd.R_lower (Kd.R_mono (ok' := fun k_ => some k_ ≠ (v187 : Value).ownBlock) ho2 (fun _ hk_ => hk_.2)) (below_size (by repeat (first | (with_reducible first | exact HB.out | apply below_alloc | apply pw_below_drewN | apply below_drew1 | refine below_set ?_ GE182.out) | exact HB.out)))); have n6_ := Aside0.mk (Kd.N_lower (Kd.N_mono (ok' := fun k_ => some k_ ≠ (v184 : Value).ownBlock ∧ some k_ ≠ (v187 : Value).ownBlock ∧ some k_ ≠ (v190 : Value).ownBlock ∧ some k_ ≠ (.slice Ao20 t167.length co20 : Value).ownBlock ∧ some k_ ≠ (.slice Ao21 t173.length co21 : Value).ownBlock ∧ some k_ ≠ (.slice Ao25 t179.length co25 : Value).ownBlock ∧ k_ ≠ gb182) (Kd.S_N (Kd.S_bound (Kd.S_apart' ho3 (Kd.N_typed ho0) (by decide)))) (fun k_ hk_ => ⟨hk_.1.2, hk_.1.1.2.1, hk_.1.1.2.2, (Kd.fresh' (Kd.N_lt (by (with_reducible repeat (first | apply Kd.N_alloc | apply Kd.N_drewN | apply Kd.N_drew)); exact (Kd.N_mono (Kd.N_far (p := ⟨gb182, 3, none⟩) (Kd.N_far (p := ⟨gb182, 2, none⟩) (Kd.N_far (p := ⟨gb182, 1, none⟩) (Kd.N_far (p := ⟨gb182, 0, none⟩) (Kd.N_mono HO169.out (fun k_ hk => (⟨hk, hk.2⟩ : _ ∧ k_ ≠ gb182))) (fun _ hk => hk.2) (.int .i64 t176)) (fun _ hk => hk.2) (.string t177)) (fun _ hk => hk.2) (.string t178)) (fun _ hk => hk.2) (.slice Ao25 t179.length co25)) (fun _ h_ => h_.1)))) k_ hk_.2.1), (Kd.fresh' (Kd.N_lt (by (with_reducible repeat (first | apply Kd.N_alloc | apply Kd.N_drewN | apply Kd.N_drew)); exact (Kd.N_mono (Kd.N_far (p := ⟨gb182, 3, none⟩) (Kd.N_far (p := ⟨gb182, 2, none⟩) (Kd.N_far (p := ⟨gb182, 1, none⟩) (Kd.N_far (p := ⟨gb182, 0, none⟩) (Kd.N_mono HO175.out (fun k_ hk => (⟨hk, hk.2⟩ : _ ∧ k_ ≠ gb182))) (fun _ hk => hk.2) (.int .i64 t176)) (fun _ hk => hk.2) (.string t177)) (fun _ hk => hk.2) (.string t178)) (fun _ hk => hk.2) (.slice Ao25 t179.length co25)) (fun _ h_ => h_.1)))) k_ hk_.2.1), (Kd.fresh' (Kd.N_lt (by (with_reducible repeat (first | apply Kd.N_alloc | apply Kd.N_drewN | apply Kd.N_drew)); exact (Kd.N_mono (Kd.N_far (p := ⟨gb182, 3, none⟩) (Kd.N_far (p := ⟨gb182, 2, none⟩) (Kd.N_far (p := ⟨gb182, 1, none⟩) (Kd.N_far (p := ⟨gb182, 0, none⟩) (Kd.N_mono HO181.out (fun k_ hk => (⟨hk, hk.2⟩ : _ ∧ k_ ≠ gb182))) (fun _ hk => hk.2) (.int .i64 t176)) (fun _ hk => hk.2) (.string t177)) (fun _ hk => hk.2) (.string t178)) (fun _ hk => hk.2) (.slice Ao25 t179.length co25)) (fun _ h_ => h_.1)))) k_ hk_.2.1), (Kd.freshB (g := gb182) (o := .cells #[.int .i64 t176, .string t177, .string t178, .slice Ao25 t179.length co25] 24 (0, 0)) (by (with_reducible repeat (first | refine blk_drewN ?_ _ | refine blk_drew ?_ | refine blk_alloc ?_ _)); refine blk_put (cs := #[.int .i64 t176, .string t177, .string t178, .slice none 0 0]) ?_ 3 _ rfl; (with_reducible repeat (first | refine blk_drewN ?_ _ | refine blk_drew ?_ | refine blk_alloc ?_ _)); refine blk_put (cs := #[.int .i64 t176, .string t177, .string (⟨#[]⟩ : ByteArray), .slice none 0 0]) ?_ 2 _ rfl; (with_reducible repeat (first | refine blk_drewN ?_ _ | refine blk_drew ?_ | refine blk_alloc ?_ _)); refine blk_put (cs := #[.int .i64 t176, .string (⟨#[]⟩ : ByteArray), .string (⟨#[]⟩ : ByteArray), .slice none 0 0]) ?_ 1 _ rfl; (with_reducible repeat (first | refine blk_drewN ?_ _ | refine blk_drew ?_ | refine blk_alloc ?_ _)); refine blk_put (cs := #[.int .i64 0, .string (⟨#[]⟩ : ByteArray), .string (⟨#[]⟩ : ByteArray), .slice none 0 0]) ?_ 0 _ rfl; (with_reducible repeat (first | refine blk_drewN ?_ _ | refine blk_drew ?_ | refine blk_alloc ?_ _)); exact BK182.out) k_ hk_.2.1)⟩)) (below_size (by repeat (first | (with_reducible first | exact HB.out | apply below_alloc | apply pw_below_drewN | apply below_drew1 | refine below_set ?_ GE182.out) | exact HB.out)))); have n7_ := Aside0.mk (blk_below (g := gb182) (o := .cells #[.int .i64 t176, .string t177, .string t178, .slice Ao25 t179.length co25] 24 (0, 0)) (by (with_reducible repeat (first | refine blk_drewN ?_ _ | refine blk_drew ?_ | refine blk_alloc ?_ _)); refine blk_put (cs := #[.int .i64 t176, .string t177, .string t178, .slice none 0 0]) ?_ 3 _ rfl; (with_reducible repeat (first | refine blk_drewN ?_ _ | refine blk_drew ?_ | refine blk_alloc ?_ _)); refine blk_put (cs := #[.int .i64 t176, .string t177, .string (⟨#[]⟩ : ByteArray), .slice none 0 0]) ?_ 2 _ rfl; (with_reducible repeat (first | refine blk_drewN ?_ _ | refine blk_drew ?_ | refine blk_alloc ?_ _)); refine blk_put (cs := #[.int .i64 t176, .string (⟨#[]⟩ : ByteArray), .string (⟨#[]⟩ : ByteArray), .slice none 0 0]) ?_ 1 _ rfl; (with_reducible repeat (first | refine blk_drewN ?_ _ | refine blk_drew ?_ | refine blk_alloc ?_ _)); refine blk_put (cs := #[.int .i64 0, .string (⟨#[]⟩ : ByteArray), .string (⟨#[]⟩ : ByteArray), .slice none 0 0]) ?_ 0 _ rfl; (with_reducible repeat (first | refine blk_drewN ?_ _ | refine blk_drew ?_ | refine blk_alloc ?_ _)); exact BK182.out) hb); have n8_ := Aside0.mk (below_step (by repeat (first | (with_reducible first | exact HB.out | apply below_alloc | apply pw_below_drewN | apply below_drew1 | refine below_set ?_ GE182.out) | exact HB.out)) hb); clear HO169; clear HO175; clear HO181; clear BK182; clear HB; have HO169 := n0_; have HO175 := n1_; have HO181 := n2_; have HO185 := n3_; have HO188 := n4_; have HO191 := n5_; have HO194 := n6_; have BK182 := n7_; have HB := n8_; clear n0_ n1_ n2_ n3_ n4_ n5_ n6_ n7_ n8_; (try clear hb); (try clear hb2); (try clear hk); (try clear hi); (try clear ho0); (try clear ho1); (try clear ho2); (try clear ho3)) | ((with_reducible refine gate_dst (N := 2) rfl ?_); (try (refine gate_guard (by rfl) ?_; dsimp only)); refine box_event ?hg (N := 2) ?hd (cs := #[.slice none 0 0, .slice none 0 0, .slice none 0 0, .slice none 0 0]) (t := 30) ?hr ?_; (case hd => rfl); (case hg => rfl); (case hr => first | (go_simp; done) | (go_simp; rfl)); intro gb195 hg w27 hbox hb; have n0_ := Aside0.mk (Kd.N_below (Kd.N_elderB (by (with_reducible repeat (first | apply Kd.N_alloc | apply Kd.N_drewN | apply Kd.N_drew)); exact HO169.out) gb195 (Nat.le_of_eq hg.symm)) hb); have n1_ := Aside0.mk (Kd.N_below (Kd.N_elderB (by (with_reducible repeat (first | apply Kd.N_alloc | apply Kd.N_drewN | apply Kd.N_drew)); exact HO175.out) gb195 (Nat.le_of_eq hg.symm)) hb); have n2_ := Aside0.mk (Kd.N_below (Kd.N_elderB (by (with_reducible repeat (first | apply Kd.N_alloc | apply Kd.N_drewN | apply Kd.N_drew)); exact HO181.out) gb195 (Nat.le_of_eq hg.symm)) hb); have n3_ := Aside0.mk (Kd.N_below (Kd.N_elderB (by (with_reducible repeat (first | apply Kd.N_alloc | apply Kd.N_drewN | apply Kd.N_drew)); exact HO185.out) gb195 (Nat.le_of_eq hg.symm)) hb); have n4_ := Aside0.mk (Kd.R_below (by (with_reducible repeat (first | apply Kd.R_alloc | apply Kd.R_drewN | apply Kd.R_drew)); exact HO188.out) hb); have n5_ := Aside0.mk (Kd.R_below (by (with_reducible repeat (first | apply Kd.R_alloc | apply Kd.R_drewN | apply Kd.R_drew)); exact HO191.out) hb); have n6_ := Aside0.mk (Kd.N_below (Kd.N_elderB (by (with_reducible repeat (first | apply Kd.N_alloc | apply Kd.N_drewN | apply Kd.N_drew)); exact HO194.out) gb195 (Nat.le_of_eq hg.symm)) hb); have n7_ := Aside0.mk (blk_below (g := gb182) (o := .cells #[.int .i64 t176, .string t177, .string t178, .slice Ao25 t179.length co25] 24 (0, 0)) (by (with_reducible repeat (first | refine blk_drewN ?_ _ | refine blk_drew ?_ | refine blk_alloc ?_ _)); exact BK182.out) hb); have n8_ := Aside0.mk (below_step (by repeat (first | (with_reducible first | exact HB.out | apply below_alloc | apply pw_below_drewN | apply below_drew1 | refine below_set ?_ GE182.out) | exact HB.out)) hb); have n9_ := Aside0.mk (hbox); have n10_ := Aside0.mk ((by rw [hg]; exact (below_size (by repeat (first | (with_reducible first | exact HB.out | apply below_alloc | apply pw_below_drewN | apply below_drew1 | refine below_set ?_ GE182.out) | exact HB.out))) : w.heap.size ≤ gb195)); have n11_ := Aside0.mk ((by rw [hg]; exact (below_size (by repeat (first | (with_reducible first | exact HB.out | apply below_alloc | apply pw_below_drewN | apply below_drew1 | refine below_set ?_ GE182.out) | exact HB.out))) : w.heap.size ≤ gb195)); have n12_ := Aside0.mk ((by rw [hg]; exact Nat.ne_of_lt (blk_lt (g := gb182) (o := .cells #[.int .i64 t176, .string t177, .string t178, .slice Ao25 t179.length co25] 24 (0, 0)) (by (with_reducible repeat (first | refine blk_drewN ?_ _ | refine blk_drew ?_ | refine blk_alloc ?_ _)); exact BK182.out)) : gb182 ≠ gb195)); have n13_ := Aside0.mk ((by rw [hg]; exact Nat.ne_of_gt (blk_lt (g := gb182) (o := .cells #[.int .i64 t176, .string t177, .string t178, .slice Ao25 t179.length co25] 24 (0, 0)) (by (with_reducible repeat (first | refine blk_drewN ?_ _ | refine blk_drew ?_ | refine blk_alloc ?_ _)); exact BK182.out)) : gb195 ≠ gb182)); clear HO169; clear HO175; clear HO181; clear HO185; clear HO188; clear HO191; clear HO194; clear BK182; clear HB; have HO169 := n0_; have HO175 := n1_; have HO181 := n2_; have HO185 := n3_; have HO188 := n4_; have HO191 := n5_; have HO194 := n6_; have BK182 := n7_; have HB := n8_; have BK195 := n9_; have GW195 := n10_; have GE195 := n11_; have NB182_195 := n12_; have NB195_182 := n13_; clear n0_ n1_ n2_ n3_ n4_ n5_ n6_ n7_ n8_ n9_ n10_ n11_ n12_ n13_; clear hb hbox hg; obtain ⟨Ao28, co28, eo28⟩ := Kd.N_slice HO185.out; subst eo28; have hnb29 := NB195_182.out; have hnc29 := NB182_195.out; have hcz30_0 : w27.cell? ⟨gb195, 0, none⟩ = some (.slice none 0 0) := (blk_cell BK195.out 0).trans rfl; have hcz30_1 : w27.cell? ⟨gb195, 1, none⟩ = some (.slice none 0 0) := (blk_cell BK195.out 1).trans rfl; have hcz30_2 : w27.cell? ⟨gb195, 2, none⟩ = some (.slice none 0 0) := (blk_cell BK195.out 2).trans rfl; have hcz30_3 : w27.cell? ⟨gb195, 3, none⟩ = some (.slice none 0 0) := (blk_cell BK195.out 3).trans rfl; have hfz30_0 := blk_frozen BK195.out 0; have hfz30_1 := blk_frozen BK195.out 1; have hfz30_2 := blk_frozen BK195.out 2; have hfz30_3 := blk_frozen BK195.out 3; obtain ⟨Ao31, co31, eo31⟩ := Kd.R_slice HO188.out; subst eo31; obtain ⟨Ao32, co32, eo32⟩ := Kd.R_slice HO191.out; subst eo32; obtain ⟨Ao33, co33, eo33⟩ := Kd.N_slice HO194.out; subst eo33) | ((with_reducible refine gate_store (t := 30) (p := 2) rfl ?_); refine store_event (t := 30) (p := 2) (v := ?vo_w34) (w1 := ((((w27.setCell ⟨gb195, 0, none⟩ (.slice Ao28 t183.length co28)).setCell ⟨gb195, 1, none⟩ (.slice Ao31 t186.length co31)).setCell ⟨gb195, 2, none⟩ (.slice Ao32 t189.length co32)).setCell ⟨gb195, 3, none⟩ (.slice Ao33 t192.length co33))) ?hg ?ho ?hn ?hr ?_; (case ho => rfl); (case hg => rfl); (case hn => rfl); (case hr => first | (go_simp; done) | (go_simp; rfl)); intro w34 hw; have n0_ : Aside0 (Kd.N k24 24 w34 w.heap.size (fun k_ => some k_ ≠ (.slice Ao21 t173.length co21 : Value).ownBlock ∧ some k_ ≠ (.slice Ao25 t179.length co25 : Value).ownBlock ∧ some k_ ≠ (.slice Ao28 t183.length co28 : Value).ownBlock ∧ some k_ ≠ (.slice Ao31 t186.length co31 : Value).ownBlock ∧ some k_ ≠ (.slice Ao32 t189.length co32 : Value).ownBlock ∧ some k_ ≠ (.slice Ao33 t192.length co33 : Value).ownBlock ∧ k_ ≠ gb182 ∧ k_ ≠ gb195) (.slice Ao20 t167.length co20) t167) := ⟨(by rw [hw]; exact (by (with_reducible repeat (first | apply Kd.N_alloc | apply Kd.N_drewN | apply Kd.N_drew)); exact Kd.N_mono (Kd.N_far (p := ⟨gb195, 3, none⟩) (Kd.N_far (p := ⟨gb195, 2, none⟩) (Kd.N_far (p := ⟨gb195, 1, none⟩) (Kd.N_far (p := ⟨gb195, 0, none⟩) (Kd.N_mono HO169.out (fun k_ hk => (⟨hk, hk.2⟩ : _ ∧ k_ ≠ gb195))) (fun _ hk => hk.2) (.slice Ao28 t183.length co28)) (fun _ hk => hk.2) (.slice Ao31 t186.length co31)) (fun _ hk => hk.2) (.slice Ao32 t189.length co32)) (fun _ hk => hk.2) (.slice Ao33 t192.length co33)) (fun _ hk => ⟨hk.1.1.1.1.1.1.1.1.2, ⟨hk.1.1.1.1.1.1.1.2, ⟨hk.1.1.1.1.1.2, ⟨hk.1.1.1.1.2, ⟨hk.1.1.1.2, ⟨hk.1.1.2, ⟨hk.1.1.1.1.1.1.2, hk.1.2⟩⟩⟩⟩⟩⟩⟩)))⟩; have n1_ : Aside0 (Kd.N k24 24 w34 w.heap.size (fun k_ => some k_ ≠ (.slice Ao20 t167.length co20 : Value).ownBlock ∧ some k_ ≠ (.slice Ao25 t179.length co25 : Value).ownBlock ∧ some k_ ≠ (.slice Ao28 t183.length co28 : Value).ownBlock ∧ some k_ ≠ (.slice Ao31 t186.length co31 : Value).ownBlock ∧ some k_ ≠ (.slice Ao32 t189.length co32 : Value).ownBlock ∧ some k_ ≠ (.slice Ao33 t192.length co33 : Value).ownBlock ∧ k_ ≠ gb182 ∧ k_ ≠ gb195) (.slice Ao21 t173.length co21) t173) := ⟨(by rw [hw]; exact (by (with_reducible repeat (first | apply Kd.N_alloc | apply Kd.N_drewN | apply Kd.N_drew)); exact Kd.N_mono (Kd.N_far (p := ⟨gb195, 3, none⟩) (Kd.N_far (p := ⟨gb195, 2, none⟩) (Kd.N_far (p := ⟨gb195, 1, none⟩) (Kd.N_far (p := ⟨gb195, 0, none⟩) (Kd.N_mono HO175.out (fun k_ hk => (⟨hk, hk.2⟩ : _ ∧ k_ ≠ gb195))) (fun _ hk => hk.2) (.slice Ao28 t183.length co28)) (fun _ hk => hk.2) (.slice Ao31 t186.length co31)) (fun _ hk => hk.2) (.slice Ao32 t189.length co32)) (fun _ hk => hk.2) (.slice Ao33 t192.length co33)) (fun _ hk => ⟨hk.1.1.1.1.1.1.1.1, ⟨hk.1.1.1.1.1.1.1.2, ⟨hk.1.1.1.1.1.2, ⟨hk.1.1.1.1.2, ⟨hk.1.1.1.2, ⟨hk.1.1.2, ⟨hk.1.1.1.1.1.1.2, hk.1.2⟩⟩⟩⟩⟩⟩⟩)))⟩; have n2_ : Aside0 (Kd.N k24 24 w34 w.heap.size (fun k_ => some k_ ≠ (.slice Ao28 t183.length co28 : Value).ownBlock ∧ some k_ ≠ (.slice Ao31 t186.length co31 : Value).ownBlock ∧ some k_ ≠ (.slice Ao32 t189.length co32 : Value).ownBlock ∧ some k_ ≠ (.slice Ao33 t192.length co33 : Value).ownBlock ∧ k_ ≠ gb182 ∧ k_ ≠ gb195) (.slice Ao25 t179.length co25) t179) := ⟨(by rw [hw]; exact (by (with_reducible repeat (first | apply Kd.N_alloc | apply Kd.N_drewN | apply Kd.N_drew)); exact Kd.N_mono (Kd.N_far (p := ⟨gb195, 3, none⟩) (Kd.N_far (p := ⟨gb195, 2, none⟩) (Kd.N_far (p := ⟨gb195, 1, none⟩) (Kd.N_far (p := ⟨gb195, 0, none⟩) (Kd.N_mono HO181.out (fun k_ hk => (⟨hk, hk.2⟩ : _ ∧ k_ ≠ gb195))) (fun _ hk => hk.2) (.slice Ao28 t183.length co28)) (fun _ hk => hk.2) (.slice Ao31 t186.length co31)) (fun _ hk => hk.2) (.slice Ao32 t189.length co32)) (fun _ hk => hk.2) (.slice Ao33 t192.length co33)) (fun _ hk => ⟨hk.1.1.1.1.1.2, ⟨hk.1.1.1.1.2, ⟨hk.1.1.1.2, ⟨hk.1.1.2, ⟨hk.1.1.1.1.1.1.2, hk.1.2⟩⟩⟩⟩⟩)))⟩; have n3_ : Aside0 (Kd.N k24 24 w34 w.heap.size (fun k_ => some k_ ≠ (.slice Ao20 t167.length co20 : Value).ownBlock ∧ some k_ ≠ (.slice Ao21 t173.length co21 : Value).ownBlock ∧ some k_ ≠ (.slice Ao25 t179.length co25 : Value).ownBlock ∧ some k_ ≠ (.slice Ao31 t186.length co31 : Value).ownBlock ∧ some k_ ≠ (.slice Ao32 t189.length co32 : Value).ownBlock ∧ some k_ ≠ (.slice Ao33 t192.length co33 : Value).ownBlock ∧ k_ ≠ gb182 ∧ k_ ≠ gb195) (.slice Ao28 t183.length co28) t183) := ⟨(by rw [hw]; exact (by (with_reducible repeat (first | apply Kd.N_alloc | apply Kd.N_drewN | apply Kd.N_drew)); exact Kd.N_mono (Kd.N_far (p := ⟨gb195, 3, none⟩) (Kd.N_far (p := ⟨gb195, 2, none⟩) (Kd.N_far (p := ⟨gb195, 1, none⟩) (Kd.N_far (p := ⟨gb195, 0, none⟩) (Kd.N_mono HO185.out (fun k_ hk => (⟨hk, hk.2⟩ : _ ∧ k_ ≠ gb195))) (fun _ hk => hk.2) (.slice Ao28 t183.length co28)) (fun _ hk => hk.2) (.slice Ao31 t186.length co31)) (fun _ hk => hk.2) (.slice Ao32 t189.length co32)) (fun _ hk => hk.2) (.slice Ao33 t192.length co33)) (fun _ hk => ⟨hk.1.1.2.2.2.1, ⟨hk.1.1.2.2.2.2.1, ⟨hk.1.1.2.2.2.2.2.1, ⟨hk.1.1.1, ⟨hk.1.1.2.1, ⟨hk.1.1.2.2.1, ⟨hk.1.1.2.2.2.2.2.2, hk.1.2⟩⟩⟩⟩⟩⟩⟩)))⟩; have n4_ : Aside0 (Kd.R (Kd.int .i64) 3 w34 w.heap.size (fun k_ => some k_ ≠ (.slice Ao32 t189.length co32 : Value).ownBlock) (.slice Ao31 t186.length co31) t186) := ⟨(by rw [hw]; exact (by (with_reducible repeat (first | apply Kd.R_alloc | apply Kd.R_drewN | apply Kd.R_drew)); exact Kd.R_mono (Kd.R_far (p := ⟨gb195, 3, none⟩) (Kd.R_far (p := ⟨gb195, 2, none⟩) (Kd.R_far (p := ⟨gb195, 1, none⟩) (Kd.R_far (p := ⟨gb195, 0, none⟩) (Kd.R_types HO188.out BK195.out (by decide)) (fun _ hk => hk.2) (.slice Ao28 t183.length co28)) (fun _ hk => hk.2) (.slice Ao31 t186.length co31)) (fun _ hk => hk.2) (.slice Ao32 t189.length co32)) (fun _ hk => hk.2) (.slice Ao33 t192.length co33)) (fun _ hk => hk.1)))⟩; have n5_ : Aside0 (Kd.R (Kd.int .i64) 3 w34 w.heap.size (fun k_ => some k_ ≠ (.slice Ao31 t186.length co31 : Value).ownBlock) (.slice Ao32 t189.length co32) t189) := ⟨(by rw [hw]; exact (by (with_reducible repeat (first | apply Kd.R_alloc | apply Kd.R_drewN | apply Kd.R_drew)); exact Kd.R_mono (Kd.R_far (p := ⟨gb195, 3, none⟩) (Kd.R_far (p := ⟨gb195, 2, none⟩) (Kd.R_far (p := ⟨gb195, 1, none⟩) (Kd.R_far (p := ⟨gb195, 0, none⟩) (Kd.R_types HO191.out BK195.out (by decide)) (fun _ hk => hk.2) (.slice Ao28 t183.length co28)) (fun _ hk => hk.2) (.slice Ao31 t186.length co31)) (fun _ hk => hk.2) (.slice Ao32 t189.length co32)) (fun _ hk => hk.2) (.slice Ao33 t192.length co33)) (fun _ hk => hk.1)))⟩; have n6_ : Aside0 (Kd.N (Kd.slice 3 (Kd.int .i64)) 27 w34 w.heap.size (fun k_ => some k_ ≠ (.slice Ao20 t167.length co20 : Value).ownBlock ∧ some k_ ≠ (.slice Ao21 t173.length co21 : Value).ownBlock ∧ some k_ ≠ (.slice Ao25 t179.length co25 : Value).ownBlock ∧ some k_ ≠ (.slice Ao28 t183.length co28 : Value).ownBlock ∧ some k_ ≠ (.slice Ao31 t186.length co31 : Value).ownBlock ∧ some k_ ≠ (.slice Ao32 t189.length co32 : Value).ownBlock ∧ k_ ≠ gb182 ∧ k_ ≠ gb195) (.slice Ao33 t192.length co33) t192) := ⟨(by rw [hw]; exact (by (with_reducible repeat (first | apply Kd.N_alloc | apply Kd.N_drewN | apply Kd.N_drew)); exact Kd.N_mono (Kd.N_far (p := ⟨gb195, 3, none⟩) (Kd.N_far (p := ⟨gb195, 2, none⟩) (Kd.N_far (p := ⟨gb195, 1, none⟩) (Kd.N_far (p := ⟨gb195, 0, none⟩) (Kd.N_mono HO194.out (fun k_ hk => (⟨hk, hk.2⟩ : _ ∧ k_ ≠ gb195))) (fun _ hk => hk.2) (.slice Ao28 t183.length co28)) (fun _ hk => hk.2) (.slice Ao31 t186.length co31)) (fun _ hk => hk.2) (.slice Ao32 t189.length co32)) (fun _ hk => hk.2) (.slice Ao33 t192.length co33)) (fun _ hk => ⟨hk.1.1.2.2.2.1, ⟨hk.1.1.2.2.2.2.1, ⟨hk.1.1.2.2.2.2.2.1, ⟨hk.1.1.1, ⟨hk.1.1.2.1, ⟨hk.1.1.2.2.1, ⟨hk.1.1.2.2.2.2.2.2, hk.1.2⟩⟩⟩⟩⟩⟩⟩)))⟩; have n7_ : Aside0 (w34.heap[gb182]? = some (.cells #[.int .i64 t176, .string t177, .string t178, .slice Ao25 t179.length co25] 24 (0, 0))) := ⟨(by rw [hw]; exact (by (with_reducible repeat (first | refine blk_drewN ?_ _ | refine blk_drew ?_ | refine blk_alloc ?_ _)); refine blk_far ?_ NB182_195.out _; (with_reducible repeat (first | refine blk_drewN ?_ _ | refine blk_drew ?_ | refine blk_alloc ?_ _)); refine blk_far ?_ NB182_195.out _; (with_reducible repeat (first | refine blk_drewN ?_ _ | refine blk_drew ?_ | refine blk_alloc ?_ _)); refine blk_far ?_ NB182_195.out _; (with_reducible repeat (first | refine blk_drewN ?_ _ | refine blk_drew ?_ | refine blk_alloc ?_ _)); refine blk_far ?_ NB182_195.out _; (with_reducible repeat (first | refine blk_drewN ?_ _ | refine blk_drew ?_ | refine blk_alloc ?_ _)); exact BK182.out))⟩; have n8_ : Aside0 (w34.heap[gb195]? = some (.cells #[.slice Ao28 t183.length co28, .slice Ao31 t186.length co31, .slice Ao32 t189.length co32, .slice Ao33 t192.length co33] 30 (0, 0))) := ⟨(by rw [hw]; exact (by (with_reducible repeat (first | refine blk_drewN ?_ _ | refine blk_drew ?_ | refine blk_alloc ?_ _)); refine blk_put (cs := #[.slice Ao28 t183.length co28, .slice Ao31 t186.length co31, .slice Ao32 t189.length co32, .slice none 0 0]) ?_ 3 _ rfl; (with_reducible repeat (first | refine blk_drewN ?_ _ | refine blk_drew ?_ | refine blk_alloc ?_ _)); refine blk_put (cs := #[.slice Ao28 t183.length co28, .slice Ao31 t186.length co31, .slice none 0 0, .slice none 0 0]) ?_ 2 _ rfl; (with_reducible repeat (first | refine blk_drewN ?_ _ | refine blk_drew ?_ | refine blk_alloc ?_ _)); refine blk_put (cs := #[.slice Ao28 t183.length co28, .slice none 0 0, .slice none 0 0, .slice none 0 0]) ?_ 1 _ rfl; (with_reducible repeat (first | refine blk_drewN ?_ _ | refine blk_drew ?_ | refine blk_alloc ?_ _)); refine blk_put (cs := #[.slice none 0 0, .slice none 0 0, .slice none 0 0, .slice none 0 0]) ?_ 0 _ rfl; (with_reducible repeat (first | refine blk_drewN ?_ _ | refine blk_drew ?_ | refine blk_alloc ?_ _)); exact BK195.out))⟩; have n9_ : Aside0 (Below w.heap.size w w34) := ⟨(by rw [hw]; exact (by repeat (first | (with_reducible first | exact HB.out | apply below_alloc | apply pw_below_drewN | apply below_drew1 | refine below_set ?_ GE182.out | refine below_set ?_ GE195.out) | exact HB.out)))⟩; clear hw; clear HO169; clear HO175; clear HO181; clear HO185; clear HO188; clear HO191; clear HO194; clear BK182; clear BK195; clear HB; have HO169 := n0_; have HO175 := n1_; have HO181 := n2_; have HO185 := n3_; have HO188 := n4_; have HO191 := n5_; have HO194 := n6_; have BK182 := n7_; have BK195 := n8_; have HB := n9_; clear n0_ n1_ n2_ n3_ n4_ n5_ n6_ n7_ n8_ n9_; have hcz35_0 : w34.cell? ⟨gb182, 0, none⟩ = some (.int .i64 t176) := (blk_cell BK182.out 0).trans rfl; have hcz35_1 : w34.cell? ⟨gb182, 1, none⟩ = some (.string t177) := (blk_cell BK182.out 1).trans rfl; have hcz35_2 : w34.cell? ⟨gb182, 2, none⟩ = some (.string t178) := (blk_cell BK182.out 2).trans rfl; have hcz35_3 : w34.cell? ⟨gb182, 3, none⟩ = some (.slice Ao25 t179.length co25) := (blk_cell BK182.out 3).trans rfl; have hfz35_0 := blk_frozen BK182.out 0; have hfz35_1 := blk_frozen BK182.out 1; have hfz35_2 := blk_frozen BK182.out 2; have hfz35_3 := blk_frozen BK182.out 3) | ((with_reducible refine gate_dst (N := 10) rfl ?_); (try (refine gate_guard (by rfl) ?_; dsimp only)); refine Kd.N_lit k24 _ 24 ?hg (N' := 10) ?hd (xs := ([(⟨t176, t177, t178, t179⟩ : S24)] : List (S24))) (inner := [.int .i64 t176, .string t177, .string t178, .slice Ao25 t179.length co25]) (ok := (fun k_ => some k_ ≠ (.slice Ao28 t183.length co28 : Value).ownBlock ∧ some k_ ≠ (.slice Ao31 t186.length co31 : Value).ownBlock ∧ some k_ ≠ (.slice Ao32 t189.length co32 : Value).ownBlock ∧ some k_ ≠ (.slice Ao33 t192.length co33 : Value).ownBlock ∧ k_ ≠ gb182 ∧ k_ ≠ gb195)) (okp := (fun k_ => some k_ ≠ (.slice Ao28 t183.length co28 : Value).ownBlock ∧ some k_ ≠ (.slice Ao31 t186.length co31 : Value).ownBlock ∧ some k_ ≠ (.slice Ao32 t189.length co32 : Value).ownBlock ∧ some k_ ≠ (.slice Ao33 t192.length co33 : Value).ownBlock ∧ k_ ≠ gb182 ∧ k_ ≠ gb195)) ?hr ?hp (fun _ hk => hk) ((show ∀ k_, w34.heap.size ≤ k_ → (fun k_ => some k_ ≠ (.slice Ao28 t183.length co28 : Value).ownBlock ∧ some k_ ≠ (.slice Ao31 t186.length co31 : Value).ownBlock ∧ some k_ ≠ (.slice Ao32 t189.length co32 : Value).ownBlock ∧ some k_ ≠ (.slice Ao33 t192.length co33 : Value).ownBlock ∧ k_ ≠ gb182 ∧ k_ ≠ gb195) k_ from fun k_ hk => ⟨Kd.fresh' (Kd.N_lt (by (with_reducible repeat (first | apply Kd.N_alloc | apply Kd.N_drewN | apply Kd.N_drew)); exact HO185.out)) k_ hk, Kd.fresh' (Kd.R_lt (by (with_reducible repeat (first | apply Kd.R_alloc | apply Kd.R_drewN | apply Kd.R_drew)); exact HO188.out)) k_ hk, Kd.fresh' (Kd.R_lt (by (with_reducible repeat (first | apply Kd.R_alloc | apply Kd.R_drewN | apply Kd.R_drew)); exact HO191.out)) k_ hk, Kd.fresh' (Kd.N_lt (by (with_reducible repeat (first | apply Kd.N_alloc | apply Kd.N_drewN | apply Kd.N_drew)); exact HO194.out)) k_ hk, Kd.freshB (g := gb182) (o := .cells #[.int .i64 t176, .string t177, .string t178, .slice Ao25 t179.length co25] 24 (0, 0)) (by (with_reducible repeat (first | refine blk_drewN ?_ _ | refine blk_drew ?_ | refine blk_alloc ?_ _)); exact BK182.out) k_ hk, Kd.freshB (g := gb195) (o := .cells #[.slice Ao28 t183.length co28, .slice Ao31 t186.length co31, .slice Ao32 t189.length co32, .slice Ao33 t192.length co33] 30 (0, 0)) (by (with_reducible repeat (first | refine blk_drewN ?_ _ | refine blk_drew ?_ | refine blk_alloc ?_ _)); exact BK195.out) k_ hk⟩) _ (Nat.le_refl _)) (Below.refl _ _) (Nat.le_refl _) (by simp) ?_; (case hd => rfl); (case hg => rfl); (case hr => first | (go_simp; done) | (go_simp; rfl)); (case hp => exact (Reps.c4 (show Kd.FK k24 _ _ (⟨t176, t177, t178, t179⟩ : S24) [.int .i64 t176, .string t177, .string t178, .slice Ao25 t179.length co25] from (k24_mkF _ _ (⟨t176, t177, t178, t179⟩ : S24) (Kd.N_reads' (Kd.N_mono (ok' := (fun k_ => some k_ ≠ (.slice Ao28 t183.length co28 : Value).ownBlock ∧ some k_ ≠ (.slice Ao31 t186.length co31 : Value).ownBlock ∧ some k_ ≠ (.slice Ao32 t189.length co32 : Value).ownBlock ∧ some k_ ≠ (.slice Ao33 t192.length co33 : Value).ownBlock ∧ k_ ≠ gb182 ∧ k_ ≠ gb195)) (HO181.out) (fun k_ hk => ⟨hk.1, ⟨hk.2.1, ⟨hk.2.2.1, ⟨hk.2.2.2.1, ⟨hk.2.2.2.2.1, hk.2.2.2.2.2⟩⟩⟩⟩⟩))).2.1 (Kd.N_F (Kd.N_mono (ok' := (fun k_ => some k_ ≠ (.slice Ao28 t183.length co28 : Value).ownBlock ∧ some k_ ≠ (.slice Ao31 t186.length co31 : Value).ownBlock ∧ some k_ ≠ (.slice Ao32 t189.length co32 : Value).ownBlock ∧ some k_ ≠ (.slice Ao33 t192.length co33 : Value).ownBlock ∧ k_ ≠ gb182 ∧ k_ ≠ gb195)) (HO181.out) (fun k_ hk => ⟨hk.1, ⟨hk.2.1, ⟨hk.2.2.1, ⟨hk.2.2.2.1, ⟨hk.2.2.2.2.1, hk.2.2.2.2.2⟩⟩⟩⟩⟩))))) (Reps.none _ _))); intro v197 w36 ho37 hb hg_ hnew_; clear hg_ hnew_; (first | rw [← Ny196.out] at ho37 | (simp only [Int.reduceToNat] at ho37; rw [← Ny196.out] at ho37)); have n0_ := Aside0.mk (Kd.N_elder' (by (with_reducible repeat (first | apply Kd.N_alloc | apply Kd.N_drewN | apply Kd.N_drew)); exact HO169.out) (Kd.N_base ho37) hb); have n1_ := Aside0.mk (Kd.N_elder' (by (with_reducible repeat (first | apply Kd.N_alloc | apply Kd.N_drewN | apply Kd.N_drew)); exact HO175.out) (Kd.N_base ho37) hb); have n2_ := Aside0.mk (Kd.N_elder' (by (with_reducible repeat (first | apply Kd.N_alloc | apply Kd.N_drewN | apply Kd.N_drew)); exact HO181.out) (Kd.N_base ho37) hb); have n3_ := Aside0.mk (Kd.N_elder' (by (with_reducible repeat (first | apply Kd.N_alloc | apply Kd.N_drewN | apply Kd.N_drew)); exact HO185.out) (Kd.N_base ho37) hb); have n4_ := Aside0.mk (Kd.R_below (by (with_reducible repeat (first | apply Kd.R_alloc | apply Kd.R_drewN | apply Kd.R_drew)); exact HO188.out) hb); have n5_ := Aside0.mk (Kd.R_below (by (with_reducible repeat (first | apply Kd.R_alloc | apply Kd.R_drewN | apply Kd.R_drew)); exact HO191.out) hb); have n6_ := Aside0.mk (Kd.N_elder' (by (with_reducible repeat (first | apply Kd.N_alloc | apply Kd.N_drewN | apply Kd.N_drew)); exact HO194.out) (Kd.N_base ho37) hb); have n7_ := Aside0.mk (Kd.N_lower ho37 (below_size (by repeat (first | (with_reducible first | exact HB.out | apply below_alloc | apply pw_below_drewN | apply below_drew1 | refine below_set ?_ GE182.out | refine below_set ?_ GE195.out) | exact HB.out)))); have n8_ := Aside0.mk (blk_below (g := gb182) (o := .cells #[.int .i64 t176, .string t177, .string t178, .slice Ao25 t179.length co25] 24 (0, 0)) (by (with_reducible repeat (first | refine blk_drewN ?_ _ | refine blk_drew ?_ | refine blk_alloc ?_ _)); exact BK182.out) hb); have n9_ := Aside0.mk (blk_below (g := gb195) (o := .cells #[.slice Ao28 t183.length co28, .slice Ao31 t186.length co31, .slice Ao32 t189.length co32, .slice Ao33 t192.length co33] 30 (0, 0)) (by (with_reducible repeat (first | refine blk_drewN ?_ _ | refine blk_drew ?_ | refine blk_alloc ?_ _)); exact BK195.out) hb); have n10_ := Aside0.mk (below_step (by repeat (first | (with_reducible first | exact HB.out | apply below_alloc | apply pw_below_drewN | apply below_drew1 | refine below_set ?_ GE182.out | refine below_set ?_ GE195.out) | exact HB.out)) hb); clear HO169; clear HO175; clear HO181; clear HO185; clear HO188; clear HO191; clear HO194; clear BK182; clear BK195; clear HB; have HO169 := n0_; have HO175 := n1_; have HO181 := n2_; have HO185 := n3_; have HO188 := n4_; have HO191 := n5_; have HO194 := n6_; have HO198 := n7_; have BK182 := n8_; have BK195 := n9_; have HB := n10_; clear n0_ n1_ n2_ n3_ n4_ n5_ n6_ n7_ n8_ n9_ n10_; clear hb ho37; have nv_ := Aside0.mk (Kd.N_V (base' := w.heap.size) HO181.out); clear HO181; have HO181 := nv_; clear nv_; obtain ⟨Ao38, co38, eo38⟩ := Kd.N_slice HO198.out; subst eo38) | ((with_reducible refine gate_callee (f := 15) rfl ?_); refine goesL_ (some 11) rfl rfl Tryd.func15 (by kernel_rfl) rfl #[.slice Ao38 y196.length co38] rfl (by (try simp only [List.map_toArray, List.map_cons, List.map_nil]); first | done | rfl | (simp only [List.length_drop, List.length_take]; rfl)) ?_; (with_reducible refine (shape_Marks.calls _ _ y196 t199 _ (tab_below HTAB.out (by repeat (first | (with_reducible first | exact HB.out | apply below_alloc | apply pw_below_drewN | apply below_drew1 | refine below_set ?_ GE182.out | refine below_set ?_ GE195.out) | exact HB.out))) ?side1 ?side2 A5.out).mono ?_); (case side1 => repeat (first | exact (Kd.N_reads' HO198.out).2.2 | exact (Kd.V_reads' HO198.out).2.2 | (with_reducible refine Kd.C_alloc ?_ _) | (with_reducible refine Kd.C_drewN ?_ _) | (with_reducible refine Kd.C_drew ?_))); (case side2 => first | exact (Kd.N_reads' HO198.out).2.1 | exact (Kd.V_reads' HO198.out).2.1); rintro e w39 ⟨v200, rfl, ho0, hb⟩; refine ⟨_, rfl, ?_⟩; have n0_ := Aside0.mk (Kd.N_elder' (by (with_reducible repeat (first | apply Kd.N_alloc | apply Kd.N_drewN | apply Kd.N_drew)); exact HO169.out) (Kd.S_base ho0) hb); have n1_ := Aside0.mk (Kd.N_elder' (by (with_reducible repeat (first | apply Kd.N_alloc | apply Kd.N_drewN | apply Kd.N_drew)); exact HO175.out) (Kd.S_base ho0) hb); have n2_ := Aside0.mk (Kd.V_elder' (by (with_reducible repeat (first | apply Kd.V_alloc | apply Kd.V_drewN | apply Kd.V_drew)); exact HO181.out) (Kd.S_base ho0) hb); have n3_ := Aside0.mk (Kd.N_elder' (by (with_reducible repeat (first | apply Kd.N_alloc | apply Kd.N_drewN | apply Kd.N_drew)); exact HO185.out) (Kd.S_base ho0) hb); have n4_ := Aside0.mk (Kd.R_below (by (with_reducible repeat (first | apply Kd.R_alloc | apply Kd.R_drewN | apply Kd.R_drew)); exact HO188.out) hb); have n5_ := Aside0.mk (Kd.R_below (by (with_reducible repeat (first | apply Kd.R_alloc | apply Kd.R_drewN | apply Kd.R_drew)); exact HO191.out) hb); have n6_ := Aside0.mk (Kd.N_elder' (by (with_reducible repeat (first | apply Kd.N_alloc | apply Kd.N_drewN | apply Kd.N_drew)); exact HO194.out) (Kd.S_base ho0) hb); have n7_ := Aside0.mk (Kd.N_elder' (by (with_reducible repeat (first | apply Kd.N_alloc | apply Kd.N_drewN | apply Kd.N_drew)); exact HO198.out) (Kd.S_base ho0) hb); have n8_ := Aside0.mk (Kd.N_lower (Kd.N_mono (ok' := fun k_ => some k_ ≠ (.slice Ao20 t167.length co20 : Value).ownBlock ∧ some k_ ≠ (.slice Ao21 t173.length co21 : Value).ownBlock ∧ some k_ ≠ (.slice Ao28 t183.length co28 : Value).ownBlock ∧ some k_ ≠ (.slice Ao31 t186.length co31 : Value).ownBlock ∧ some k_ ≠ (.slice Ao32 t189.length co32 : Value).ownBlock ∧ some k_ ≠ (.slice Ao33 t192.length co33 : Value).ownBlock ∧ some k_ ≠ (.slice Ao38 y196.length co38 : Value).ownBlock ∧ k_ ≠ gb182 ∧ k_ ≠ gb195) (Kd.S_N (Kd.S_bound ho0)) (fun k_ hk_ => ⟨(Kd.fresh' (Kd.N_lt (by (with_reducible repeat (first | apply Kd.N_alloc | apply Kd.N_drewN | apply Kd.N_drew)); exact HO169.out)) k_ hk_.2.1), (Kd.fresh' (Kd.N_lt (by (with_reducible repeat (first | apply Kd.N_alloc | apply Kd.N_drewN | apply Kd.N_drew)); exact HO175.out)) k_ hk_.2.1), (Kd.fresh' (Kd.N_lt (by (with_reducible repeat (first | apply Kd.N_alloc | apply Kd.N_drewN | apply Kd.N_drew)); exact HO185.out)) k_ hk_.2.1), (Kd.fresh' (Kd.R_lt (by (with_reducible repeat (first | apply Kd.R_alloc | apply Kd.R_drewN | apply Kd.R_drew)); exact HO188.out)) k_ hk_.2.1), (Kd.fresh' (Kd.R_lt (by (with_reducible repeat (first | apply Kd.R_alloc | apply Kd.R_drewN | apply Kd.R_drew)); exact HO191.out)) k_ hk_.2.1), (Kd.fresh' (Kd.N_lt (by (with_reducible repeat (first | apply Kd.N_alloc | apply Kd.N_drewN | apply Kd.N_drew)); exact HO194.out)) k_ hk_.2.1), (Kd.fresh' (Kd.N_lt (by (with_reducible repeat (first | apply Kd.N_alloc | apply Kd.N_drewN | apply Kd.N_drew)); exact HO198.out)) k_ hk_.2.1), (Kd.freshB (g := gb182) (o := .cells #[.int .i64 t176, .string t177, .string t178, .slice Ao25 t179.length co25] 24 (0, 0)) (by (with_reducible repeat (first | refine blk_drewN ?_ _ | refine blk_drew ?_ | refine blk_alloc ?_ _)); exact BK182.out) k_ hk_.2.1), (Kd.freshB (g := gb195) (o := .cells #[.slice Ao28 t183.length co28, .slice Ao31 t186.length co31, .slice Ao32 t189.length co32, .slice Ao33 t192.length co33] 30 (0, 0)) (by (with_reducible repeat (first | refine blk_drewN ?_ _ | refine blk_drew ?_ | refine blk_alloc ?_ _)); exact BK195.out) k_ hk_.2.1)⟩)) (below_size (by repeat (first | (with_reducible first | exact HB.out | apply below_alloc | apply pw_below_drewN | apply below_drew1 | refine below_set ?_ GE182.out | refine below_set ?_ GE195.out) | exact HB.out)))); have n9_ := Aside0.mk (blk_below (g := gb182) (o := .cells #[.int .i64 t176, .string t177, .string t178, .slice Ao25 t179.length co25] 24 (0, 0)) (by (with_reducible repeat (first | refine blk_drewN ?_ _ | refine blk_drew ?_ | refine blk_alloc ?_ _)); exact BK182.out) hb); have n10_ := Aside0.mk (blk_below (g := gb195) (o := .cells #[.slice Ao28 t183.length co28, .slice Ao31 t186.length co31, .slice Ao32 t189.length co32, .slice Ao33 t192.length co33] 30 (0, 0)) (by (with_reducible repeat (first | refine blk_drewN ?_ _ | refine blk_drew ?_ | refine blk_alloc ?_ _)); exact BK195.out) hb); have n11_ := Aside0.mk (below_step (by repeat (first | (with_reducible first | exact HB.out | apply below_alloc | apply pw_below_drewN | apply below_drew1 | refine below_set ?_ GE182.out | refine below_set ?_ GE195.out) | exact HB.out)) hb); clear HO169; clear HO175; clear HO181; clear HO185; clear HO188; clear HO191; clear HO194; clear HO198; clear BK182; clear BK195; clear HB; have HO169 := n0_; have HO175 := n1_; have HO181 := n2_; have HO185 := n3_; have HO188 := n4_; have HO191 := n5_; have HO194 := n6_; have HO198 := n7_; have HO201 := n8_; have BK182 := n9_; have BK195 := n10_; have HB := n11_; clear n0_ n1_ n2_ n3_ n4_ n5_ n6_ n7_ n8_ n9_ n10_ n11_; (try clear hb); (try clear hb2); (try clear hk); (try clear hi); (try clear ho0)))
        have n0_ := Aside0.mk (Kd.N_drew HO169.out)
        have n1_ := Aside0.mk (Kd.N_drew HO175.out)
        have n2_ := Aside0.mk (Kd.V_drew HO181.out)
        have n3_ := Aside0.mk (Kd.N_drew HO185.out)
        have n4_ := Aside0.mk (Kd.R_drew HO188.out)
        have n5_ := Aside0.mk (Kd.R_drew HO191.out)
        have n6_ := Aside0.mk (Kd.N_drew HO194.out)
        have n7_ := Aside0.mk (Kd.N_drew HO198.out)
        have n8_ := Aside0.mk (Kd.N_drew HO201.out)
        have n9_ := Aside0.mk (blk_drew BK182.out)
        have n10_ := Aside0.mk (blk_drew BK195.out)
        have n11_ := Aside0.mk (below_drew1 HB.out)
        clear HO169
        clear HO175
        clear HO181
        clear HO185
        clear HO188
        clear HO191
        clear HO194
        clear HO198
        clear HO201
        clear BK182
        clear BK195
        clear HB
        have HO169 := n0_
        have HO175 := n1_
        have HO181 := n2_
        have HO185 := n3_
        have HO188 := n4_
        have HO191 := n5_
        have HO194 := n6_
        have HO198 := n7_
        have HO201 := n8_
        have BK182 := n9_
        have BK195 := n10_
        have HB := n11_
        clear n0_ n1_ n2_ n3_ n4_ n5_ n6_ n7_ n8_ n9_ n10_ n11_
        obtain ⟨Ao41, co41, eo41⟩ := Kd.N_slice HO201.out
        (first | subst eo41 | (injection eo41 with f1_ f2_ f3_; have f4_ := f1_.symm; have f5_ := f3_.symm; clear f1_ f2_ f3_; subst f4_; subst f5_))
        have p210 : 0 ≤ (0 : Int) := (by omega)
        have q210 : 0 < (t199.length : Int) := of_decide_eq_true (by first | (with_reducible assumption) | assumption)
        obtain ⟨ad210, A210_0, c210_0, e210, hx210_0, hl210_0, hi210_0⟩ := at_L3 (Kd.N_reads' HO201.out).2.2 0 p210 q210
        cases e210
        obtain ⟨ce210, hce210, hMe210, hcc210⟩ := Kd.N_get HO201.out [] 0 p210 (by first | exact q210 | exact of_decide_eq_true (by first | (with_reducible assumption) | assumption) | (have e_ := (Kd.N_reads' HO201.out).1; omega))
        obtain ⟨ua210_0, uc210_0, rfl, ul210_0, ge210_0⟩ := Kd.FK_slice_open hMe210
        have hv210_0 := hcc210 0 _ rfl
        rw [Nat.add_zero, show ((Kd.slice 3 (Kd.int .i64))).sz = 1 from rfl, Nat.mul_one] at hv210_0
        replace hv210_0 := Option.some.inj (hv210_0.symm.trans hx210_0)
        injection hv210_0 with hva_ hvn_ hvc_
        rw [hva_] at ge210_0
        rw [hvc_] at ul210_0
        have HL210_0 := Aside0.mk (show Kd.V (Kd.int .i64) 3 _ w.heap.size _ _ (rd_L3 t199 0) from Kd.V_mk ul210_0 ge210_0)
        clear hva_ hvn_ hvc_ ge210_0 ul210_0
        clear hcc210 hce210
        have qi210 : (0 < t199.length) = True := eq_true (by omega)
        (try rw [show ((0 : Int)).toNat = 0 from rfl] at hx210_0)
        (try rw [Addr.add_zero'] at hx210_0)
        have HR210_0 := Aside0.mk hi210_0
        have HC210_0 := Aside0.mk hl210_0
        clear hi210_0 hl210_0
        replace p210 := eq_true p210
        replace q210 := eq_true q210
        refine start_ (n := 35) (S := fun w' => w'.cell? ⟨gb195, 0, none⟩ = some (.slice Ao28 t183.length co28) ∧ w'.cell? ⟨gb195, 1, none⟩ = some (.slice Ao31 t186.length co31) ∧ w'.cell? ⟨gb195, 2, none⟩ = some (.slice Ao32 t189.length co32) ∧ w'.cell? ⟨gb195, 3, none⟩ = some (.slice Ao33 t192.length co33) ∧ w'.cell? ⟨gb182, 0, none⟩ = some (.int .i64 t176) ∧ w'.cell? ⟨gb182, 1, none⟩ = some (.string t177) ∧ w'.cell? ⟨gb182, 2, none⟩ = some (.string t178) ∧ w'.cell? ⟨gb182, 3, none⟩ = some (.slice Ao25 t179.length co25) ∧ w'.cell? ad210 = some (.slice A210_0 (rd_L3 t199 0).length c210_0)) (ds := []) #[false, false, false, false, false, false, false, false, false, false, false, false, false, false, false, false, false, false, false, false, false, false, false, false, false, false, false, false, false, false, false, false, false, false, false] (by kernel_rfl) rfl rfl ⟨(blk_cell BK195.out 0).trans rfl, (blk_cell BK195.out 1).trans rfl, (blk_cell BK195.out 2).trans rfl, (blk_cell BK195.out 3).trans rfl, (blk_cell BK182.out 0).trans rfl, (blk_cell BK182.out 1).trans rfl, (blk_cell BK182.out 2).trans rfl, (blk_cell BK182.out 3).trans rfl, hx210_0⟩ (fun hHeld => ?_); refine with_tabW scarflaw10_known.tab4 scarflaw10_known.bits4 (fun HT_ HW_ => ?_)
        generalize w39.drew = w40 at HO169 HO175 HO181 HO185 HO188 HO191 HO194 HO198 HO201 BK182 BK195 HB HL210_0 HR210_0 hx210_0 hHeld ⊢
        refine pure_ (i := 0) (N := some 12) (v := ?_) (a' := ?_) #[true, false, false, false, false, false, false, false, false, false, false, false, false, false, false, false, false, false, false, false, false, false, false, false, false, false, false, false, false, false, false, false, false, false, false] rfl rfl (any_of HT_.out (by kernel_rfl)) (fun _ _ _ h => h) (Or.inl ⟨by rfl, ?_⟩) ?_ ?_
        rotate_left
        ·intro w'
         go_simp
         with_reducible rfl
        rotate_left
        ·simp only [Act.put, List.setIfInBounds_toArray, List.set_cons_zero, List.set_cons_succ, i64_w, i32_w]
         rfl
        refine take_ (i := 1) (N := some 13) (v := ?_) (a' := ?_) #[true, true, false, false, false, false, false, false, false, false, false, false, false, false, false, false, false, false, false, false, false, false, false, false, false, false, false, false, false, false, false, false, false, false, false] rfl rfl (take_ofW HT_.out HW_.out (by kernel_rfl)) (fun _ _ _ h => h) (Or.inl ⟨by rfl, ?_⟩) hHeld ?_ ?_
        rotate_left
        ·rintro w' ⟨s0, s1, s2, s3, s4, s5, s6, s7, s8⟩
         go_simp
         with_reducible rfl
        rotate_left
        ·simp only [Act.put, List.setIfInBounds_toArray, List.set_cons_zero, List.set_cons_succ, i64_w, i32_w]
         rfl
        refine pure_ (i := 2) (N := some 14) (v := ?_) (a' := ?_) #[true, true, true, false, false, false, false, false, false, false, false, false, false, false, false, false, false, false, false, false, false, false, false, false, false, false, false, false, false, false, false, false, false, false, false] rfl rfl (any_of HT_.out (by kernel_rfl)) (fun _ _ _ h => h) (Or.inl ⟨by rfl, ?_⟩) ?_ ?_
        rotate_left
        ·intro w'
         go_simp
         with_reducible rfl
        rotate_left
        ·simp only [Act.put, List.setIfInBounds_toArray, List.set_cons_zero, List.set_cons_succ, i64_w, i32_w]
         rfl
        refine pure_ (i := 3) (N := some 15) (v := ?_) (a' := ?_) #[true, true, true, true, false, false, false, false, false, false, false, false, false, false, false, false, false, false, false, false, false, false, false, false, false, false, false, false, false, false, false, false, false, false, false] rfl rfl (any_of HT_.out (by kernel_rfl)) (fun _ _ _ h => h) (Or.inl ⟨by rfl, ?_⟩) ?_ ?_
        rotate_left
        ·intro w'
         go_simp
         with_reducible rfl
        rotate_left
        ·simp only [Act.put, List.setIfInBounds_toArray, List.set_cons_zero, List.set_cons_succ, i64_w, i32_w]
         rfl
        refine pure_ (i := 4) (N := some 16) (v := ?_) (a' := ?_) #[true, true, true, true, true, false, false, false, false, false, false, false, false, false, false, false, false, false, false, false, false, false, false, false, false, false, false, false, false, false, false, false, false, false, false] rfl rfl (any_of HT_.out (by kernel_rfl)) (fun _ _ _ h => h) (Or.inl ⟨by rfl, ?_⟩) ?_ ?_
        rotate_left
        ·intro w'
         go_simp
         with_reducible rfl
        rotate_left
        ·simp only [Act.put, List.setIfInBounds_toArray, List.set_cons_zero, List.set_cons_succ, i64_w, i32_w]
         rfl
        refine pure_ (i := 5) (N := some 17) (v := ?_) (a' := ?_) #[true, true, true, true, true, true, false, false, false, false, false, false, false, false, false, false, false, false, false, false, false, false, false, false, false, false, false, false, false, false, false, false, false, false, false] rfl rfl (any_of HT_.out (by kernel_rfl)) (fun _ _ _ h => h) (Or.inl ⟨by rfl, ?_⟩) ?_ ?_
        rotate_left
        ·intro w'
         go_simp
         with_reducible rfl
        rotate_left
        ·simp only [Act.put, List.setIfInBounds_toArray, List.set_cons_zero, List.set_cons_succ, i64_w, i32_w]
         rfl
        refine take_ (i := 6) (N := some 18) (v := ?_) (a' := ?_) #[true, true, true, true, true, true, true, false, false, false, false, false, false, false, false, false, false, false, false, false, false, false, false, false, false, false, false, false, false, false, false, false, false, false, false] rfl rfl (take_ofW HT_.out HW_.out (by kernel_rfl)) (fun _ _ _ h => h) (Or.inl ⟨by rfl, ?_⟩) hHeld ?_ ?_
        rotate_left
        ·rintro w' ⟨s0, s1, s2, s3, s4, s5, s6, s7, s8⟩
         go_simp
         with_reducible rfl
        rotate_left
        ·simp only [Act.put, List.setIfInBounds_toArray, List.set_cons_zero, List.set_cons_succ, i64_w, i32_w]
         rfl
        refine one_ (i := 7) (N := some 19) #[true, true, true, true, true, true, true, true, false, false, false, false, false, false, false, false, false, false, false, false, false, false, false, false, false, false, false, false, false, false, false, false, false, false, false] rfl rfl (one_of HT_.out (by kernel_rfl)) (by decide) (fun K hK => ?_)
        refine Kd.R_lit_step (Kd.int .i64) _ 3 ?hg (N := 19) ?hd (xs := ([(-1), 0, 0] : List Int)) (inner := [.int .i64 (-1), .int .i64 0, .int .i64 0]) (ok := fun _ => True) (okp := fun _ => True) ?hr ?hp (fun _ hk => hk) trivial (Below.refl _ _) (Nat.le_refl _) (by simp) ?_; (case hd => rfl); (case hg => rfl); (case hr => first | (go_simp; done) | (go_simp; rfl)); (case hp => exact (Reps.one (show Kd.M (Kd.int .i64) _ _ _ (-1) [.int .i64 (-1)] from rfl) (Reps.one (show Kd.M (Kd.int .i64) _ _ _ 0 [.int .i64 0] from rfl) (Reps.one (show Kd.M (Kd.int .i64) _ _ _ 0 [.int .i64 0] from rfl) (Reps.none _ _)))))
        intro v203 w42 ho43 hb hg_ hnew_
        have HS8_ := (hb.cell (World.block_lt_of_cell? _ _ (hHeld.2.2.2.2.2.2.2.2))).trans (hHeld.2.2.2.2.2.2.2.2)
        clear hg_ hnew_
        (first | rw [← Ny202.out] at ho43 | (simp only [Int.reduceToNat] at ho43; rw [← Ny202.out] at ho43))
        have n0_ := Aside0.mk (Kd.N_elder' (by (with_reducible repeat (first | apply Kd.N_alloc | apply Kd.N_drewN | apply Kd.N_drew)); exact HO169.out) (Kd.R_base ho43) hb)
        have n1_ := Aside0.mk (Kd.N_elder' (by (with_reducible repeat (first | apply Kd.N_alloc | apply Kd.N_drewN | apply Kd.N_drew)); exact HO175.out) (Kd.R_base ho43) hb)
        have n2_ := Aside0.mk (Kd.V_elder' (by (with_reducible repeat (first | apply Kd.V_alloc | apply Kd.V_drewN | apply Kd.V_drew)); exact HO181.out) (Kd.R_base ho43) hb)
        have n3_ := Aside0.mk (Kd.N_elder' (by (with_reducible repeat (first | apply Kd.N_alloc | apply Kd.N_drewN | apply Kd.N_drew)); exact HO185.out) (Kd.R_base ho43) hb)
        have n4_ := Aside0.mk (Kd.R_elder' (by (with_reducible repeat (first | apply Kd.R_alloc | apply Kd.R_drewN | apply Kd.R_drew)); exact HO188.out) (Kd.R_base ho43) hb)
        have n5_ := Aside0.mk (Kd.R_elder' (by (with_reducible repeat (first | apply Kd.R_alloc | apply Kd.R_drewN | apply Kd.R_drew)); exact HO191.out) (Kd.R_base ho43) hb)
        have n6_ := Aside0.mk (Kd.N_elder' (by (with_reducible repeat (first | apply Kd.N_alloc | apply Kd.N_drewN | apply Kd.N_drew)); exact HO194.out) (Kd.R_base ho43) hb)
        have n7_ := Aside0.mk (Kd.N_elder' (by (with_reducible repeat (first | apply Kd.N_alloc | apply Kd.N_drewN | apply Kd.N_drew)); exact HO198.out) (Kd.R_base ho43) hb)
        have n8_ := Aside0.mk (Kd.N_elder' (by (with_reducible repeat (first | apply Kd.N_alloc | apply Kd.N_drewN | apply Kd.N_drew)); exact HO201.out) (Kd.R_base ho43) hb)
        have n9_ := Aside0.mk (Kd.V_elder' (by (with_reducible repeat (first | apply Kd.V_alloc | apply Kd.V_drewN | apply Kd.V_drew)); exact HL210_0.out) (Kd.R_base ho43) hb)
        have n10_ := Aside0.mk (Kd.R_lower (Kd.R_new' (Kd.R_new' ho43 (Kd.R_lt (by (with_reducible repeat (first | apply Kd.R_alloc | apply Kd.R_drewN | apply Kd.R_drew)); exact HO188.out))) (Kd.R_lt (by (with_reducible repeat (first | apply Kd.R_alloc | apply Kd.R_drewN | apply Kd.R_drew)); exact HO191.out))) (below_size (by repeat (first | (with_reducible first | exact HB.out | apply below_alloc | apply pw_below_drewN | apply below_drew1 | refine below_set ?_ GE182.out | refine below_set ?_ GE195.out) | exact HB.out))))
        have n11_ := Aside0.mk (blk_below (g := gb182) (o := .cells #[.int .i64 t176, .string t177, .string t178, .slice Ao25 t179.length co25] 24 (0, 0)) (by (with_reducible repeat (first | refine blk_drewN ?_ _ | refine blk_drew ?_ | refine blk_alloc ?_ _)); exact BK182.out) hb)
        have n12_ := Aside0.mk (blk_below (g := gb195) (o := .cells #[.slice Ao28 t183.length co28, .slice Ao31 t186.length co31, .slice Ao32 t189.length co32, .slice Ao33 t192.length co33] 30 (0, 0)) (by (with_reducible repeat (first | refine blk_drewN ?_ _ | refine blk_drew ?_ | refine blk_alloc ?_ _)); exact BK195.out) hb)
        have n13_ := Aside0.mk (Kd.C_below (by repeat (first | (with_reducible exact HR210_0.out) | (with_reducible refine Kd.C_alloc ?_ _) | (with_reducible refine Kd.C_drewN ?_ _) | (with_reducible refine Kd.C_drew ?_) | exact HR210_0.out)) hb)
        have n14_ := Aside0.mk (below_step (by repeat (first | (with_reducible first | exact HB.out | apply below_alloc | apply pw_below_drewN | apply below_drew1 | refine below_set ?_ GE182.out | refine below_set ?_ GE195.out) | exact HB.out)) hb)
        clear HO169
        clear HO175
        clear HO181
        clear HO185
        clear HO188
        clear HO191
        clear HO194
        clear HO198
        clear HO201
        clear HL210_0
        clear BK182
        clear BK195
        clear HR210_0
        clear HB
        have HO169 := n0_
        have HO175 := n1_
        have HO181 := n2_
        have HO185 := n3_
        have HO188 := n4_
        have HO191 := n5_
        have HO194 := n6_
        have HO198 := n7_
        have HO201 := n8_
        have HL210_0 := n9_
        have HO204 := n10_
        have BK182 := n11_
        have BK195 := n12_
        have HR210_0 := n13_
        have HB := n14_
        clear n0_ n1_ n2_ n3_ n4_ n5_ n6_ n7_ n8_ n9_ n10_ n11_ n12_ n13_ n14_
        clear hb ho43
        obtain ⟨Ao44, co44, eo44⟩ := Kd.R_slice HO204.out
        (first | subst eo44 | (injection eo44 with f1_ f2_ f3_; have f4_ := f1_.symm; have f5_ := f3_.symm; clear f1_ f2_ f3_; subst f4_; subst f5_))
        refine hK.out _ _ ⟨(blk_cell BK195.out 0).trans rfl, (blk_cell BK195.out 1).trans rfl, (blk_cell BK195.out 2).trans rfl, (blk_cell BK195.out 3).trans rfl, (blk_cell BK182.out 0).trans rfl, (blk_cell BK182.out 1).trans rfl, (blk_cell BK182.out 2).trans rfl, (blk_cell BK182.out 3).trans rfl, HS8_⟩ (fun hHeld => ?_)
        clear hK K
        refine norm_ (a' := ?_) ?_ ?_
        rotate_left
        ·show Act.put _ (some 19) _ = _
         simp only [Act.put, List.setIfInBounds_toArray, List.set_cons_zero, List.set_cons_succ, i64_w, i32_w]
         rfl
        refine one_ (i := 8) (N := some 20) #[true, true, true, true, true, true, true, true, true, false, false, false, false, false, false, false, false, false, false, false, false, false, false, false, false, false, false, false, false, false, false, false, false, false, false] rfl rfl (one_of HT_.out (by kernel_rfl)) (by decide) (fun K hK => ?_)
        refine goes_ Tryd.func12 (by kernel_rfl) rfl #[.slice Ao31 t186.length co31, .slice Ao44 y202.length co44] (by rfl) rfl rfl (by (try simp only [List.map_toArray, List.map_cons, List.map_nil]); first | done | rfl | (simp only [List.length_drop, List.length_take]; rfl)) ?_
        with_reducible refine (scarfref03_Same.calls k _ _ t186 _ _ y202 true _ ?side1 ?side2 ?side3 ?side4 A7.out).mono ?_
        (case side1 => repeat (first | exact (Kd.R_reads' HO188.out).2.2 | (with_reducible refine Kd.C_alloc ?_ _) | (with_reducible refine Kd.C_drewN ?_ _) | (with_reducible refine Kd.C_drew ?_)))
        (case side2 => exact (Kd.R_reads' HO188.out).2.1)
        (case side3 => repeat (first | exact (Kd.R_reads' HO204.out).2.2 | (with_reducible refine Kd.C_alloc ?_ _) | (with_reducible refine Kd.C_drewN ?_ _) | (with_reducible refine Kd.C_drew ?_)))
        (case side4 => exact (Kd.R_reads' HO204.out).2.1)
        rintro e w' ⟨rfl, ⟨nd, rfl⟩⟩
        refine ⟨_, rfl, ?_⟩
        refine hK.out _ _ ⟨(blk_cell BK195.out 0).trans rfl, (blk_cell BK195.out 1).trans rfl, (blk_cell BK195.out 2).trans rfl, (blk_cell BK195.out 3).trans rfl, (blk_cell BK182.out 0).trans rfl, (blk_cell BK182.out 1).trans rfl, (blk_cell BK182.out 2).trans rfl, (blk_cell BK182.out 3).trans rfl, hHeld.2.2.2.2.2.2.2.2⟩ (fun hHeld => ?_)
        clear hK K
        refine norm_ (a' := ?_) ?_ ?_
        rotate_left
        ·show Act.put _ (some 20) _ = _
         simp only [Act.put, List.setIfInBounds_toArray, List.set_cons_zero, List.set_cons_succ, i64_w, i32_w]
         rfl
        refine pure_ (i := 9) (N := some 21) (v := ?_) (a' := ?_) #[true, true, true, true, true, true, true, true, true, true, false, false, false, false, false, false, false, false, false, false, false, false, false, false, false, false, false, false, false, false, false, false, false, false, false] rfl rfl (any_of HT_.out (by kernel_rfl)) (fun _ _ _ h => h) (Or.inl ⟨by rfl, ?_⟩) ?_ ?_
        rotate_left
        ·intro w'
         go_simp
         with_reducible rfl
        rotate_left
        ·simp only [Act.put, List.setIfInBounds_toArray, List.set_cons_zero, List.set_cons_succ, i64_w, i32_w]
         rfl
        refine pure_ (i := 10) (N := some 22) (v := ?_) (a' := ?_) #[true, true, true, true, true, true, true, true, true, true, true, false, false, false, false, false, false, false, false, false, false, false, false, false, false, false, false, false, false, false, false, false, false, false, false] rfl rfl (any_of HT_.out (by kernel_rfl)) (fun _ _ _ h => h) (Or.inl ⟨by rfl, ?_⟩) ?_ ?_
        rotate_left
        ·intro w'
         go_simp
         with_reducible rfl
        rotate_left
        ·simp only [Act.put, List.setIfInBounds_toArray, List.set_cons_zero, List.set_cons_succ, i64_w, i32_w]
         rfl
        refine pure_ (i := 11) (N := some 23) (v := ?_) (a' := ?_) #[true, true, true, true, true, true, true, true, true, true, true, true, false, false, false, false, false, false, false, false, false, false, false, false, false, false, false, false, false, false, false, false, false, false, false] rfl rfl (any_of HT_.out (by kernel_rfl)) (fun _ _ _ h => h) (Or.inl ⟨by rfl, ?_⟩) ?_ ?_
        rotate_left
        ·intro w'
         go_simp
         with_reducible rfl
        rotate_left
        ·simp only [Act.put, List.setIfInBounds_toArray, List.set_cons_zero, List.set_cons_succ, i64_w, i32_w]
         rfl
        refine take_ (i := 12) (N := some 24) (v := ?_) (a' := ?_) #[true, true, true, true, true, true, true, true, true, true, true, true, true, false, false, false, false, false, false, false, false, false, false, false, false, false, false, false, false, false, false, false, false, false, false] rfl rfl (take_ofW HT_.out HW_.out (by kernel_rfl)) (fun _ _ _ h => h) (Or.inl ⟨by rfl, ?_⟩) hHeld ?_ ?_
        rotate_left
        ·rintro w' ⟨s0, s1, s2, s3, s4, s5, s6, s7, s8⟩
         go_simp
         with_reducible rfl
        rotate_left
        ·simp only [Act.put, List.setIfInBounds_toArray, List.set_cons_zero, List.set_cons_succ, i64_w, i32_w]
         rfl
        refine one_ (i := 13) (N := some 25) #[true, true, true, true, true, true, true, true, true, true, true, true, true, true, false, false, false, false, false, false, false, false, false, false, false, false, false, false, false, false, false, false, false, false, false] rfl rfl (one_of HT_.out (by kernel_rfl)) (by decide) (fun K hK => ?_)
        refine Kd.R_lit_step (Kd.int .i64) _ 3 ?hg (N := 25) ?hd (xs := ([3, 1, 1] : List Int)) (inner := [.int .i64 3, .int .i64 1, .int .i64 1]) (ok := fun _ => True) (okp := fun _ => True) ?hr ?hp (fun _ hk => hk) trivial (Below.refl _ _) (Nat.le_refl _) (by simp) ?_; (case hd => rfl); (case hg => rfl); (case hr => first | (go_simp; done) | (go_simp; rfl)); (case hp => exact (Reps.one (show Kd.M (Kd.int .i64) _ _ _ 3 [.int .i64 3] from rfl) (Reps.one (show Kd.M (Kd.int .i64) _ _ _ 1 [.int .i64 1] from rfl) (Reps.one (show Kd.M (Kd.int .i64) _ _ _ 1 [.int .i64 1] from rfl) (Reps.none _ _)))))
        intro v207 w45 ho46 hb hg_ hnew_
        have HS8_ := (hb.cell (World.block_lt_of_cell? _ _ (hHeld.2.2.2.2.2.2.2.2))).trans (hHeld.2.2.2.2.2.2.2.2)
        clear hg_ hnew_
        (first | rw [← Ny206.out] at ho46 | (simp only [Int.reduceToNat] at ho46; rw [← Ny206.out] at ho46))
        have n0_ := Aside0.mk (Kd.N_elder' (by (with_reducible repeat (first | apply Kd.N_alloc | apply Kd.N_drewN | apply Kd.N_drew)); exact HO169.out) (Kd.R_base ho46) hb)
        have n1_ := Aside0.mk (Kd.N_elder' (by (with_reducible repeat (first | apply Kd.N_alloc | apply Kd.N_drewN | apply Kd.N_drew)); exact HO175.out) (Kd.R_base ho46) hb)
        have n2_ := Aside0.mk (Kd.V_elder' (by (with_reducible repeat (first | apply Kd.V_alloc | apply Kd.V_drewN | apply Kd.V_drew)); exact HO181.out) (Kd.R_base ho46) hb)
        have n3_ := Aside0.mk (Kd.N_elder' (by (with_reducible repeat (first | apply Kd.N_alloc | apply Kd.N_drewN | apply Kd.N_drew)); exact HO185.out) (Kd.R_base ho46) hb)
        have n4_ := Aside0.mk (Kd.R_elder' (by (with_reducible repeat (first | apply Kd.R_alloc | apply Kd.R_drewN | apply Kd.R_drew)); exact HO188.out) (Kd.R_base ho46) hb)
        have n5_ := Aside0.mk (Kd.R_elder' (by (with_reducible repeat (first | apply Kd.R_alloc | apply Kd.R_drewN | apply Kd.R_drew)); exact HO191.out) (Kd.R_base ho46) hb)
        have n6_ := Aside0.mk (Kd.N_elder' (by (with_reducible repeat (first | apply Kd.N_alloc | apply Kd.N_drewN | apply Kd.N_drew)); exact HO194.out) (Kd.R_base ho46) hb)
        have n7_ := Aside0.mk (Kd.N_elder' (by (with_reducible repeat (first | apply Kd.N_alloc | apply Kd.N_drewN | apply Kd.N_drew)); exact HO198.out) (Kd.R_base ho46) hb)
        have n8_ := Aside0.mk (Kd.N_elder' (by (with_reducible repeat (first | apply Kd.N_alloc | apply Kd.N_drewN | apply Kd.N_drew)); exact HO201.out) (Kd.R_base ho46) hb)
        have n9_ := Aside0.mk (Kd.V_elder' (by (with_reducible repeat (first | apply Kd.V_alloc | apply Kd.V_drewN | apply Kd.V_drew)); exact HL210_0.out) (Kd.R_base ho46) hb)
        have n10_ := Aside0.mk (Kd.R_elder' (by (with_reducible repeat (first | apply Kd.R_alloc | apply Kd.R_drewN | apply Kd.R_drew)); exact HO204.out) (Kd.R_base ho46) hb)
        have n11_ := Aside0.mk (Kd.R_lower (Kd.R_new' (Kd.R_new' (Kd.R_new' ho46 (Kd.R_lt (by (with_reducible repeat (first | apply Kd.R_alloc | apply Kd.R_drewN | apply Kd.R_drew)); exact HO188.out))) (Kd.R_lt (by (with_reducible repeat (first | apply Kd.R_alloc | apply Kd.R_drewN | apply Kd.R_drew)); exact HO191.out))) (Kd.R_lt (by (with_reducible repeat (first | apply Kd.R_alloc | apply Kd.R_drewN | apply Kd.R_drew)); exact HO204.out))) (below_size (by repeat (first | (with_reducible first | exact HB.out | apply below_alloc | apply pw_below_drewN | apply below_drew1 | refine below_set ?_ GE182.out | refine below_set ?_ GE195.out) | exact HB.out))))
        have n12_ := Aside0.mk (blk_below (g := gb182) (o := .cells #[.int .i64 t176, .string t177, .string t178, .slice Ao25 t179.length co25] 24 (0, 0)) (by (with_reducible repeat (first | refine blk_drewN ?_ _ | refine blk_drew ?_ | refine blk_alloc ?_ _)); exact BK182.out) hb)
        have n13_ := Aside0.mk (blk_below (g := gb195) (o := .cells #[.slice Ao28 t183.length co28, .slice Ao31 t186.length co31, .slice Ao32 t189.length co32, .slice Ao33 t192.length co33] 30 (0, 0)) (by (with_reducible repeat (first | refine blk_drewN ?_ _ | refine blk_drew ?_ | refine blk_alloc ?_ _)); exact BK195.out) hb)
        have n14_ := Aside0.mk (Kd.C_below (by repeat (first | (with_reducible exact HR210_0.out) | (with_reducible refine Kd.C_alloc ?_ _) | (with_reducible refine Kd.C_drewN ?_ _) | (with_reducible refine Kd.C_drew ?_) | exact HR210_0.out)) hb)
        have n15_ := Aside0.mk (below_step (by repeat (first | (with_reducible first | exact HB.out | apply below_alloc | apply pw_below_drewN | apply below_drew1 | refine below_set ?_ GE182.out | refine below_set ?_ GE195.out) | exact HB.out)) hb)
        clear HO169
        clear HO175
        clear HO181
        clear HO185
        clear HO188
        clear HO191
        clear HO194
        clear HO198
        clear HO201
        clear HL210_0
        clear HO204
        clear BK182
        clear BK195
        clear HR210_0
        clear HB
        have HO169 := n0_
        have HO175 := n1_
        have HO181 := n2_
        have HO185 := n3_
        have HO188 := n4_
        have HO191 := n5_
        have HO194 := n6_
        have HO198 := n7_
        have HO201 := n8_
        have HL210_0 := n9_
        have HO204 := n10_
        have HO208 := n11_
        have BK182 := n12_
        have BK195 := n13_
        have HR210_0 := n14_
        have HB := n15_
        clear n0_ n1_ n2_ n3_ n4_ n5_ n6_ n7_ n8_ n9_ n10_ n11_ n12_ n13_ n14_ n15_
        clear hb ho46
        obtain ⟨Ao47, co47, eo47⟩ := Kd.R_slice HO208.out
        (first | subst eo47 | (injection eo47 with f1_ f2_ f3_; have f4_ := f1_.symm; have f5_ := f3_.symm; clear f1_ f2_ f3_; subst f4_; subst f5_))
        refine hK.out _ _ ⟨(blk_cell BK195.out 0).trans rfl, (blk_cell BK195.out 1).trans rfl, (blk_cell BK195.out 2).trans rfl, (blk_cell BK195.out 3).trans rfl, (blk_cell BK182.out 0).trans rfl, (blk_cell BK182.out 1).trans rfl, (blk_cell BK182.out 2).trans rfl, (blk_cell BK182.out 3).trans rfl, HS8_⟩ (fun hHeld => ?_)
        clear hK K
        refine norm_ (a' := ?_) ?_ ?_
        rotate_left
        ·show Act.put _ (some 25) _ = _
         simp only [Act.put, List.setIfInBounds_toArray, List.set_cons_zero, List.set_cons_succ, i64_w, i32_w]
         rfl
        refine one_ (i := 14) (N := some 26) #[true, true, true, true, true, true, true, true, true, true, true, true, true, true, true, false, false, false, false, false, false, false, false, false, false, false, false, false, false, false, false, false, false, false, false] rfl rfl (one_of HT_.out (by kernel_rfl)) (by decide) (fun K hK => ?_)
        refine goes_ Tryd.func12 (by kernel_rfl) rfl #[.slice Ao32 t189.length co32, .slice Ao47 y206.length co47] (by rfl) rfl rfl (by (try simp only [List.map_toArray, List.map_cons, List.map_nil]); first | done | rfl | (simp only [List.length_drop, List.length_take]; rfl)) ?_
        with_reducible refine (scarfref03_Same.calls k _ _ t189 _ _ y206 true _ ?side1 ?side2 ?side3 ?side4 A9.out).mono ?_
        (case side1 => repeat (first | exact (Kd.R_reads' HO191.out).2.2 | (with_reducible refine Kd.C_alloc ?_ _) | (with_reducible refine Kd.C_drewN ?_ _) | (with_reducible refine Kd.C_drew ?_)))
        (case side2 => exact (Kd.R_reads' HO191.out).2.1)
        (case side3 => repeat (first | exact (Kd.R_reads' HO208.out).2.2 | (with_reducible refine Kd.C_alloc ?_ _) | (with_reducible refine Kd.C_drewN ?_ _) | (with_reducible refine Kd.C_drew ?_)))
        (case side4 => exact (Kd.R_reads' HO208.out).2.1)
        rintro e w' ⟨rfl, ⟨nd, rfl⟩⟩
        refine ⟨_, rfl, ?_⟩
        refine hK.out _ _ ⟨(blk_cell BK195.out 0).trans rfl, (blk_cell BK195.out 1).trans rfl, (blk_cell BK195.out 2).trans rfl, (blk_cell BK195.out 3).trans rfl, (blk_cell BK182.out 0).trans rfl, (blk_cell BK182.out 1).trans rfl, (blk_cell BK182.out 2).trans rfl, (blk_cell BK182.out 3).trans rfl, hHeld.2.2.2.2.2.2.2.2⟩ (fun hHeld => ?_)
        clear hK K
        refine norm_ (a' := ?_) ?_ ?_
        rotate_left
        ·show Act.put _ (some 26) _ = _
         simp only [Act.put, List.setIfInBounds_toArray, List.set_cons_zero, List.set_cons_succ, i64_w, i32_w]
         rfl
        refine pure_ (i := 15) (N := some 27) (v := ?_) (a' := ?_) #[true, true, true, true, true, true, true, true, true, true, true, true, true, true, true, true, false, false, false, false, false, false, false, false, false, false, false, false, false, false, false, false, false, false, false] rfl rfl (any_of HT_.out (by kernel_rfl)) (fun _ _ _ h => h) (Or.inl ⟨by rfl, ?_⟩) ?_ ?_
        rotate_left
        ·intro w'
         go_simp
         with_reducible rfl
        rotate_left
        ·simp only [Act.put, List.setIfInBounds_toArray, List.set_cons_zero, List.set_cons_succ, i64_w, i32_w]
         rfl
        refine pure_ (i := 16) (N := some 28) (v := ?_) (a' := ?_) #[true, true, true, true, true, true, true, true, true, true, true, true, true, true, true, true, true, false, false, false, false, false, false, false, false, false, false, false, false, false, false, false, false, false, false] rfl rfl (any_of HT_.out (by kernel_rfl)) (fun _ _ _ h => h) (Or.inl ⟨by rfl, ?_⟩) ?_ ?_
        rotate_left
        ·intro w'
         go_simp
         with_reducible rfl
        rotate_left
        ·simp only [Act.put, List.setIfInBounds_toArray, List.set_cons_zero, List.set_cons_succ, i64_w, i32_w]
         rfl
        refine pure_ (i := 17) (N := some 29) (v := ?_) (a' := ?_) #[true, true, true, true, true, true, true, true, true, true, true, true, true, true, true, true, true, true, false, false, false, false, false, false, false, false, false, false, false, false, false, false, false, false, false] rfl rfl (any_of HT_.out (by kernel_rfl)) (fun _ _ _ h => h) (Or.inl ⟨by rfl, ?_⟩) ?_ ?_
        rotate_left
        ·intro w'
         go_simp
         with_reducible rfl
        rotate_left
        ·simp only [Act.put, List.setIfInBounds_toArray, List.set_cons_zero, List.set_cons_succ, i64_w, i32_w]
         rfl
        refine pure_ (i := 18) (N := some 30) (v := ?_) (a' := ?_) #[true, true, true, true, true, true, true, true, true, true, true, true, true, true, true, true, true, true, true, false, false, false, false, false, false, false, false, false, false, false, false, false, false, false, false] rfl rfl (any_of HT_.out (by kernel_rfl)) (fun _ _ _ h => h) (Or.inl ⟨by rfl, ?_⟩) ?_ ?_
        rotate_left
        ·intro w'
         go_simp
         with_reducible rfl
        rotate_left
        ·simp only [Act.put, List.setIfInBounds_toArray, List.set_cons_zero, List.set_cons_succ, i64_w, i32_w]
         rfl
        refine pure_ (i := 19) (N := some 31) (v := ?_) (a' := ?_) #[true, true, true, true, true, true, true, true, true, true, true, true, true, true, true, true, true, true, true, true, false, false, false, false, false, false, false, false, false, false, false, false, false, false, false] rfl rfl (any_of HT_.out (by kernel_rfl)) (fun _ _ _ h => h) (Or.inl ⟨by rfl, ?_⟩) ?_ ?_
        rotate_left
        ·intro w'
         go_simp
         with_reducible rfl
        rotate_left
        ·simp only [Act.put, List.setIfInBounds_toArray, List.set_cons_zero, List.set_cons_succ, i64_w, i32_w]
         rfl
        refine pure_ (i := 20) (N := some 32) (v := ?_) (a' := ?_) #[true, true, true, true, true, true, true, true, true, true, true, true, true, true, true, true, true, true, true, true, true, false, false, false, false, false, false, false, false, false, false, false, false, false, false] rfl rfl (any_of HT_.out (by kernel_rfl)) (fun _ _ _ h => h) (Or.inl ⟨by rfl, ?_⟩) ?_ ?_
        rotate_left
        ·intro w'
         go_simp
         with_reducible rfl
        rotate_left
        ·simp only [Act.put, List.setIfInBounds_toArray, List.set_cons_zero, List.set_cons_succ, i64_w, i32_w]
         rfl
        refine pure_ (i := 21) (N := some 33) (v := ?_) (a' := ?_) #[true, true, true, true, true, true, true, true, true, true, true, true, true, true, true, true, true, true, true, true, true, true, false, false, false, false, false, false, false, false, false, false, false, false, false] rfl rfl (any_of HT_.out (by kernel_rfl)) (fun _ _ _ h => h) (Or.inl ⟨by rfl, ?_⟩) ?_ ?_
        rotate_left
        ·intro w'
         go_simp
         with_reducible rfl
        rotate_left
        ·simp only [Act.put, List.setIfInBounds_toArray, List.set_cons_zero, List.set_cons_succ, i64_w, i32_w]
         rfl
        refine pure_ (i := 22) (N := some 34) (v := ?_) (a' := ?_) #[true, true, true, true, true, true, true, true, true, true, true, true, true, true, true, true, true, true, true, true, true, true, true, false, false, false, false, false, false, false, false, false, false, false, false] rfl rfl (any_of HT_.out (by kernel_rfl)) (fun _ _ _ h => h) (Or.inl ⟨by rfl, ?_⟩) ?_ ?_
        rotate_left
        ·intro w'
         go_simp
         with_reducible rfl
        rotate_left
        ·simp only [Act.put, List.setIfInBounds_toArray, List.set_cons_zero, List.set_cons_succ, i64_w, i32_w]
         rfl
        refine pure_ (i := 23) (N := some 35) (v := ?_) (a' := ?_) #[true, true, true, true, true, true, true, true, true, true, true, true, true, true, true, true, true, true, true, true, true, true, true, true, false, false, false, false, false, false, false, false, false, false, false] rfl rfl (any_of HT_.out (by kernel_rfl)) (fun _ _ _ h => h) (Or.inl ⟨by rfl, ?_⟩) ?_ ?_
        rotate_left
        ·intro w'
         go_simp
         with_reducible rfl
        rotate_left
        ·simp only [Act.put, List.setIfInBounds_toArray, List.set_cons_zero, List.set_cons_succ, i64_w, i32_w]
         rfl
        refine take_ (i := 24) (N := some 36) (v := ?_) (a' := ?_) #[true, true, true, true, true, true, true, true, true, true, true, true, true, true, true, true, true, true, true, true, true, true, true, true, true, false, false, false, false, false, false, false, false, false, false] rfl rfl (take_ofW HT_.out HW_.out (by kernel_rfl)) (fun _ _ _ h => h) (Or.inl ⟨by rfl, ?_⟩) hHeld ?_ ?_
        rotate_left
        ·rintro w' ⟨s0, s1, s2, s3, s4, s5, s6, s7, s8⟩
         go_simp
         with_reducible rfl
        rotate_left
        ·simp only [Act.put, List.setIfInBounds_toArray, List.set_cons_zero, List.set_cons_succ, i64_w, i32_w]
         rfl
        refine one_ (i := 25) (N := some 37) #[true, true, true, true, true, true, true, true, true, true, true, true, true, true, true, true, true, true, true, true, true, true, true, true, true, true, false, false, false, false, false, false, false, false, false] rfl rfl (one_of HT_.out (by kernel_rfl)) (by decide) (fun K hK => ?_)
        refine Kd.R_lit_step (Kd.int .i64) _ 3 ?hg (N := 37) ?hd (xs := ([0, 1, 1] : List Int)) (inner := [.int .i64 0, .int .i64 1, .int .i64 1]) (ok := fun _ => True) (okp := fun _ => True) ?hr ?hp (fun _ hk => hk) trivial (Below.refl _ _) (Nat.le_refl _) (by simp) ?_; (case hd => rfl); (case hg => rfl); (case hr => first | (go_simp; done) | (go_simp; rfl)); (case hp => exact (Reps.one (show Kd.M (Kd.int .i64) _ _ _ 0 [.int .i64 0] from rfl) (Reps.one (show Kd.M (Kd.int .i64) _ _ _ 1 [.int .i64 1] from rfl) (Reps.one (show Kd.M (Kd.int .i64) _ _ _ 1 [.int .i64 1] from rfl) (Reps.none _ _)))))
        intro v212 w48 ho49 hb hg_ hnew_
        have HS8_ := (hb.cell (World.block_lt_of_cell? _ _ (hHeld.2.2.2.2.2.2.2.2))).trans (hHeld.2.2.2.2.2.2.2.2)
        clear hg_ hnew_
        (first | rw [← Ny211.out] at ho49 | (simp only [Int.reduceToNat] at ho49; rw [← Ny211.out] at ho49))
        have n0_ := Aside0.mk (Kd.N_elder' (by (with_reducible repeat (first | apply Kd.N_alloc | apply Kd.N_drewN | apply Kd.N_drew)); exact HO169.out) (Kd.R_base ho49) hb)
        have n1_ := Aside0.mk (Kd.N_elder' (by (with_reducible repeat (first | apply Kd.N_alloc | apply Kd.N_drewN | apply Kd.N_drew)); exact HO175.out) (Kd.R_base ho49) hb)
        have n2_ := Aside0.mk (Kd.V_elder' (by (with_reducible repeat (first | apply Kd.V_alloc | apply Kd.V_drewN | apply Kd.V_drew)); exact HO181.out) (Kd.R_base ho49) hb)
        have n3_ := Aside0.mk (Kd.N_elder' (by (with_reducible repeat (first | apply Kd.N_alloc | apply Kd.N_drewN | apply Kd.N_drew)); exact HO185.out) (Kd.R_base ho49) hb)
        have n4_ := Aside0.mk (Kd.R_elder' (by (with_reducible repeat (first | apply Kd.R_alloc | apply Kd.R_drewN | apply Kd.R_drew)); exact HO188.out) (Kd.R_base ho49) hb)
        have n5_ := Aside0.mk (Kd.R_elder' (by (with_reducible repeat (first | apply Kd.R_alloc | apply Kd.R_drewN | apply Kd.R_drew)); exact HO191.out) (Kd.R_base ho49) hb)
        have n6_ := Aside0.mk (Kd.N_elder' (by (with_reducible repeat (first | apply Kd.N_alloc | apply Kd.N_drewN | apply Kd.N_drew)); exact HO194.out) (Kd.R_base ho49) hb)
        have n7_ := Aside0.mk (Kd.N_elder' (by (with_reducible repeat (first | apply Kd.N_alloc | apply Kd.N_drewN | apply Kd.N_drew)); exact HO198.out) (Kd.R_base ho49) hb)
        have n8_ := Aside0.mk (Kd.N_elder' (by (with_reducible repeat (first | apply Kd.N_alloc | apply Kd.N_drewN | apply Kd.N_drew)); exact HO201.out) (Kd.R_base ho49) hb)
        have n9_ := Aside0.mk (Kd.V_elder' (by (with_reducible repeat (first | apply Kd.V_alloc | apply Kd.V_drewN | apply Kd.V_drew)); exact HL210_0.out) (Kd.R_base ho49) hb)
        have n10_ := Aside0.mk (Kd.R_elder' (by (with_reducible repeat (first | apply Kd.R_alloc | apply Kd.R_drewN | apply Kd.R_drew)); exact HO204.out) (Kd.R_base ho49) hb)
        have n11_ := Aside0.mk (Kd.R_elder' (by (with_reducible repeat (first | apply Kd.R_alloc | apply Kd.R_drewN | apply Kd.R_drew)); exact HO208.out) (Kd.R_base ho49) hb)
        have n12_ := Aside0.mk (Kd.R_lower (Kd.R_new' (Kd.R_new' (Kd.R_new' (Kd.R_new' ho49 (Kd.R_lt (by (with_reducible repeat (first | apply Kd.R_alloc | apply Kd.R_drewN | apply Kd.R_drew)); exact HO188.out))) (Kd.R_lt (by (with_reducible repeat (first | apply Kd.R_alloc | apply Kd.R_drewN | apply Kd.R_drew)); exact HO191.out))) (Kd.R_lt (by (with_reducible repeat (first | apply Kd.R_alloc | apply Kd.R_drewN | apply Kd.R_drew)); exact HO204.out))) (Kd.R_lt (by (with_reducible repeat (first | apply Kd.R_alloc | apply Kd.R_drewN | apply Kd.R_drew)); exact HO208.out))) (below_size (by repeat (first | (with_reducible first | exact HB.out | apply below_alloc | apply pw_below_drewN | apply below_drew1 | refine below_set ?_ GE182.out | refine below_set ?_ GE195.out) | exact HB.out))))
        have n13_ := Aside0.mk (blk_below (g := gb182) (o := .cells #[.int .i64 t176, .string t177, .string t178, .slice Ao25 t179.length co25] 24 (0, 0)) (by (with_reducible repeat (first | refine blk_drewN ?_ _ | refine blk_drew ?_ | refine blk_alloc ?_ _)); exact BK182.out) hb)
        have n14_ := Aside0.mk (blk_below (g := gb195) (o := .cells #[.slice Ao28 t183.length co28, .slice Ao31 t186.length co31, .slice Ao32 t189.length co32, .slice Ao33 t192.length co33] 30 (0, 0)) (by (with_reducible repeat (first | refine blk_drewN ?_ _ | refine blk_drew ?_ | refine blk_alloc ?_ _)); exact BK195.out) hb)
        have n15_ := Aside0.mk (Kd.C_below (by repeat (first | (with_reducible exact HR210_0.out) | (with_reducible refine Kd.C_alloc ?_ _) | (with_reducible refine Kd.C_drewN ?_ _) | (with_reducible refine Kd.C_drew ?_) | exact HR210_0.out)) hb)
        have n16_ := Aside0.mk (below_step (by repeat (first | (with_reducible first | exact HB.out | apply below_alloc | apply pw_below_drewN | apply below_drew1 | refine below_set ?_ GE182.out | refine below_set ?_ GE195.out) | exact HB.out)) hb)
        clear HO169
        clear HO175
        clear HO181
        clear HO185
        clear HO188
        clear HO191
        clear HO194
        clear HO198
        clear HO201
        clear HL210_0
        clear HO204
        clear HO208
        clear BK182
        clear BK195
        clear HR210_0
        clear HB
        have HO169 := n0_
        have HO175 := n1_
        have HO181 := n2_
        have HO185 := n3_
        have HO188 := n4_
        have HO191 := n5_
        have HO194 := n6_
        have HO198 := n7_
        have HO201 := n8_
        have HL210_0 := n9_
        have HO204 := n10_
        have HO208 := n11_
        have HO213 := n12_
        have BK182 := n13_
        have BK195 := n14_
        have HR210_0 := n15_
        have HB := n16_
        clear n0_ n1_ n2_ n3_ n4_ n5_ n6_ n7_ n8_ n9_ n10_ n11_ n12_ n13_ n14_ n15_ n16_
        clear hb ho49
        obtain ⟨Ao50, co50, eo50⟩ := Kd.R_slice HO213.out
        (first | subst eo50 | (injection eo50 with f1_ f2_ f3_; have f4_ := f1_.symm; have f5_ := f3_.symm; clear f1_ f2_ f3_; subst f4_; subst f5_))
        refine hK.out _ _ ⟨(blk_cell BK195.out 0).trans rfl, (blk_cell BK195.out 1).trans rfl, (blk_cell BK195.out 2).trans rfl, (blk_cell BK195.out 3).trans rfl, (blk_cell BK182.out 0).trans rfl, (blk_cell BK182.out 1).trans rfl, (blk_cell BK182.out 2).trans rfl, (blk_cell BK182.out 3).trans rfl, HS8_⟩ (fun hHeld => ?_)
        clear hK K
        refine norm_ (a' := ?_) ?_ ?_
        rotate_left
        ·show Act.put _ (some 37) _ = _
         simp only [Act.put, List.setIfInBounds_toArray, List.set_cons_zero, List.set_cons_succ, i64_w, i32_w]
         rfl
        refine one_ (i := 26) (N := some 38) #[true, true, true, true, true, true, true, true, true, true, true, true, true, true, true, true, true, true, true, true, true, true, true, true, true, true, true, false, false, false, false, false, false, false, false] rfl rfl (one_of HT_.out (by kernel_rfl)) (by decide) (fun K hK => ?_)
        refine goes_ Tryd.func12 (by kernel_rfl) rfl #[.slice A210_0 (rd_L3 t199 0).length c210_0, .slice Ao50 y211.length co50] (by rfl) rfl rfl (by (try simp only [List.map_toArray, List.map_cons, List.map_nil]); first | done | rfl | (simp only [List.length_drop, List.length_take]; rfl)) ?_
        with_reducible refine (scarfref03_Same.calls k _ _ (rd_L3 t199 0) _ _ y211 true _ ?side1 ?side2 ?side3 ?side4 A13.out).mono ?_
        (case side1 => repeat (first | exact (by repeat (first | (with_reducible exact HR210_0.out) | (with_reducible refine Kd.C_alloc ?_ _) | (with_reducible refine Kd.C_drewN ?_ _) | (with_reducible refine Kd.C_drew ?_) | exact HR210_0.out)) | (with_reducible refine Kd.C_alloc ?_ _) | (with_reducible refine Kd.C_drewN ?_ _) | (with_reducible refine Kd.C_drew ?_)))
        (case side2 => exact HC210_0.out)
        (case side3 => repeat (first | exact (Kd.R_reads' HO213.out).2.2 | (with_reducible refine Kd.C_alloc ?_ _) | (with_reducible refine Kd.C_drewN ?_ _) | (with_reducible refine Kd.C_drew ?_)))
        (case side4 => exact (Kd.R_reads' HO213.out).2.1)
        rintro e w' ⟨rfl, ⟨nd, rfl⟩⟩
        refine ⟨_, rfl, ?_⟩
        refine hK.out _ _ ⟨(blk_cell BK195.out 0).trans rfl, (blk_cell BK195.out 1).trans rfl, (blk_cell BK195.out 2).trans rfl, (blk_cell BK195.out 3).trans rfl, (blk_cell BK182.out 0).trans rfl, (blk_cell BK182.out 1).trans rfl, (blk_cell BK182.out 2).trans rfl, (blk_cell BK182.out 3).trans rfl, hHeld.2.2.2.2.2.2.2.2⟩ (fun hHeld => ?_)
        clear hK K
        refine norm_ (a' := ?_) ?_ ?_
        rotate_left
        ·show Act.put _ (some 38) _ = _
         simp only [Act.put, List.setIfInBounds_toArray, List.set_cons_zero, List.set_cons_succ, i64_w, i32_w]
         rfl
        refine pure_ (i := 27) (N := some 39) (v := ?_) (a' := ?_) #[true, true, true, true, true, true, true, true, true, true, true, true, true, true, true, true, true, true, true, true, true, true, true, true, true, true, true, true, false, false, false, false, false, false, false] rfl rfl (any_of HT_.out (by kernel_rfl)) (fun _ _ _ h => h) (Or.inl ⟨by rfl, ?_⟩) ?_ ?_
        rotate_left
        ·intro w'
         go_simp
         with_reducible rfl
        rotate_left
        ·simp only [Act.put, List.setIfInBounds_toArray, List.set_cons_zero, List.set_cons_succ, i64_w, i32_w]
         rfl
        refine pure_ (i := 28) (N := some 40) (v := ?_) (a' := ?_) #[true, true, true, true, true, true, true, true, true, true, true, true, true, true, true, true, true, true, true, true, true, true, true, true, true, true, true, true, true, false, false, false, false, false, false] rfl rfl (any_of HT_.out (by kernel_rfl)) (fun _ _ _ h => h) (Or.inl ⟨by rfl, ?_⟩) ?_ ?_
        rotate_left
        ·intro w'
         go_simp
         with_reducible rfl
        rotate_left
        ·simp only [Act.put, List.setIfInBounds_toArray, List.set_cons_zero, List.set_cons_succ, i64_w, i32_w]
         rfl
        refine take_ (i := 29) (N := some 41) (v := ?_) (a' := ?_) #[true, true, true, true, true, true, true, true, true, true, true, true, true, true, true, true, true, true, true, true, true, true, true, true, true, true, true, true, true, true, false, false, false, false, false] rfl rfl (take_ofW HT_.out HW_.out (by kernel_rfl)) (fun _ _ _ h => h) (Or.inl ⟨by rfl, ?_⟩) hHeld ?_ ?_
        rotate_left
        ·rintro w' ⟨s0, s1, s2, s3, s4, s5, s6, s7, s8⟩
         go_simp
         with_reducible rfl
        rotate_left
        ·simp only [Act.put, List.setIfInBounds_toArray, List.set_cons_zero, List.set_cons_succ, i64_w, i32_w]
         rfl
        refine take_ (i := 31) (N := some 43) (v := ?_) (a' := ?_) #[true, true, true, true, true, true, true, true, true, true, true, true, true, true, true, true, true, true, true, true, true, true, true, true, true, true, true, true, true, true, false, true, false, false, false] rfl rfl (take_ofW HT_.out HW_.out (by kernel_rfl)) (fun _ _ _ h => h) (Or.inl ⟨by rfl, ?_⟩) hHeld ?_ ?_
        rotate_left
        ·rintro w' ⟨s0, s1, s2, s3, s4, s5, s6, s7, s8⟩
         go_simp
         with_reducible rfl
        rotate_left
        ·simp only [Act.put, List.setIfInBounds_toArray, List.set_cons_zero, List.set_cons_succ, i64_w, i32_w]
         rfl
        refine one_ (i := 30) (N := some 42) #[true, true, true, true, true, true, true, true, true, true, true, true, true, true, true, true, true, true, true, true, true, true, true, true, true, true, true, true, true, true, true, true, false, false, false] rfl rfl (one_of HT_.out (by kernel_rfl)) (by decide) (fun K hK => ?_)
        refine goes_ Tryd.func14 (by kernel_rfl) rfl #[.agg #[.slice Ao28 t183.length co28, .slice Ao31 t186.length co31, .slice Ao32 t189.length co32, .slice Ao33 t192.length co33]] (by rfl) rfl rfl (by (try simp only [List.map_toArray, List.map_cons, List.map_nil]); first | done | rfl | (simp only [List.length_drop, List.length_take]; rfl)) ?_
        with_reducible refine (shape_Tree.calls k _ _ t183 _ _ t186 _ _ t189 _ _ t192 t215 t216 t217 t218 _ ?side1 ?side2 ?side3 ?side4 ?side5 ?side6 ?side7 ?side8 A15.out).mono ?_
        (case side1 => repeat (first | exact (Kd.N_reads' HO185.out).2.2 | exact (Kd.V_reads' HO185.out).2.2 | (with_reducible refine Kd.C_alloc ?_ _) | (with_reducible refine Kd.C_drewN ?_ _) | (with_reducible refine Kd.C_drew ?_)))
        (case side2 => first | exact (Kd.N_reads' HO185.out).2.1 | exact (Kd.V_reads' HO185.out).2.1)
        (case side3 => repeat (first | exact (Kd.R_reads' HO188.out).2.2 | (with_reducible refine Kd.C_alloc ?_ _) | (with_reducible refine Kd.C_drewN ?_ _) | (with_reducible refine Kd.C_drew ?_)))
        (case side4 => exact (Kd.R_reads' HO188.out).2.1)
        (case side5 => repeat (first | exact (Kd.R_reads' HO191.out).2.2 | (with_reducible refine Kd.C_alloc ?_ _) | (with_reducible refine Kd.C_drewN ?_ _) | (with_reducible refine Kd.C_drew ?_)))
        (case side6 => exact (Kd.R_reads' HO191.out).2.1)
        (case side7 => repeat (first | exact (Kd.N_reads' HO194.out).2.2 | exact (Kd.V_reads' HO194.out).2.2 | (with_reducible refine Kd.C_alloc ?_ _) | (with_reducible refine Kd.C_drewN ?_ _) | (with_reducible refine Kd.C_drew ?_)))
        (case side8 => first | exact (Kd.N_reads' HO194.out).2.1 | exact (Kd.V_reads' HO194.out).2.1)
        rintro e w51 ⟨v219, rfl, ho0, hb⟩
        have HS8_ := (hb.cell (World.block_lt_of_cell? _ _ (hHeld.2.2.2.2.2.2.2.2))).trans (hHeld.2.2.2.2.2.2.2.2)
        refine ⟨_, rfl, ?_⟩
        have n0_ := Aside0.mk (Kd.N_elder' (by (with_reducible repeat (first | apply Kd.N_alloc | apply Kd.N_drewN | apply Kd.N_drew)); exact HO169.out) (Kd.R_base ho0) hb)
        have n1_ := Aside0.mk (Kd.N_elder' (by (with_reducible repeat (first | apply Kd.N_alloc | apply Kd.N_drewN | apply Kd.N_drew)); exact HO175.out) (Kd.R_base ho0) hb)
        have n2_ := Aside0.mk (Kd.V_elder' (by (with_reducible repeat (first | apply Kd.V_alloc | apply Kd.V_drewN | apply Kd.V_drew)); exact HO181.out) (Kd.R_base ho0) hb)
        have n3_ := Aside0.mk (Kd.N_elder' (by (with_reducible repeat (first | apply Kd.N_alloc | apply Kd.N_drewN | apply Kd.N_drew)); exact HO185.out) (Kd.R_base ho0) hb)
        have n4_ := Aside0.mk (Kd.R_below (by (with_reducible repeat (first | apply Kd.R_alloc | apply Kd.R_drewN | apply Kd.R_drew)); exact HO188.out) hb)
        have n5_ := Aside0.mk (Kd.R_below (by (with_reducible repeat (first | apply Kd.R_alloc | apply Kd.R_drewN | apply Kd.R_drew)); exact HO191.out) hb)
        have n6_ := Aside0.mk (Kd.N_elder' (by (with_reducible repeat (first | apply Kd.N_alloc | apply Kd.N_drewN | apply Kd.N_drew)); exact HO194.out) (Kd.R_base ho0) hb)
        have n7_ := Aside0.mk (Kd.N_elder' (by (with_reducible repeat (first | apply Kd.N_alloc | apply Kd.N_drewN | apply Kd.N_drew)); exact HO198.out) (Kd.R_base ho0) hb)
        have n8_ := Aside0.mk (Kd.N_elder' (by (with_reducible repeat (first | apply Kd.N_alloc | apply Kd.N_drewN | apply Kd.N_drew)); exact HO201.out) (Kd.R_base ho0) hb)
        have n9_ := Aside0.mk (Kd.V_elder' (by (with_reducible repeat (first | apply Kd.V_alloc | apply Kd.V_drewN | apply Kd.V_drew)); exact HL210_0.out) (Kd.R_base ho0) hb)
        have n10_ := Aside0.mk (Kd.R_below (by (with_reducible repeat (first | apply Kd.R_alloc | apply Kd.R_drewN | apply Kd.R_drew)); exact HO204.out) hb)
        have n11_ := Aside0.mk (Kd.R_below (by (with_reducible repeat (first | apply Kd.R_alloc | apply Kd.R_drewN | apply Kd.R_drew)); exact HO208.out) hb)
        have n12_ := Aside0.mk (Kd.R_below (by (with_reducible repeat (first | apply Kd.R_alloc | apply Kd.R_drewN | apply Kd.R_drew)); exact HO213.out) hb)
        have n13_ := Aside0.mk (Kd.N_lower (Kd.N_mono (ok' := fun k_ => some k_ ≠ (.slice Ao20 t167.length co20 : Value).ownBlock ∧ some k_ ≠ (.slice Ao21 t173.length co21 : Value).ownBlock ∧ some k_ ≠ (.slice Ao28 t183.length co28 : Value).ownBlock ∧ some k_ ≠ (.slice Ao31 t186.length co31 : Value).ownBlock ∧ some k_ ≠ (.slice Ao32 t189.length co32 : Value).ownBlock ∧ some k_ ≠ (.slice Ao33 t192.length co33 : Value).ownBlock ∧ some k_ ≠ (.slice Ao38 y196.length co38 : Value).ownBlock ∧ some k_ ≠ (.slice (some ad210) t199.length co41 : Value).ownBlock ∧ some k_ ≠ (.slice Ao44 y202.length co44 : Value).ownBlock ∧ some k_ ≠ (.slice Ao47 y206.length co47 : Value).ownBlock ∧ some k_ ≠ (.slice Ao50 y211.length co50 : Value).ownBlock ∧ k_ ≠ gb182 ∧ k_ ≠ gb195) (Kd.R_N (Kd.R_bound ho0)) (fun k_ hk_ => ⟨(Kd.fresh' (Kd.N_lt (by (with_reducible repeat (first | apply Kd.N_alloc | apply Kd.N_drewN | apply Kd.N_drew)); exact HO169.out)) k_ hk_.2.1), (Kd.fresh' (Kd.N_lt (by (with_reducible repeat (first | apply Kd.N_alloc | apply Kd.N_drewN | apply Kd.N_drew)); exact HO175.out)) k_ hk_.2.1), (Kd.fresh' (Kd.N_lt (by (with_reducible repeat (first | apply Kd.N_alloc | apply Kd.N_drewN | apply Kd.N_drew)); exact HO185.out)) k_ hk_.2.1), (Kd.fresh' (Kd.R_lt (by (with_reducible repeat (first | apply Kd.R_alloc | apply Kd.R_drewN | apply Kd.R_drew)); exact HO188.out)) k_ hk_.2.1), (Kd.fresh' (Kd.R_lt (by (with_reducible repeat (first | apply Kd.R_alloc | apply Kd.R_drewN | apply Kd.R_drew)); exact HO191.out)) k_ hk_.2.1), (Kd.fresh' (Kd.N_lt (by (with_reducible repeat (first | apply Kd.N_alloc | apply Kd.N_drewN | apply Kd.N_drew)); exact HO194.out)) k_ hk_.2.1), (Kd.fresh' (Kd.N_lt (by (with_reducible repeat (first | apply Kd.N_alloc | apply Kd.N_drewN | apply Kd.N_drew)); exact HO198.out)) k_ hk_.2.1), (Kd.fresh' (Kd.N_lt (by (with_reducible repeat (first | apply Kd.N_alloc | apply Kd.N_drewN | apply Kd.N_drew)); exact HO201.out)) k_ hk_.2.1), (Kd.fresh' (Kd.R_lt (by (with_reducible repeat (first | apply Kd.R_alloc | apply Kd.R_drewN | apply Kd.R_drew)); exact HO204.out)) k_ hk_.2.1), (Kd.fresh' (Kd.R_lt (by (with_reducible repeat (first | apply Kd.R_alloc | apply Kd.R_drewN | apply Kd.R_drew)); exact HO208.out)) k_ hk_.2.1), (Kd.fresh' (Kd.R_lt (by (with_reducible repeat (first | apply Kd.R_alloc | apply Kd.R_drewN | apply Kd.R_drew)); exact HO213.out)) k_ hk_.2.1), (Kd.freshB (g := gb182) (o := .cells #[.int .i64 t176, .string t177, .string t178, .slice Ao25 t179.length co25] 24 (0, 0)) (by (with_reducible repeat (first | refine blk_drewN ?_ _ | refine blk_drew ?_ | refine blk_alloc ?_ _)); exact BK182.out) k_ hk_.2.1), (Kd.freshB (g := gb195) (o := .cells #[.slice Ao28 t183.length co28, .slice Ao31 t186.length co31, .slice Ao32 t189.length co32, .slice Ao33 t192.length co33] 30 (0, 0)) (by (with_reducible repeat (first | refine blk_drewN ?_ _ | refine blk_drew ?_ | refine blk_alloc ?_ _)); exact BK195.out) k_ hk_.2.1)⟩)) (below_size (by repeat (first | (with_reducible first | exact HB.out | apply below_alloc | apply pw_below_drewN | apply below_drew1 | refine below_set ?_ GE182.out | refine below_set ?_ GE195.out) | exact HB.out))))
        have n14_ := Aside0.mk (blk_below (g := gb182) (o := .cells #[.int .i64 t176, .string t177, .string t178, .slice Ao25 t179.length co25] 24 (0, 0)) (by (with_reducible repeat (first | refine blk_drewN ?_ _ | refine blk_drew ?_ | refine blk_alloc ?_ _)); exact BK182.out) hb)
        have n15_ := Aside0.mk (blk_below (g := gb195) (o := .cells #[.slice Ao28 t183.length co28, .slice Ao31 t186.length co31, .slice Ao32 t189.length co32, .slice Ao33 t192.length co33] 30 (0, 0)) (by (with_reducible repeat (first | refine blk_drewN ?_ _ | refine blk_drew ?_ | refine blk_alloc ?_ _)); exact BK195.out) hb)
        have n16_ := Aside0.mk (Kd.C_below (by repeat (first | (with_reducible exact HR210_0.out) | (with_reducible refine Kd.C_alloc ?_ _) | (with_reducible refine Kd.C_drewN ?_ _) | (with_reducible refine Kd.C_drew ?_) | exact HR210_0.out)) hb)
        have n17_ := Aside0.mk (below_step (by repeat (first | (with_reducible first | exact HB.out | apply below_alloc | apply pw_below_drewN | apply below_drew1 | refine below_set ?_ GE182.out | refine below_set ?_ GE195.out) | exact HB.out)) hb)
        clear HO169
        clear HO175
        clear HO181
        clear HO185
        clear HO188
        clear HO191
        clear HO194
        clear HO198
        clear HO201
        clear HL210_0
        clear HO204
        clear HO208
        clear HO213
        clear BK182
        clear BK195
        clear HR210_0
        clear HB
        have HO169 := n0_
        have HO175 := n1_
        have HO181 := n2_
        have HO185 := n3_
        have HO188 := n4_
        have HO191 := n5_
        have HO194 := n6_
        have HO198 := n7_
        have HO201 := n8_
        have HL210_0 := n9_
        have HO204 := n10_
        have HO208 := n11_
        have HO213 := n12_
        have HO220 := n13_
        have BK182 := n14_
        have BK195 := n15_
        have HR210_0 := n16_
        have HB := n17_
        clear n0_ n1_ n2_ n3_ n4_ n5_ n6_ n7_ n8_ n9_ n10_ n11_ n12_ n13_ n14_ n15_ n16_ n17_
        (try clear hb)
        (try clear hb2)
        (try clear hk)
        (try clear hi)
        (try clear ho0)
        obtain ⟨Ao52, co52, eo52⟩ := Kd.N_slice HO220.out
        (first | subst eo52 | (injection eo52 with f1_ f2_ f3_; have f4_ := f1_.symm; have f5_ := f3_.symm; clear f1_ f2_ f3_; subst f4_; subst f5_))
        refine hK.out _ _ ⟨(blk_cell BK195.out 0).trans rfl, (blk_cell BK195.out 1).trans rfl, (blk_cell BK195.out 2).trans rfl, (blk_cell BK195.out 3).trans rfl, (blk_cell BK182.out 0).trans rfl, (blk_cell BK182.out 1).trans rfl, (blk_cell BK182.out 2).trans rfl, (blk_cell BK182.out 3).trans rfl, HS8_⟩ (fun hHeld => ?_)
        clear hK K
        refine norm_ (a' := ?_) ?_ ?_
        rotate_left
        ·show Act.put _ (some 42) _ = _
         simp only [Act.put, List.setIfInBounds_toArray, List.set_cons_zero, List.set_cons_succ, i64_w, i32_w]
         rfl
        refine one_ (i := 32) (N := some 44) #[true, true, true, true, true, true, true, true, true, true, true, true, true, true, true, true, true, true, true, true, true, true, true, true, true, true, true, true, true, true, true, true, true, false, false] rfl rfl (one_of HT_.out (by kernel_rfl)) (by decide) (fun K hK => ?_)
        refine goes_ Tryd.func13 (by kernel_rfl) rfl #[.agg #[.int .i64 t215, .string t216, .string t217, .slice Ao52 t218.length co52], .agg #[.int .i64 t176, .string t177, .string t178, .slice Ao25 t179.length co25]] (by rfl) rfl rfl (by (try simp only [List.map_toArray, List.map_cons, List.map_nil]); first | done | rfl | (simp only [List.length_drop, List.length_take]; rfl)) ?_
        with_reducible refine (scarfref05_Same.calls k t215 t216 t217 _ _ t218 t176 t177 t178 _ _ t179 true _ ?side1 ?side2 ?side3 ?side4 A16.out).mono ?_
        (case side1 => repeat (first | exact (Kd.N_reads' HO220.out).2.2 | exact (Kd.V_reads' HO220.out).2.2 | (with_reducible refine Kd.C_alloc ?_ _) | (with_reducible refine Kd.C_drewN ?_ _) | (with_reducible refine Kd.C_drew ?_)))
        (case side2 => first | exact (Kd.N_reads' HO220.out).2.1 | exact (Kd.V_reads' HO220.out).2.1)
        (case side3 => repeat (first | exact (Kd.N_reads' HO181.out).2.2 | exact (Kd.V_reads' HO181.out).2.2 | (with_reducible refine Kd.C_alloc ?_ _) | (with_reducible refine Kd.C_drewN ?_ _) | (with_reducible refine Kd.C_drew ?_)))
        (case side4 => first | exact (Kd.N_reads' HO181.out).2.1 | exact (Kd.V_reads' HO181.out).2.1)
        rintro e w53 ⟨rfl, hb⟩
        have HS8_ := (hb.cell (World.block_lt_of_cell? _ _ (hHeld.2.2.2.2.2.2.2.2))).trans (hHeld.2.2.2.2.2.2.2.2)
        refine ⟨_, rfl, ?_⟩
        have n0_ := Aside0.mk (Kd.N_below (by (with_reducible repeat (first | apply Kd.N_alloc | apply Kd.N_drewN | apply Kd.N_drew)); exact HO169.out) hb)
        have n1_ := Aside0.mk (Kd.N_below (by (with_reducible repeat (first | apply Kd.N_alloc | apply Kd.N_drewN | apply Kd.N_drew)); exact HO175.out) hb)
        have n2_ := Aside0.mk (Kd.V_below (by (with_reducible repeat (first | apply Kd.V_alloc | apply Kd.V_drewN | apply Kd.V_drew)); exact HO181.out) hb)
        have n3_ := Aside0.mk (Kd.N_below (by (with_reducible repeat (first | apply Kd.N_alloc | apply Kd.N_drewN | apply Kd.N_drew)); exact HO185.out) hb)
        have n4_ := Aside0.mk (Kd.R_below (by (with_reducible repeat (first | apply Kd.R_alloc | apply Kd.R_drewN | apply Kd.R_drew)); exact HO188.out) hb)
        have n5_ := Aside0.mk (Kd.R_below (by (with_reducible repeat (first | apply Kd.R_alloc | apply Kd.R_drewN | apply Kd.R_drew)); exact HO191.out) hb)
        have n6_ := Aside0.mk (Kd.N_below (by (with_reducible repeat (first | apply Kd.N_alloc | apply Kd.N_drewN | apply Kd.N_drew)); exact HO194.out) hb)
        have n7_ := Aside0.mk (Kd.N_below (by (with_reducible repeat (first | apply Kd.N_alloc | apply Kd.N_drewN | apply Kd.N_drew)); exact HO198.out) hb)
        have n8_ := Aside0.mk (Kd.N_below (by (with_reducible repeat (first | apply Kd.N_alloc | apply Kd.N_drewN | apply Kd.N_drew)); exact HO201.out) hb)
        have n9_ := Aside0.mk (Kd.V_below (by (with_reducible repeat (first | apply Kd.V_alloc | apply Kd.V_drewN | apply Kd.V_drew)); exact HL210_0.out) hb)
        have n10_ := Aside0.mk (Kd.R_below (by (with_reducible repeat (first | apply Kd.R_alloc | apply Kd.R_drewN | apply Kd.R_drew)); exact HO204.out) hb)
        have n11_ := Aside0.mk (Kd.R_below (by (with_reducible repeat (first | apply Kd.R_alloc | apply Kd.R_drewN | apply Kd.R_drew)); exact HO208.out) hb)
        have n12_ := Aside0.mk (Kd.R_below (by (with_reducible repeat (first | apply Kd.R_alloc | apply Kd.R_drewN | apply Kd.R_drew)); exact HO213.out) hb)
        have n13_ := Aside0.mk (Kd.N_below (by (with_reducible repeat (first | apply Kd.N_alloc | apply Kd.N_drewN | apply Kd.N_drew)); exact HO220.out) hb)
        have n14_ := Aside0.mk (blk_below (g := gb182) (o := .cells #[.int .i64 t176, .string t177, .string t178, .slice Ao25 t179.length co25] 24 (0, 0)) (by (with_reducible repeat (first | refine blk_drewN ?_ _ | refine blk_drew ?_ | refine blk_alloc ?_ _)); exact BK182.out) hb)
        have n15_ := Aside0.mk (blk_below (g := gb195) (o := .cells #[.slice Ao28 t183.length co28, .slice Ao31 t186.length co31, .slice Ao32 t189.length co32, .slice Ao33 t192.length co33] 30 (0, 0)) (by (with_reducible repeat (first | refine blk_drewN ?_ _ | refine blk_drew ?_ | refine blk_alloc ?_ _)); exact BK195.out) hb)
        have n16_ := Aside0.mk (Kd.C_below (by repeat (first | (with_reducible exact HR210_0.out) | (with_reducible refine Kd.C_alloc ?_ _) | (with_reducible refine Kd.C_drewN ?_ _) | (with_reducible refine Kd.C_drew ?_) | exact HR210_0.out)) hb)
        have n17_ := Aside0.mk (below_step (by repeat (first | (with_reducible first | exact HB.out | apply below_alloc | apply pw_below_drewN | apply below_drew1 | refine below_set ?_ GE182.out | refine below_set ?_ GE195.out) | exact HB.out)) hb)
        clear HO169
        clear HO175
        clear HO181
        clear HO185
        clear HO188
        clear HO191
        clear HO194
        clear HO198
        clear HO201
        clear HL210_0
        clear HO204
        clear HO208
        clear HO213
        clear HO220
        clear BK182
        clear BK195
        clear HR210_0
        clear HB
        have HO169 := n0_
        have HO175 := n1_
        have HO181 := n2_
        have HO185 := n3_
        have HO188 := n4_
        have HO191 := n5_
        have HO194 := n6_
        have HO198 := n7_
        have HO201 := n8_
        have HL210_0 := n9_
        have HO204 := n10_
        have HO208 := n11_
        have HO213 := n12_
        have HO220 := n13_
        have BK182 := n14_
        have BK195 := n15_
        have HR210_0 := n16_
        have HB := n17_
        clear n0_ n1_ n2_ n3_ n4_ n5_ n6_ n7_ n8_ n9_ n10_ n11_ n12_ n13_ n14_ n15_ n16_ n17_
        (try clear hb)
        (try clear hb2)
        (try clear hk)
        (try clear hi)
        refine hK.out _ _ ⟨(blk_cell BK195.out 0).trans rfl, (blk_cell BK195.out 1).trans rfl, (blk_cell BK195.out 2).trans rfl, (blk_cell BK195.out 3).trans rfl, (blk_cell BK182.out 0).trans rfl, (blk_cell BK182.out 1).trans rfl, (blk_cell BK182.out 2).trans rfl, (blk_cell BK182.out 3).trans rfl, HS8_⟩ (fun hHeld => ?_)
        clear hK K
        refine norm_ (a' := ?_) ?_ ?_
        rotate_left
        ·show Act.put _ (some 44) _ = _
         simp only [Act.put, List.setIfInBounds_toArray, List.set_cons_zero, List.set_cons_succ, i64_w, i32_w]
         rfl
        refine pure_ (i := 33) (N := some 45) (v := ?_) (a' := ?_) #[true, true, true, true, true, true, true, true, true, true, true, true, true, true, true, true, true, true, true, true, true, true, true, true, true, true, true, true, true, true, true, true, true, true, false] rfl rfl (any_of HT_.out (by kernel_rfl)) (fun _ _ _ h => h) (Or.inl ⟨by rfl, ?_⟩) ?_ ?_
        rotate_left
        ·intro w'
         go_simp
         with_reducible rfl
        rotate_left
        ·simp only [Act.put, List.setIfInBounds_toArray, List.set_cons_zero, List.set_cons_succ, i64_w, i32_w]
         rfl
        refine pure_ (i := 34) (N := some 0) (v := ?_) (a' := ?_) #[true, true, true, true, true, true, true, true, true, true, true, true, true, true, true, true, true, true, true, true, true, true, true, true, true, true, true, true, true, true, true, true, true, true, true] rfl rfl (any_of HT_.out (by kernel_rfl)) (fun _ _ _ h => h) (Or.inl ⟨by rfl, ?_⟩) ?_ ?_
        rotate_left
        ·intro w'
         go_simp
         with_reducible rfl
        rotate_left
        ·simp only [Act.put, List.setIfInBounds_toArray, List.set_cons_zero, List.set_cons_succ, i64_w, i32_w]
         rfl
        refine done_ (done_of HT_.out (by kernel_rfl)) ?_
        try go_wp2
        go_ret
        exact ⟨by first | rfl | (simp [errW_none, errW_some] <;> rfl) | (simp [*, errW_none, errW_some] <;> rfl), by repeat (first | (with_reducible first | exact HB.out | apply below_alloc | apply pw_below_drewN | apply below_drew1 | refine below_set ?_ GE182.out | refine below_set ?_ GE195.out) | exact HB.out)⟩
       ·replace c17 := Bool.eq_false_iff.mpr c17
        subst c17
        have H1 : (some false) = some true := by first | with_reducible rfl | (rw [if_neg (show ¬ (false = true) by decide)] at H; exact H)
        clear H
        have H := H1
        clear H1
        exact absurd H (by simp)
      ·replace c14 := Bool.eq_false_iff.mpr c14
       subst c14
       have H1 : (some false) = some true := by first | with_reducible rfl | (rw [if_neg (show ¬ (false = true) by decide)] at H; exact H)
       clear H
       have H := H1
       clear H1
       exact absurd H (by simp)
     ·rw [if_neg c12] at H
      exact absurd H (by simp)
    ·rw [if_neg c11] at H
     have c11b0 : ((t199.length : Int) == 1) = false := beq_eq_false_iff_ne.mpr c11
     have c11b1 : ((t199.length : Int) != 1) = true := bne_iff_ne.mpr c11
     exact absurd H (by simp)
   ·replace c10 := Bool.eq_false_iff.mpr c10
    subst c10
    have H1 : (some false) = some true := by first | with_reducible rfl | (rw [if_neg (show ¬ (false = true) by decide)] at H; exact H)
    clear H
    have H := H1
    clear H1
    exact absurd H (by simp)
  ·replace c8 := Bool.eq_false_iff.mpr c8
   subst c8
   have H1 : (some false) = some true := by first | with_reducible rfl | (rw [if_neg (show ¬ (false = true) by decide)] at H; exact H)
   clear H
   have H := H1
   clear H1
   exact absurd H (by simp)
 ·rw [if_neg c6] at H
  have c6b0 : ((t183.length : Int) == 3) = false := beq_eq_false_iff_ne.mpr c6
  have c6b1 : ((t183.length : Int) != 3) = true := bne_iff_ne.mpr c6
  exact absurd H (by simp)

end Go.Proofs.YtfmlpkeaiohknaaDoor.Q
