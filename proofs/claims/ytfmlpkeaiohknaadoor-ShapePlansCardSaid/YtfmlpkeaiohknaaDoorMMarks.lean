-- Written by a program of this session (wip/gen_marks.py) for this claim; Lean checks it.
import Derived.Test.YtfmlpkeaiohknaaDoorMMk0
import Derived.Carry
import Derived.StringKeys
import Derived.Maps.OwnSet
import Derived.Maps.OwnOps
set_option linter.unusedVariables false
set_option linter.unusedSimpArgs false
namespace Go.Proofs.YtfmlpkeaiohknaaDoor.Q
open Go.RowKit Go.Maps Go.Proofs.YtfmlpkeaiohknaaDoorW.PrintWords Go.Proofs.YtfmlpkeaiohknaaDoorW.PrintLast Go.Proofs.YtfmlpkeaiohknaaDoorW.PrintMore Go.Proofs.YtfmlpkeaiohknaaDoorW.SL
attribute [local go_sem] max2_int min2_int max_two min_two max_three min_three max_four min_four
def marks.T13 : Bool × List (List Nat × List Nat) := (true, [([], []), ([0], [0]), ([1], [1]), ([], []), ([3], [3]), ([], []), ([5], [5]), ([2, 4, 6], [2, 4, 6]), ([7], [7]), ([], [])])
def marks.B13 : List Nat := [0, 1, 3, 0, 8, 0, 32, 127, 255, 0]
theorem marks.tab13 : rtab .any (opsOf Tryd.f15 13) = marks.T13 := by kernel_rfl
theorem marks.bits13 : waitsOk marks.T13.2 marks.B13 = true := by kernel_rfl
theorem below_of_grown {w w' : World} (h : w.grownBy w' none) : Below w.heap.size w w' := ⟨h.os, h.tape, h.output, h.size, fun k hk => h.block k hk (by simp)⟩
theorem St.forget {w0 w : World} {Z : Nat → Prop} {l : List Asr} (h : St w0 Z l w) : St w0 (fun _ => False) l w := by
  obtain ⟨f, hf, hd⟩ := h.hs
  exact ⟨h.below, fun _ h => h.elim, f, hf, fun k hk => ⟨(hd k hk).1, fun h => h⟩⟩
theorem St.row_new {w0 w w' : World} {Z : Nat → Prop} {l : List Asr} {v : Value} {e size n : Nat} {xs : List Value} (h : St w0 Z l w) (ho : w'.ownsRow 0 e size v n xs) (hg : w.grownBy w' none) (hat : ∃ b, v.ownBlock = some b ∧ w.heap.size ≤ b) : St w0 Z (row v e size n xs :: l) w' ∧ Same w0 Z w w' := by
  obtain ⟨b, hb, hle⟩ := hat
  exact h.more (below_of_grown hg) (a := row v e size n xs) (f := fun k => v.ownBlock = some k) ⟨fun _ => Iff.rfl, ho⟩ (fun k hk => by rw [hb] at hk; injection hk with hk; omega)
/-- The keys that the first j trees have laid, their numbers. -/
def roughTo (l : List S24) (j : Nat) : List (List Int) := rough (l.take j) []
def keysTo (l : List S24) (j : Nat) : List (List UInt8) := roughK (l.take j) []
theorem rough_app : ∀ (l m : List S24) (ks : List (List UInt8)), rough (l ++ m) ks = rough l ks ++ rough m (roughK l ks)
  | [], m, ks => rfl
  | x :: r, m, ks => by simp only [List.cons_append, rough, roughK]; rw [rough_app r]
theorem roughK_app : ∀ (l m : List S24) (ks : List (List UInt8)), roughK (l ++ m) ks = roughK m (roughK l ks)
  | [], m, ks => rfl
  | x :: r, m, ks => by simp only [List.cons_append, roughK]; rw [roughK_app r]
theorem rough_len : ∀ (l : List S24) (ks : List (List UInt8)), (rough l ks).length = l.length
  | [], ks => rfl
  | x :: r, ks => by simp only [rough, List.length_cons]; rw [rough_len r]
theorem front_perm {α : Type} : ∀ {l : List α} {i : Nat} {a : α}, l[i]? = some a → l.Perm (a :: l.eraseIdx i)
  | [], _, _, h => by simp at h
  | b :: r, 0, a, h => by simp at h; subst h; exact List.Perm.refl _
  | b :: r, i + 1, a, h => by
    have h1 := front_perm (l := r) (i := i) (a := a) (by simpa using h)
    exact (List.Perm.cons b h1).trans (List.Perm.swap a b _)
theorem St.front {w0 w : World} {Z : Nat → Prop} {l : List Asr} {i : Nat} {a : Asr} (h : St w0 Z l w) (hi : l[i]? = some a) : St w0 Z (a :: l.eraseIdx i) w := h.perm (front_perm hi)
theorem Hs.snoc {w : World} {a : Asr} : ∀ {L : List Asr} {f1 f2 : Nat → Prop}, Hs L w f1 → a.F w f2 → (∀ k, f1 k → ¬ f2 k) → Hs (L ++ [a]) w (fun k => f1 k ∨ f2 k)
  | [], f1, f2, h, ha, hd => ⟨f2, fun _ => False, fun k => by have := h k; simp [this], fun k _ h => h.elim, ha, fun k h => h⟩
  | b :: r, f1, f2, ⟨g1, g2, he, hdd, hb, hr⟩, ha, hd => by
    refine ⟨g1, fun k => g2 k ∨ f2 k, fun k => ⟨fun h => ?_, fun h => ?_⟩, fun k h1 h => ?_, hb, Hs.snoc hr ha (fun k h => hd k ((he k).2 (.inr h)))⟩
    · rcases h with h | h
      · rcases (he k).1 h with h | h
        · exact .inl h
        · exact .inr (.inl h)
      · exact .inr (.inr h)
    · rcases h with h | h | h
      · exact .inl ((he k).2 (.inl h))
      · exact .inl ((he k).2 (.inr h))
      · exact .inr h
    · rcases h with h | h
      · exact hdd k h1 h
      · exact hd k ((he k).2 (.inl h1)) h
theorem St.into {w0 w : World} {Z : Nat → Prop} {l L : List Asr} {a : Asr} (h : St w0 Z (a :: grp L :: l) w) : St w0 Z (grp (L ++ [a]) :: l) w := by
  obtain ⟨f, ⟨f1, f2, he, hd, ha, f3, f4, he2, hd2, hL, hl⟩, hz⟩ := h.hs
  refine ⟨h.below, h.zlt, f, ⟨fun k => f3 k ∨ f1 k, f4, fun k => ⟨fun h => ?_, fun h => ?_⟩, fun k h h4 => ?_, Hs.snoc hL ha (fun k h3 h1 => hd k h1 ((he2 k).2 (.inl h3))), hl⟩, hz⟩
  · rcases (he k).1 h with h | h
    · exact .inl (.inr h)
    · rcases (he2 k).1 h with h | h
      · exact .inl (.inl h)
      · exact .inr h
  · rcases h with (h | h) | h
    · exact (he k).2 (.inr ((he2 k).2 (.inl h)))
    · exact (he k).2 (.inl h)
    · exact (he k).2 (.inr ((he2 k).2 (.inr h)))
  · rcases h with h | h
    · exact hd2 k h h4
    · exact hd k h ((he2 k).2 (.inr h4))
theorem app_list {P : Program} {ops : Array Oper} {o : Oper} {rest : List Oper} {a : Act} {Q : Exit → Act → World → Prop} {W : World} (hgd : o.guard = none) (s x : Operand) (t e : TypeId) (z : Value) (size bytes : Nat)
    (ho : o.op = .call { callee := .builtin .append, args := #[s, x], argTypes := #[t, t] })
    (ht : P.underlying t = some (.slice e)) (hinfo : (P.info? e).map (fun i => (i.zero, i.size, i.bytes)) = some (some z, size, bytes)) (hz : z.cells.size = size) (hs0 : 0 < size) (hb0 : 0 < bytes)
    (v u : Value) (n : Nat) (xs ys : List Value) (hs : a.eval s = v) (hx : a.eval x = u) (h1 : ∀ u ∈ ys, u.oneCell' = true)
    (HO : W.ownsRow 0 e size v n xs) (HX : W.ownsRow 0 e size u 1 ys) (hl : (n + 1) * bytes ≤ 140737488355328)
    (h : ∀ v1 w1, w1.ownsRow 0 e size v1 (n + 1) (xs ++ ys) → W.grownBy w1 v.ownBlock → (v1.ownBlock = v.ownBlock ∨ ∃ b, v1.ownBlock = some b ∧ W.heap.size ≤ b) → wpList P ops Q rest (a.put o.dst v1) w1) : wpList P ops Q (o :: rest) a W := by
  refine wpList_plain hgd fun K hK => ?_
  have hw : Region.wanted o (yielded ops a.tmps) = true := by simp [Region.wanted, hgd]
  have h2 := app_step (K := K) (Q := Q) hw s x t e z size bytes ho ht hinfo hz hs0 hb0 v u n xs ys hs hx h1 HO HX hl (fun v1 w1 a b c => hK _ _ (h v1 w1 a b c))
  rwa [if_pos hw] at h2
theorem size_list (s : ByteArray) : s.data.toList.length = s.size := by rw [Array.length_toList]; rfl
theorem keyed9 : Keyed Tryd.prog 9 := string_keyed Tryd.underlying9
theorem keyed3 : Keyed Tryd.prog 3 := int_keyed Tryd.underlying3
theorem zero3 (w : World) : (zeroValue 3).run Tryd.prog w = .ok (.int .i64 0) w := by kernel_rfl
theorem tail_cat (v : Int) : ((⟨#[44]⟩ : ByteArray) ++ (⟨(Lib.itoa v).toArray⟩ : ByteArray)).data.toList = 44 :: Lib.itoa v := by
  simp only [ByteArray.data_append, Array.toList_append]; rfl
theorem bld_below {b : Nat} {l : List UInt8} {w w' : World} (h : Bld b l w) (hb : Below w.heap.size w w') : Bld b l w' := by
  have hg : w.grownBy w' none := ⟨hb.os, hb.tape, hb.output, hb.size, fun k hk _ => hb.block k hk⟩
  have key : ∀ p, Lib.BuilderAtF 50 5 b b p (Lib.byteCells l) w → Lib.BuilderAtF 50 5 b b p (Lib.byteCells l) w' := by
    rintro p h
    have hlt := h.lt
    obtain ⟨h1, v, h2, h3, h4⟩ := h
    exact ⟨h1, v, (hb.block b hlt).trans h2, h3.kept hg (by cases hv : v.ownBlock <;> simp), h4⟩
  exact h.elim (fun x => .inl (key _ x)) (fun x => .inr (key _ x))
theorem piece_len (s : List UInt8) (h : s.length ≤ 1000000000) : (piece s).length ≤ 1000000021 := by
  have := itoa_len s.length (by omega) (by omega)
  simp only [piece, List.length_append, List.length_cons, List.length_nil]; omega
theorem below_lo {a b : Nat} {w w' : World} (h : Below b w w') (hab : a ≤ b) : Below a w w' := ⟨h.os, h.tape, h.output, h.size, fun k hk => h.block k (Nat.lt_of_lt_of_le hk hab)⟩
theorem piece_cat (s : ByteArray) : ((⟨(Lib.itoa (s.size : Int)).toArray⟩ : ByteArray) ++ (⟨#[58]⟩ : ByteArray) ++ s).data.toList = piece s.data.toList := by
  simp only [ByteArray.data_append, Array.toList_append, piece, size_list]
def seenAll : List (List Int) → List Int → List Int
  | [], ks => ks
  | o :: r, ks => seenAll r (seen o ks)
theorem renums_app : ∀ (l m : List (List Int)) (ks : List Int), renums (l ++ m) ks = renums l ks ++ renums m (seenAll l ks)
  | [], m, ks => rfl
  | x :: r, m, ks => by simp only [List.cons_append, renums, seenAll]; rw [renums_app r]
theorem seenAll_app : ∀ (l m : List (List Int)) (ks : List Int), seenAll (l ++ m) ks = seenAll m (seenAll l ks)
  | [], m, ks => rfl
  | x :: r, m, ks => by simp only [List.cons_append, seenAll]; rw [seenAll_app r]
theorem renums_len : ∀ (l : List (List Int)) (ks : List Int), (renums l ks).length = l.length
  | [], ks => rfl
  | x :: r, ks => by simp only [renums, List.length_cons]; rw [renums_len r]
theorem renum_app : ∀ (l m ks : List Int), renum (l ++ m) ks = renum l ks ++ renum m (seen l ks)
  | [], m, ks => rfl
  | x :: r, m, ks => by simp only [List.cons_append, renum, seen]; rw [renum_app r]
theorem seen_app : ∀ (l m ks : List Int), seen (l ++ m) ks = seen m (seen l ks)
  | [], m, ks => rfl
  | x :: r, m, ks => by simp only [List.cons_append, seen]; rw [seen_app r]
theorem renum_len : ∀ (l ks : List Int), (renum l ks).length = l.length
  | [], ks => rfl
  | x :: r, ks => by simp only [renum, List.length_cons]; rw [renum_len r]
theorem oc_set (o ks : List Int) (p : Nat) (v : Int) (h : p < o.length) : (renum (o.take p) ks ++ o.drop p).set p v = (renum (o.take p) ks ++ [v]) ++ o.drop (p + 1) := by
  have hl : (renum (o.take p) ks).length = p := by rw [renum_len, List.length_take]; omega
  rw [List.set_append_right _ _ (by omega), hl, Nat.sub_self, List.drop_eq_getElem_cons h, List.set_cons_zero]
  simp
theorem inn_put {us : List Value} {pre post : List (List Int)} {oc oc' : List Int} {q : Nat} {uo : Value} (hu : us[q]? = some uo) (hp : pre.length = q) (hl : us.length = (pre ++ oc :: post).length) :
    (inn us (pre ++ oc :: post)).set q (row uo 3 1 oc'.length (ints oc')) = inn us (pre ++ oc' :: post) := by
  rw [← inn_set uo oc' hl]
  congr 1
  · obtain ⟨h1, h2⟩ := List.getElem?_eq_some_iff.1 hu
    rw [← h2]; exact List.set_getElem_self h1
  · rw [List.set_append_right _ _ (by omega), hp, Nat.sub_self, List.set_cons_zero]
def LS (x : List UInt8) : Lit := .string x
def LI (x : Int) : Lit := .int .i64 x
set_option maxHeartbeats 16000000 in
set_option maxRecDepth 100000 in
theorem shape_Marks.calls (A0 : Option Addr) (c0 : Nat) (l0 : List (S24)) (r : List (List Int)) (w : World) (htab : TabOk w) (hr0 : Kd.C k24 w A0 l0.length l0) (hc0 : l0.length ≤ c0) (h : shape_Marks.f l0 = some r) :
  Calls Tryd.prog 15 #[.slice A0 l0.length c0] w fun e w' => ∃ v0_ : Value, e = .returned (v0_) ∧ Kd.S (Kd.slice 3 (Kd.int .i64)) 27 w' w.heap.size (fun _ => True) v0_ r ∧ Below w.heap.size w w' := by
 unfold shape_Marks.f at h
 by_cases hok : (decide (l0.length ≤ 1000) && l0.all okT) = true
 case neg => rw [if_neg hok] at h; cases h
 rw [if_pos hok] at h
 injection h with h
 subst h
 simp only [Bool.and_eq_true, decide_eq_true_eq, List.all_eq_true] at hok
 obtain ⟨hln, hall⟩ := hok
 have hmm := @run_makeMap Tryd.prog
 have hu24 := Tryd.underlying24
 have hu30 := Tryd.underlying30
 have S0 := (St.map_new (St.start w) 9).1
 have S0 := S0.row_nil 27 1
 have S0 : St w (fun _ => False) [mp 9 w.heap.size 0 (.map []), row (.slice none 0 0) 27 1 0 [], grp []] (w.alloc (.map #[] 0)) := by
  obtain ⟨f, hf, hd⟩ := S0.hs
  have : St w (fun _ => False) (grp [] :: [row (.slice none 0 0) 27 1 0 [], mp 9 w.heap.size 0 (.map [])]) (w.alloc (.map #[] 0)) := ⟨S0.below, S0.zlt, f, ⟨fun _ => False, f, fun k => by simp, fun k h1 => h1.elim, fun k h1 => h1, hf⟩, hd⟩
  exact this.perm (List.Perm.of_eq rfl |>.trans (List.reverse_perm [mp 9 w.heap.size 0 (.map []), row (.slice none 0 0) 27 1 0 [], grp []]))
 have hN0 : Numb LS (.map []) ([] : List (List UInt8)) := Numb.nil LS
 go_enter Tryd.func15, Tryd.ntmps15
 go_wp2
 go_loopg [28, 4] l0.length (fun kq v28 v4 w'' => ∃ (jj : Int) (j : Nat) (us : List Value) (D : DataW Unit), v28 = .int .i64 jj ∧ Aside0 (jj = (j : Int)) ∧ j ≤ l0.length ∧ kq = l0.length - j ∧ St w (fun _ => False) [mp 9 w.heap.size (keysTo l0 j).length D, row v4 27 1 j us, grp (inn us (roughTo l0 j))] w'' ∧ us.length = j ∧ Numb LS D (keysTo l0 j) ∧ (keysTo l0 j).length ≤ j * 1000000 ∧ (∀ o ∈ roughTo l0 j, o.length ≤ 1000000 ∧ ∀ x ∈ o, 0 ≤ x ∧ x ≤ 2000000000))
 case atStart => exact ⟨0, 0, [], _, rfl, ⟨rfl⟩, Nat.zero_le _, rfl, S0, rfl, hN0, Nat.le_refl _, fun o ho => by cases ho⟩
 case round =>
  clear S0 hN0
  obtain ⟨jj, j, us, D, rfl, hjj, hj, hgk, S, hus, hN, hks, hrb⟩ := hrel
  by_cases hjl : jj < (l0.length : Int)
  · have hjb := decide_eq_true hjl
    have p0 : 0 ≤ jj := by have := hjj.out; omega
    have hjn : j < l0.length := by have := hjj.out; omega
    obtain ⟨ad, cs, eA, hcl, hK, hcc⟩ := Kd.C_get (Kd.C_below hr0 S.below) z24 jj p0 hjl
    subst eA
    obtain ⟨kx, hkx⟩ : ∃ kx, kx = l0.getD jj.toNat z24 := ⟨_, rfl⟩
    rw [← hkx] at hK
    have hkl : l0[j]? = some kx := by rw [hkx, hjj.out]; simp [List.getD_eq_getElem?_getD, List.getElem?_eq_getElem hjn]
    obtain ⟨A3, c3, rfl, hl3, hC3⟩ := k24_open hK
    have hx0 : wr.cell? (ad.add (jj.toNat * 4)) = some (.int .i64 kx.f0) := hcc 0 _ rfl
    have hx1 : wr.cell? ⟨(ad.add (jj.toNat * 4)).block, (ad.add (jj.toNat * 4)).off + 1, none⟩ = some (.string kx.f1) := by rw [← add_field _ _ 1 (by omega)]; exact hcc 1 _ rfl
    have hx2 : wr.cell? ⟨(ad.add (jj.toNat * 4)).block, (ad.add (jj.toNat * 4)).off + 2, none⟩ = some (.string kx.f2) := by rw [← add_field _ _ 2 (by omega)]; exact hcc 2 _ rfl
    have hx3 : wr.cell? ⟨(ad.add (jj.toNat * 4)).block, (ad.add (jj.toNat * 4)).off + 3, none⟩ = some (.slice A3 kx.f3.length c3) := by rw [← add_field _ _ 3 (by omega)]; exact hcc 3 _ rfl
    have hkm : kx ∈ l0 := List.mem_of_getElem? hkl
    have hkt := hall kx hkm
    have htk : l0.take (j + 1) = l0.take j ++ [kx] := by rw [List.take_succ_eq_append_getElem hjn]; congr 1; simpa [List.getElem?_eq_getElem hjn] using hkl
    replace p0 := eq_true p0
    replace hjl := eq_true hjl
    clear hcc hcl hK hkx
    simp only [okT, Bool.and_eq_true, decide_eq_true_eq, List.all_eq_true] at hkt
    obtain ⟨hsz, hno⟩ := hkt
    have hOf : shape_Of.f kx.f0 kx.f1 kx.f2 kx.f3 = some ((ofP kx).N, (ofP kx).P, (ofP kx).Z, (ofP kx).K) := by cases kx; exact if_pos hsz
    have hnl : (ofP kx).N.length = nsz kx := by unfold ofP; rw [addN_len]; simp
    have hKI := ofP_kids kx
    have hnp : 0 < nsz kx := by cases kx; simp only [nsz]; omega
    generalize hP0 : ofP kx = P0 at hOf hnl hno hKI
    have hn1 : 0 < P0.N.length := by omega
    have hn2 : P0.N.length ≤ 1000000 := by omega
    have hKl : ∀ l ∈ P0.K, l.length ≤ 1000000 := by
      intro l hl
      have h1_ := addN_sum kx (-1) ⟨[], [], [], []⟩
      rw [show addN kx (-1) ⟨[], [], [], []⟩ = P0 from hP0] at h1_
      obtain ⟨i_, hi_⟩ := List.getElem?_of_mem hl
      have h2_ := sumK_mem hi_
      simp [sumK] at h1_
      unfold sumK at h2_
      omega
    clear hnl hnp
    go_wp2_with (first | ((with_reducible refine gate_callee (f := 10) rfl ?_); refine goesL_ (some 33) rfl rfl Tryd.func10 (by kernel_rfl) rfl #[.agg #[.int .i64 kx.f0, .string kx.f1, .string kx.f2, .slice A3 kx.f3.length c3]] rfl (by (try simp only [List.map_toArray, List.map_cons, List.map_nil]); first | done | rfl) ?_; have S1 := (S.keep (below_alloc (Below.refl wr.heap.size wr) (.cells #[.int .i64 kx.f0, .string kx.f1, .string kx.f2, .slice A3 kx.f3.length c3] 24))).1; refine (shape_Of.calls kx.f0 kx.f1 kx.f2 A3 c3 kx.f3 _ _ _ _ _ (Kd.C_alloc hC3 _) hl3 hOf).mono ?_; rintro e w10 ⟨v0, v1, v2, v3, rfl, hvN, hvP, hvZ, hvK, hb10⟩; refine ⟨_, rfl, ?_⟩; obtain ⟨An, cn, rfl⟩ := Kd.N_slice hvN; obtain ⟨Ap, cp, rfl⟩ := Kd.R_slice hvP; obtain ⟨Az, cz, rfl⟩ := Kd.R_slice hvZ; obtain ⟨Ak, ck, rfl⟩ := Kd.S_slice hvK; obtain ⟨Z2, S2, hFN, hFK⟩ : ∃ Z2 : Nat → Prop, St w Z2 [mp 9 w.heap.size (keysTo l0 j).length D, row u4 27 1 j us, grp (inn us (roughTo l0 j))] w10 ∧ Kd.F k24 w10 Z2 An P0.N.length P0.N ∧ Kd.F (Kd.slice 3 (Kd.int .i64)) w10 Z2 Ak P0.K.length P0.K := ⟨_, S1.freeze hb10, Kd.F_mono (Kd.F_bound (Kd.N_F hvN)) (fun k hk => .inr ⟨hk.1.1, hk.2⟩), Kd.F_mono (Kd.F_bound (Kd.S_F hvK)) (fun k hk => .inr ⟨hk.1.1, hk.2⟩)⟩; clear S1 hvN hvP hvZ hvK hx0 hx1 hx2 hx3 hC3) | ((with_reducible refine gate_dst (N := 37) rfl ?_); have S3 := (S2.blk_new #[.slice An P0.N.length cn, .slice Ap P0.P.length cp, .slice Az P0.Z.length cz, .slice Ak P0.K.length ck] 30).1; refine Kd.R_make (Kd.int .i64) (w0 := w) w.heap.size 3 rfl rfl 27 (.tmp 36) (.tmp 36) rfl (P0.N.length : Int) rfl rfl Tryd.underlying27 (.int .i64 0) 8 info3 rfl (by decide) (by decide) 0 (ok := fun _ => True) (okp := fun _ => False) rfl (fun _ h => h.elim) trivial (by omega) (by omega) S3.below (below_size S3.below) ?_; intro vo w12 hvo hb12 hg12 hat12; have S4 := (St.row_new S3 (own_weaken (Kd.own_of_R hvo) (Nat.zero_le _)) hg12 hat12).1; rw [List.length_replicate, Int.toNat_natCast] at S4; have hb13 := below_of_grown hg12; obtain ⟨gO, cO, eO, _⟩ := own_set (S4.at_row (i := 0) rfl) (k := 0) (by omega) undef; subst eO; have hFN := Kd.F_below (Kd.F_below hFN (below_alloc (Below.refl _ _) _)) hb13; have hFK := Kd.F_below (Kd.F_below hFK (below_alloc (Below.refl _ _) _)) hb13; clear hvo hb12 hg12 hat12 hb13 S3 S2))
    obtain ⟨adN, _, eN, _⟩ := Kd.F_get hFN z24 0 (by omega) (by omega)
    subst eN
    obtain ⟨adK, _, eK, _⟩ := Kd.F_get hFK [] 0 (by omega) (by have := hKI.1; omega)
    subst eK
    replace hgk := Aside0.mk hgk
    go_loopg [9] P0.N.length (fun kq v9 w'' => ∃ (ii : Int) (i : Nat) (D1 : DataW Unit) (own : List Int) (ks : List (List UInt8)), v9 = .int .i64 ii ∧ Aside0 (ii = (i : Int) - 1) ∧ i ≤ P0.N.length ∧ kq = i ∧ St w Z2 [row (.slice (some ⟨gO, 0, none⟩) P0.N.length cO) 3 1 P0.N.length (ints own), blk w10.heap.size 30 #[.slice (some adN) P0.N.length cn, .slice Ap P0.P.length cp, .slice Az P0.Z.length cz, .slice (some adK) P0.K.length ck], mp 9 w.heap.size ks.length D1, row u4 27 1 j us, grp (inn us (roughTo l0 j))] w'' ∧ Same w Z2 w12 w'' ∧ own.length = P0.N.length ∧ Numb LS D1 ks ∧ ks.length + i ≤ (j + 1) * 1000000 ∧ ownGo P0 i ks own = ownGo P0 P0.N.length (keysTo l0 j) (List.replicate P0.N.length 0) ∧ (∀ x ∈ own, 0 ≤ x ∧ x ≤ 2000000000))
    case atStart => exact ⟨_, P0.N.length, D, List.replicate P0.N.length 0, keysTo l0 j, rfl, ⟨by first | rfl | omega | (unfold wrap64; omega)⟩, Nat.le_refl _, rfl, S4, Same.refl _ _ _, by simp, hN, by rw [Nat.add_mul]; omega, rfl, fun x hx => by rw [List.eq_of_mem_replicate hx]; omega⟩
    case round =>
      clear S4
      obtain ⟨ii, i, D1, own, ks, rfl, hii, hi, hgk1, SS, hsm, hol, hN1, hkb, hgo, hob⟩ := hrel
      obtain ⟨wb, rfl⟩ : ∃ x, x = wr := ⟨_, rfl⟩
      by_cases hi0 : 0 ≤ ii
      · have hib := decide_eq_true hi0
        obtain ⟨i, rfl⟩ : ∃ i', i = i' + 1 := ⟨i - 1, by have := hii.out; omega⟩
        have hie : ii = (i : Int) := by have := hii.out; omega
        have hil : ii < (P0.N.length : Int) := by omega
        have hFNr := hsm.f hFN (fun k hk => .inl hk)
        have hFKr := hsm.f hFK (fun k hk => .inl hk)
        obtain ⟨ad, cs, eA, hcl, hFKx, hcc, _⟩ := Kd.F_get hFNr z24 ii hi0 hil
        injection eA with eA
        subst eA
        obtain ⟨nx, hnx⟩ : ∃ nx, nx = P0.N.getD ii.toNat z24 := ⟨_, rfl⟩
        rw [← hnx] at hFKx
        have hnm : nx ∈ P0.N := by
          have hl : i < P0.N.length := by omega
          rw [hnx, hie, Int.toNat_natCast, List.getD_eq_getElem?_getD, List.getElem?_eq_getElem hl]; exact List.getElem_mem hl
        have hnk := hno nx hnm
        simp only [okNode, Bool.and_eq_true, decide_eq_true_eq] at hnk
        obtain ⟨⟨⟨hk0, hk1⟩, hk2⟩, hk3⟩ := hnk
        obtain ⟨A4, c4, rfl, hl4, _⟩ := k24_openF hFKx
        have hy0 : wb.cell? (adN.add (ii.toNat * 4)) = some (.int .i64 nx.f0) := hcc 0 _ rfl
        have hy1 : wb.cell? ⟨(adN.add (ii.toNat * 4)).block, (adN.add (ii.toNat * 4)).off + 1, none⟩ = some (.string nx.f1) := by rw [← add_field _ _ 1 (by omega)]; exact hcc 1 _ rfl
        have hy2 : wb.cell? ⟨(adN.add (ii.toNat * 4)).block, (adN.add (ii.toNat * 4)).off + 2, none⟩ = some (.string nx.f2) := by rw [← add_field _ _ 2 (by omega)]; exact hcc 2 _ rfl
        have hy3 : wb.cell? ⟨(adN.add (ii.toNat * 4)).block, (adN.add (ii.toNat * 4)).off + 3, none⟩ = some (.slice A4 nx.f3.length c4) := by rw [← add_field _ _ 3 (by omega)]; exact hcc 3 _ rfl
        have hq0 : wb.cell? ⟨w10.heap.size, 0, none⟩ = some (.slice (some adN) P0.N.length cn) := (blk_cell (SS.at_blk (i := 1) rfl) 0).trans rfl
        have hq3 : wb.cell? ⟨w10.heap.size, 3, none⟩ = some (.slice (some adK) P0.K.length ck) := (blk_cell (SS.at_blk (i := 1) rfl) 3).trans rfl
        clear hcc hcl hFKx
        have ep0 := eq_true hi0
        have eq0 := eq_true hil
        replace hie := Aside0.mk hie
        replace hnx := Aside0.mk hnx
        go_wp2
        have hb13 : Below wb.heap.size wb ((wb.alloc (.cells #[.int .i64 nx.f0, .string nx.f1, .string nx.f2, .slice A4 nx.f3.length c4] 24)).alloc (.cells #[.pointer none, .slice none 0 0] 50)).drew := below_drew1 (below_alloc (below_alloc (Below.refl _ _) _) _)
        have hn13 : ((wb.alloc (.cells #[.int .i64 nx.f0, .string nx.f1, .string nx.f2, .slice A4 nx.f3.length c4] 24)).alloc (.cells #[.pointer none, .slice none 0 0] 50)).drew.heap[wb.heap.size]? = some (.cells #[.int .i64 nx.f0, .string nx.f1, .string nx.f2, .slice A4 nx.f3.length c4] 24 (0, 0)) := blk_drew (blk_alloc (blk_new wb _) _)
        have hB13 : Bld (wb.heap.size + 1) [] ((wb.alloc (.cells #[.int .i64 nx.f0, .string nx.f1, .string nx.f2, .slice A4 nx.f3.length c4] 24)).alloc (.cells #[.pointer none, .slice none 0 0] 50)).drew := by
          have h_ := Lib.IsBuilderF.of (Lib.fresh_isBuilder 50 5 (wb.alloc (.cells #[.int .i64 nx.f0, .string nx.f1, .string nx.f2, .slice A4 nx.f3.length c4] 24)))
          rw [show (wb.alloc (.cells #[.int .i64 nx.f0, .string nx.f1, .string nx.f2, .slice A4 nx.f3.length c4] 24)).heap.size = wb.heap.size + 1 from by simp] at h_
          exact h_
        have hs13 : ((wb.alloc (.cells #[.int .i64 nx.f0, .string nx.f1, .string nx.f2, .slice A4 nx.f3.length c4] 24)).alloc (.cells #[.pointer none, .slice none 0 0] 50)).drew.heap.size = wb.heap.size + 2 := by simp [World.drew]
        have ht13 : TabOk ((wb.alloc (.cells #[.int .i64 nx.f0, .string nx.f1, .string nx.f2, .slice A4 nx.f3.length c4] 24)).alloc (.cells #[.pointer none, .slice none 0 0] 50)).drew := tab_below htab (SS.below.trans ⟨hb13.os, hb13.tape, hb13.output, hb13.size, fun k hk => hb13.block k (Nat.lt_of_lt_of_le hk SS.below.size)⟩)
        have S13 : (Below ((wb.alloc (.cells #[.int .i64 nx.f0, .string nx.f1, .string nx.f2, .slice A4 nx.f3.length c4] 24)).alloc (.cells #[.pointer none, .slice none 0 0] 50)).drew.heap.size ((wb.alloc (.cells #[.int .i64 nx.f0, .string nx.f1, .string nx.f2, .slice A4 nx.f3.length c4] 24)).alloc (.cells #[.pointer none, .slice none 0 0] 50)).drew ((wb.alloc (.cells #[.int .i64 nx.f0, .string nx.f1, .string nx.f2, .slice A4 nx.f3.length c4] 24)).alloc (.cells #[.pointer none, .slice none 0 0] 50)).drew ∧ True) := ⟨Below.refl _ _, trivial⟩
        refine start_ (n := 10) (S := fun w' => True) (ds := []) #[false, false, false, false, false, false, false, false, false, false] (by kernel_rfl) rfl rfl trivial (fun hHeld => ?_)
        refine with_tabW marks.tab13 marks.bits13 (fun HT_ HW_ => ?_)
        generalize ((wb.alloc (.cells #[.int .i64 nx.f0, .string nx.f1, .string nx.f2, .slice A4 nx.f3.length c4] 24)).alloc (.cells #[.pointer none, .slice none 0 0] 50)).drew = w13 at S13 hHeld hb13 hn13 hB13 hs13 ht13 ⊢
        refine pure_ (i := 0) (N := some 50) (v := ?_) (a' := ?_) #[true, false, false, false, false, false, false, false, false, false] rfl rfl (any_of HT_.out (by kernel_rfl)) (fun _ _ _ h => h) (Or.inl ⟨by rfl, ?_⟩) ?_ ?_
        rotate_left
        · intro w'
          go_simp
          with_reducible rfl
        rotate_left
        · simp only [Act.put, List.setIfInBounds_toArray, List.set_cons_zero, List.set_cons_succ, i64_w, i32_w]
          rfl
        refine pure_ (i := 3) (N := some 53) (v := ?_) (a' := ?_) #[true, false, false, true, false, false, false, false, false, false] rfl rfl (any_of HT_.out (by kernel_rfl)) (fun _ _ _ h => h) (Or.inl ⟨by rfl, ?_⟩) ?_ ?_
        rotate_left
        · intro w'
          go_simp
          with_reducible rfl
        rotate_left
        · simp only [Act.put, List.setIfInBounds_toArray, List.set_cons_zero, List.set_cons_succ, i64_w, i32_w]
          rfl
        refine pure_ (i := 5) (N := some 55) (v := ?_) (a' := ?_) #[true, false, false, true, false, true, false, false, false, false] rfl rfl (any_of HT_.out (by kernel_rfl)) (fun _ _ _ h => h) (Or.inl ⟨by rfl, ?_⟩) ?_ ?_
        rotate_left
        · intro w'
          go_simp
          with_reducible rfl
        rotate_left
        · simp only [Act.put, List.setIfInBounds_toArray, List.set_cons_zero, List.set_cons_succ, i64_w, i32_w]
          rfl
        refine pure_ (i := 9) (N := some 59) (v := ?_) (a' := ?_) #[true, false, false, true, false, true, false, false, false, true] rfl rfl (any_of HT_.out (by kernel_rfl)) (fun _ _ _ h => h) (Or.inl ⟨by rfl, ?_⟩) ?_ ?_
        rotate_left
        · intro w'
          go_simp
          with_reducible rfl
        rotate_left
        · simp only [Act.put, List.setIfInBounds_toArray, List.set_cons_zero, List.set_cons_succ, i64_w, i32_w]
          rfl
        refine inv_at [1, 2, 4, 6, 7, 8] (fun a0_ b a w' => ∃ (tt : Value), a = putSel a0_ b [(1, 51, .int .i64 nx.f0), (2, 52, .string ⟨(Lib.itoa nx.f0).toArray⟩), (4, 54, .string nx.f1), (6, 56, .string nx.f2), (7, 57, tt), (8, 58, .int .i64 3)] ∧ ((Below w13.heap.size w13 w' ∧ (b 7 = true → ∃ gl, tt = .slice (some ⟨gl, 0, none⟩) 3 3 ∧ w13.heap.size ≤ gl ∧ w'.heap[gl]? = some (.cells #[.string ⟨(Lib.itoa nx.f0).toArray⟩, .string nx.f1, .string nx.f2] 9 (0, 0)))))) HT_.out HW_.out (by kernel_rfl) (by kernel_rfl) ?_ ?_ ?_
        · exact ⟨.bool false, by simp only [putSel, Bool.false_eq_true, if_false], ⟨S13.1, fun h_ => absurd h_ (by decide)⟩⟩
        · skip
          clear S
          refine steps_cons ?_ ?_
          · rintro b a w' ⟨tt, ha, Q_S⟩ hb_ hon hoff
            refine ⟨_, rfl, fun K hK => ?_⟩
            have e50 : a.tmps[50]? = some (.pointer (some ⟨wb.heap.size, 0, none⟩)) := by rw [ha]; exact (putSel_off rfl).trans rfl
            replace ha := Aside0.mk ha
            have S := Aside0.mk Q_S
            have hc_ : w'.cell? ⟨wb.heap.size, 0, none⟩ = some (.int .i64 nx.f0) := (blk_cell ((S.out.1.block _ (by omega)).trans hn13) 0).trans rfl
            refine value_ (w1 := w') (v := .int .i64 nx.f0) (by rfl) rfl ?_ ?_
            · go_simp
              (try simp only [i64_w])
              try rfl
            refine hK.out _ _ ⟨tt, (by rw [ha.out]; exact putSel_upk 0 hb_ rfl rfl rfl), Q_S⟩
          refine steps_cons ?_ ?_
          · rintro b a w' ⟨tt, ha, Q_S⟩ hb_ hon hoff
            refine ⟨_, rfl, fun K hK => ?_⟩
            have e51 : a.tmps[51]? = some (.int .i64 nx.f0) := by rw [ha]; exact putSel_on (e := (1, 51, .int .i64 nx.f0)) 0 rfl rfl (hon 1 (by kernel_rfl)) rfl
            replace ha := Aside0.mk ha
            have S := Aside0.mk Q_S
            refine goes_ Tryd.func25 (by kernel_rfl) rfl #[.int .i64 nx.f0] (by rfl) rfl rfl (by first | (simp only [List.map_toArray, List.map_cons, List.map_nil, Act.eval, Array.getD_eq_getD_getElem?, Option.getD_some, e51]; done) | (simp only [List.map_toArray, List.map_cons, List.map_nil, Act.eval, Array.getD_eq_getD_getElem?, Option.getD_some, e51]; rfl)) ?_
            refine (itoa_calls nx.f0 hk0 hk1 _ (tab_below ht13 S.out.1)).mono ?_
            rintro e w24 ⟨rfl, hb⟩
            refine ⟨_, rfl, ?_⟩
            have S3_ : Below w13.heap.size w13 w24 := below_step S.out.1 hb
            refine hK.out _ _ ⟨tt, (by rw [ha.out]; exact putSel_upk 1 hb_ rfl rfl rfl), ⟨S3_, fun h_ => absurd ((show b 7 = false from (hoff 7 (by kernel_rfl))).symm.trans h_) (by decide)⟩⟩
          refine steps_cons ?_ ?_
          · rintro b a w' ⟨tt, ha, Q_S⟩ hb_ hon hoff
            refine ⟨_, rfl, fun K hK => ?_⟩
            have e53 : a.tmps[53]? = some (.pointer (some ⟨wb.heap.size, 1, none⟩)) := by rw [ha]; exact (putSel_off rfl).trans rfl
            replace ha := Aside0.mk ha
            have S := Aside0.mk Q_S
            have hc_ : w'.cell? ⟨wb.heap.size, 1, none⟩ = some (.string nx.f1) := (blk_cell ((S.out.1.block _ (by omega)).trans hn13) 1).trans rfl
            refine value_ (w1 := w') (v := .string nx.f1) (by rfl) rfl ?_ ?_
            · go_simp
              (try simp only [i64_w])
              try rfl
            refine hK.out _ _ ⟨tt, (by rw [ha.out]; exact putSel_upk 2 hb_ rfl rfl rfl), Q_S⟩
          refine steps_cons ?_ ?_
          · rintro b a w' ⟨tt, ha, Q_S⟩ hb_ hon hoff
            refine ⟨_, rfl, fun K hK => ?_⟩
            have e55 : a.tmps[55]? = some (.pointer (some ⟨wb.heap.size, 2, none⟩)) := by rw [ha]; exact (putSel_off rfl).trans rfl
            replace ha := Aside0.mk ha
            have S := Aside0.mk Q_S
            have hc_ : w'.cell? ⟨wb.heap.size, 2, none⟩ = some (.string nx.f2) := (blk_cell ((S.out.1.block _ (by omega)).trans hn13) 2).trans rfl
            refine value_ (w1 := w') (v := .string nx.f2) (by rfl) rfl ?_ ?_
            · go_simp
              (try simp only [i64_w])
              try rfl
            refine hK.out _ _ ⟨tt, (by rw [ha.out]; exact putSel_upk 3 hb_ rfl rfl rfl), Q_S⟩
          refine steps_cons ?_ ?_
          · rintro b a w' ⟨tt, ha, Q_S⟩ hb_ hon hoff
            refine ⟨_, rfl, fun K hK => ?_⟩
            have e52 : a.tmps[52]? = some (.string ⟨(Lib.itoa nx.f0).toArray⟩) := by rw [ha]; exact putSel_on (e := (2, 52, .string ⟨(Lib.itoa nx.f0).toArray⟩)) 1 rfl rfl (hon 2 (by kernel_rfl)) rfl
            have e54 : a.tmps[54]? = some (.string nx.f1) := by rw [ha]; exact putSel_on (e := (4, 54, .string nx.f1)) 2 rfl rfl (hon 4 (by kernel_rfl)) rfl
            have e56 : a.tmps[56]? = some (.string nx.f2) := by rw [ha]; exact putSel_on (e := (6, 56, .string nx.f2)) 3 rfl rfl (hon 6 (by kernel_rfl)) rfl
            replace ha := Aside0.mk ha
            have S := Aside0.mk Q_S
            refine value_ (w1 := w'.alloc (.cells #[.string ⟨(Lib.itoa nx.f0).toArray⟩, .string nx.f1, .string nx.f2] 9)) (v := .slice (some ⟨w'.heap.size, 0, none⟩) 3 3) (by rfl) rfl ?_ ?_
            · go_simp
              try rfl
            refine hK.out _ _ ⟨(.slice (some ⟨w'.heap.size, 0, none⟩) 3 3), (by rw [ha.out]; exact putSel_upk 4 hb_ rfl rfl rfl), ⟨below_alloc S.out.1 _, fun _ => ⟨w'.heap.size, rfl, below_size S.out.1, blk_new w' _⟩⟩⟩
          refine steps_cons ?_ ?_
          · rintro b a w' ⟨tt, ha, Q_S⟩ hb_ hon hoff
            refine ⟨_, rfl, fun K hK => ?_⟩
            have e57 : a.tmps[57]? = some (tt) := by rw [ha]; exact putSel_on (e := (7, 57, tt)) 4 rfl rfl (hon 7 (by kernel_rfl)) rfl
            replace ha := Aside0.mk ha
            have S := Aside0.mk Q_S
            obtain ⟨gl_, et_, _, _⟩ := S.out.2 (hon 7 (by kernel_rfl))
            rw [et_] at e57
            refine value_ (w1 := w') (v := .int .i64 3) (by rfl) rfl ?_ ?_
            · go_simp
              (try simp only [i64_w])
              try rfl
            refine hK.out _ _ ⟨tt, (by rw [ha.out]; exact putSel_upk 5 hb_ rfl rfl rfl), Q_S⟩
          exact steps_nil
        · rintro b a w' hall ⟨tt, ha, Q_S⟩
          clear S
          have hb1_ := hall 1 (by kernel_rfl)
          have hb2_ := hall 2 (by kernel_rfl)
          have hb4_ := hall 4 (by kernel_rfl)
          have hb6_ := hall 6 (by kernel_rfl)
          have hb7_ := hall 7 (by kernel_rfl)
          have hb8_ := hall 8 (by kernel_rfl)
          subst ha
          simp only [putSel, hb1_, hb2_, hb4_, hb6_, hb7_, hb8_, if_true, Act.put, List.setIfInBounds_toArray, List.set_cons_zero, List.set_cons_succ]
          have S := Aside0.mk Q_S
          clear Q_S
          obtain ⟨hb14, hx14⟩ := S.out; obtain ⟨gl, etl, hgl, hlit⟩ := hx14 hb7_
          clear hall hb1_ hb2_ hb4_ hb6_ hb7_ hb8_
          subst etl
          clear S S13 hx14 hn13
          have htb : TabOk wb := tab_below htab ⟨SS.below.os, SS.below.tape, SS.below.output, SS.below.size, fun k hk => SS.below.block k hk⟩
          have hbw : Below wb.heap.size wb w' := below_step hb13 hb14
          have hBw : Bld (wb.heap.size + 1) [] w' := bld_below hB13 hb14
          have hsz : wb.heap.size + 2 ≤ w'.heap.size := by have := hb14.size; omega
          have hgl2 : wb.heap.size + 2 ≤ gl := by omega
          clear hb14 hb13 hB13 ht13 hs13 hy0 hy1 hy2 hy3 hgl
          have hq3w : w'.cell? ⟨w10.heap.size, 3, none⟩ = some (.slice (some adK) P0.K.length ck) := (hbw.cell (World.block_lt_of_cell? _ _ hq3)).trans hq3
          obtain ⟨strs, hstrs⟩ : ∃ strs : List ByteArray, strs = [⟨(Lib.itoa nx.f0).toArray⟩, nx.f1, nx.f2] := ⟨_, rfl⟩
          have hstl : strs.length = 3 := by rw [hstrs]; rfl
          have hsts : ∀ s ∈ strs, s.data.toList.length ≤ 1000000000 := by
            have := itoa_len nx.f0 hk0 hk1
            rw [hstrs]
            intro s hs
            simp only [List.mem_cons, List.not_mem_nil, or_false] at hs
            rcases hs with rfl | rfl | rfl
            · simp; omega
            · rw [size_list]; exact hk2
            · rw [size_list]; exact hk3
          have hlit2 : w'.heap[gl]? = some (.cells (strs.map Value.string).toArray 9 (0, 0)) := by rw [hstrs]; exact hlit
          clear hlit
          replace hstrs := Aside0.mk hstrs
          go_wp2
          go_loopg [59] 3 (fun kq v59 w'' => ∃ (qn : Nat), v59 = .int .i64 (qn : Int) ∧ qn ≤ 3 ∧ kq = 3 - qn ∧ Below wb.heap.size wb w'' ∧ Bld (wb.heap.size + 1) ((strs.take qn).flatMap fun s => piece s.data.toList) w'' ∧ ((strs.take qn).flatMap fun s => piece s.data.toList).length ≤ qn * 1000000021 ∧ w''.heap[gl]? = some (.cells (strs.map Value.string).toArray 9 (0, 0)) ∧ wb.heap.size + 2 ≤ w''.heap.size)
          case atStart => exact ⟨0, rfl, by omega, rfl, hbw, hBw, by simp, hlit2, hsz⟩
          case round =>
            clear hbw hBw hsz hlit2 hq3w
            obtain ⟨qn, rfl, hqn, hgk4, hbw, hBw, hal, hlit, hsz⟩ := hrel
            by_cases hq : (qn : Int) < 3
            · have hqb := decide_eq_true hq
              have hqs : qn < strs.length := by omega
              obtain ⟨sq, hsq⟩ : ∃ sq, sq = strs[qn] := ⟨_, rfl⟩
              have hsl : sq.data.toList.length ≤ 1000000000 := hsts sq (by rw [hsq]; exact List.getElem_mem hqs)
              have hcz : wr.cell? ⟨gl, qn, none⟩ = some (.string sq) := (blk_cell hlit qn).trans (by simp [hsq, hqs])
              have hss : sq.size ≤ 1000000000 := by rw [← size_list]; exact hsl
              have hitl := itoa_len (sq.size : Int) (by omega) (by omega)
              have hpl := piece_len sq.data.toList hsl
              have hak : (strs.take (qn + 1)).flatMap (fun s => piece s.data.toList) = (strs.take qn).flatMap (fun s => piece s.data.toList) ++ piece sq.data.toList := by rw [List.take_succ_eq_append_getElem hqs, List.flatMap_append, ← hsq]; simp
              have hq0_ : (0 : Int) ≤ (qn : Int) := by omega
              replace hq := eq_true hq
              replace hq0_ := eq_true hq0_
              have hc1 : (9223372036854775807 < (Lib.itoa (sq.size : Int)).length + 1) = False := eq_false (by omega)
              have hc2 : (9223372036854775807 < (Lib.itoa (sq.size : Int)).length + 1 + sq.size) = False := eq_false (by omega)
              have hcat := Aside0.mk (piece_cat sq)
              replace hsq := Aside0.mk hsq
              replace hss := Aside0.mk hss
              go_wp2_with (first | ((with_reducible refine gate_callee (f := 25) rfl ?_); refine goesL_ (some 65) rfl rfl Tryd.func25 (by kernel_rfl) rfl #[.int .i64 (sq.size : Int)] rfl (by (try simp only [List.map_toArray, List.map_cons, List.map_nil]); first | done | rfl) ?_; refine (itoa_calls (sq.size : Int) (by omega) (by have := hss.out; omega) _ (tab_below htb hbw)).mono ?_; rintro e w24 ⟨rfl, hb24⟩; refine ⟨_, rfl, ?_⟩; have hBw2 := bld_below hBw hb24; have hbw2 := below_step hbw hb24; have hlit2 := (hb24.block gl (blk_lt hlit)).trans hlit) | ((with_reducible refine gate_callee (f := 26) rfl ?_); refine goesL_ (some 69) rfl rfl Tryd.func26 (by kernel_rfl) rfl #[.pointer (some ⟨wb.heap.size + 1, 0, none⟩), .string ((⟨(Lib.itoa (sq.size : Int)).toArray⟩ : ByteArray) ++ (⟨#[58]⟩ : ByteArray) ++ sq)] rfl (by (try simp only [List.map_toArray, List.map_cons, List.map_nil]); first | done | rfl) ?_; refine (ws_calls (wb.heap.size + 1) _ _ _ hBw2 (by have h1_ := hss.out; have h2_ := hqn; rw [← size_list, hcat.out]; omega) (by have := hb24.size; omega)).mono ?_; rintro e w26 ⟨rfl, hB3, hb3, hk3⟩; refine ⟨_, rfl, ?_⟩; rw [hcat.out, ← hak] at hB3; have hbw3 := hbw2.trans (below_lo hb3 (Nat.le_succ _)); have hlit3 := hk3 gl _ hlit2 (by intro h_; injection h_ with h_; omega) (by intro c_ fz_ h_; injection h_ with _ h2_; exact absurd h2_ (by decide)); have hsz3 : wb.heap.size + 2 ≤ w26.heap.size := by have := hb24.size; have := hb3.size; omega))
              go_roundg (3 - (qn + 1))
              case measure => omega
              case rel => exact ⟨qn + 1, by first | rfl | (simp [wrap64]; done) | (congr 1; unfold wrap64; omega), by have := of_eq_true hq; omega, rfl, hbw3, hB3, by rw [hak, List.length_append]; omega, hlit3, hsz3⟩
            · have hqb := decide_eq_false hq
              have hq3n : qn = 3 := by omega
              subst hq3n
              have hacc : (strs.take 3).flatMap (fun s => piece s.data.toList) = headK nx := by rw [hstrs.out]; simp [headK]
              rw [hacc] at hBw hal
              have hKin : ii < (P0.K.length : Int) := by have := hKI.1; omega
              obtain ⟨ad2, cs2, eA2, _, hFKk, hcc2, _⟩ := Kd.F_get hFKr [] ii hi0 hKin
              injection eA2 with eA2
              subst eA2
              obtain ⟨Ai, ci, rfl, hli, hFi⟩ := Kd.FK_slice_open hFKk
              obtain ⟨kl, hkl0⟩ : ∃ kl, kl = P0.K.getD ii.toNat [] := ⟨_, rfl⟩
              have hck0 := hcc2 0 _ rfl
              rw [← hkl0] at hck0 hFi hli
              have hck : wr.cell? (adK.add ii.toNat) = some (.slice Ai kl.length ci) := by
                have h1_ : wb.cell? (adK.add ii.toNat) = some (.slice Ai kl.length ci) := by
                  have h2_ : ii.toNat * (Kd.slice 3 (Kd.int .i64)).sz + 0 = ii.toNat := Nat.mul_one _
                  rw [h2_] at hck0
                  exact hck0
                exact (hbw.cell (World.block_lt_of_cell? _ _ h1_)).trans h1_
              have hqq3 : wr.cell? ⟨w10.heap.size, 3, none⟩ = some (.slice (some adK) P0.K.length ck) := (hbw.cell (World.block_lt_of_cell? _ _ hq3)).trans hq3
              have hklm : kl ∈ P0.K := by
                have hl : i < P0.K.length := by have := hKI.1; omega
                rw [hkl0, hie.out, Int.toNat_natCast, List.getD_eq_getElem?_getD, List.getElem?_eq_getElem hl]; exact List.getElem_mem hl
              have hkn := hKl kl hklm
              have hkin := hKI.2 kl hklm
              have hKe := eq_true hKin
              clear hcc2 hck0 hFKk hlit hqn hgk4 hq
              replace hkl0 := Aside0.mk hkl0
              replace hacc := Aside0.mk hacc
              go_wp2
              go_loopg [77] kl.length (fun kq v77 w'' => ∃ (qn : Nat), v77 = .int .i64 (qn : Int) ∧ qn ≤ kl.length ∧ kq = kl.length - qn ∧ Below wb.heap.size wb w'' ∧ Bld (wb.heap.size + 1) (headK nx ++ tailK ((kl.take qn).map fun k => own.getD k.toNat 0)) w'' ∧ (headK nx ++ tailK ((kl.take qn).map fun k => own.getD k.toNat 0)).length ≤ 3000000063 + qn * 21 ∧ wb.heap.size + 2 ≤ w''.heap.size)
              case atStart => exact ⟨0, rfl, Nat.zero_le _, rfl, hbw, by simpa [tailK] using hBw, by simp [tailK]; omega, hsz⟩
              case round =>
                clear hbw hBw hsz hal hck hqq3
                obtain ⟨qn, rfl, hqn, hgk6, hbw, hBw, hal, hsz⟩ := hrel
                by_cases hq : (qn : Int) < (kl.length : Int)
                · have hqb := decide_eq_true hq
                  have hqk : qn < kl.length := by omega
                  have hq0_ : (0 : Int) ≤ (qn : Int) := by omega
                  obtain ⟨adi, csi, eAi, _, hFx, hcx, _⟩ := Kd.F_get hFi 0 (qn : Int) hq0_ hq
                  subst eAi
                  have hkv : kl.getD (qn : Int).toNat 0 = kl[qn] := by simp [List.getD_eq_getElem?_getD, List.getElem?_eq_getElem hqk]
                  rw [hkv] at hFx
                  obtain ⟨kd, hkd⟩ : ∃ kd, kd = kl[qn] := ⟨_, rfl⟩
                  rw [← hkd] at hFx
                  have hkr := hkin kd (by rw [hkd]; exact List.getElem_mem hqk)
                  have hcs : csi = [.int .i64 kd] := Kd.FK_now hFx
                  subst hcs
                  have hcz : wr.cell? (adi.add qn) = some (.int .i64 kd) := by
                    have h1_ := hcx 0 _ rfl
                    have h2_ : (qn : Int).toNat * (Kd.int .i64).sz + 0 = qn := by show (qn : Int).toNat * 1 + 0 = qn; omega
                    rw [h2_] at h1_
                    exact (hbw.cell (World.block_lt_of_cell? _ _ h1_)).trans h1_
                  obtain ⟨ov, hov⟩ : ∃ ov, ov = own.getD kd.toNat 0 := ⟨_, rfl⟩
                  have hkd2 : kd.toNat < own.length := by omega
                  have hovr : 0 ≤ ov ∧ ov ≤ 2000000000 := hob ov (by rw [hov, List.getD_eq_getElem?_getD, List.getElem?_eq_getElem hkd2]; exact List.getElem_mem hkd2)
                  have hco : wr.cell? ⟨gO, kd.toNat, none⟩ = some (.int .i64 ov) := by
                    obtain ⟨_, _, ⟨t_, ht_, hc_⟩, _⟩ := own_set' (SS.at_row (i := 0) rfl) (k := kd.toNat) (by omega) undef
                    have ht2 : (ints own)[kd.toNat]? = some (.int .i64 ov) := by rw [hov]; simp [ints, List.getD_eq_getElem?_getD, List.getElem?_eq_getElem hkd2]
                    rw [Option.some.inj (ht_.symm.trans ht2)] at hc_
                    exact (hbw.cell (World.block_lt_of_cell? _ _ hc_)).trans hc_
                  have hil := itoa_len ov (by omega) (by omega)
                  have hc3 : (9223372036854775807 < 1 + (Lib.itoa ov).length) = False := eq_false (by omega)
                  have hcat := Aside0.mk (tail_cat ov)
                  have hak : headK nx ++ tailK ((kl.take (qn + 1)).map fun k => own.getD k.toNat 0) = (headK nx ++ tailK ((kl.take qn).map fun k => own.getD k.toNat 0)) ++ (44 :: Lib.itoa ov) := by
                    rw [List.take_succ_eq_append_getElem hqk, ← hkd, List.map_append, tailK, List.flatMap_append, hov, List.append_assoc]; simp [tailK]
                  have hkr0 := eq_true hkr.1
                  have hkr1 := eq_true hkr.2
                  replace hq := eq_true hq
                  replace hq0_ := eq_true hq0_
                  replace hkd := Aside0.mk hkd
                  replace hov := Aside0.mk hov
                  clear hkv hcx hFx
                  go_wp2_with (first | ((with_reducible refine gate_callee (f := 25) rfl ?_); refine goesL_ (some 85) rfl rfl Tryd.func25 (by kernel_rfl) rfl #[.int .i64 ov] rfl (by (try simp only [List.map_toArray, List.map_cons, List.map_nil]); first | done | rfl) ?_; refine (itoa_calls ov (by omega) (by omega) _ (tab_below htb hbw)).mono ?_; rintro e w24 ⟨rfl, hb24⟩; refine ⟨_, rfl, ?_⟩; have hBw2 := bld_below hBw hb24; have hbw2 := below_step hbw hb24) | ((with_reducible refine gate_callee (f := 26) rfl ?_); refine goesL_ (some 87) rfl rfl Tryd.func26 (by kernel_rfl) rfl #[.pointer (some ⟨wb.heap.size + 1, 0, none⟩), .string ((⟨#[44]⟩ : ByteArray) ++ (⟨(Lib.itoa ov).toArray⟩ : ByteArray))] rfl (by (try simp only [List.map_toArray, List.map_cons, List.map_nil]); first | done | rfl) ?_; refine (ws_calls (wb.heap.size + 1) _ _ _ hBw2 (by rw [← size_list, hcat.out, List.length_cons]; omega) (by have := hb24.size; omega)).mono ?_; rintro e w26 ⟨rfl, hB3, hb3, hk3⟩; refine ⟨_, rfl, ?_⟩; rw [hcat.out, ← hak] at hB3; have hbw3 := hbw2.trans (below_lo hb3 (Nat.le_succ _)); have hsz3 : wb.heap.size + 2 ≤ w26.heap.size := by have := hb24.size; have := hb3.size; omega))
                  go_roundg (kl.length - (qn + 1))
                  case measure => omega
                  case rel => exact ⟨qn + 1, by first | rfl | (simp [wrap64]; done) | (congr 1; unfold wrap64; omega), hqk, rfl, hbw3, hB3, by rw [hak, List.length_append, List.length_cons]; omega, hsz3⟩
                · have hqb := decide_eq_false hq
                  have hqe : qn = kl.length := by omega
                  subst hqe
                  rw [List.take_length] at hBw hal
                  obtain ⟨key, hkey0⟩ : ∃ key, key = headK nx ++ tailK (kl.map fun k => own.getD k.toNat 0) := ⟨_, rfl⟩
                  rw [← hkey0] at hBw hal
                  have hkey : keyOf Tryd.prog 9 (.string ⟨key.toArray⟩) = some (LS key) := WideMaps.keyOf_string_mk Tryd.underlying9 (s := ⟨key.toArray⟩) (by show key.toArray.size ≤ maxLen; simp only [List.size_toArray, maxLen]; omega)
                  have hit : ii.toNat = i := by rw [hie.out]; simp
                  have hstep : ownGo P0 (i + 1) ks own = ownGo P0 i (if key ∈ ks then ks else ks ++ [key]) (own.set i (ks.idxOf key : Nat)) := by
                    rw [ownGo, ← hit, ← hnx.out, ← hkl0.out, hkey0]; rfl
                  replace hkey0 := Aside0.mk hkey0
                  replace hit := Aside0.mk hit
                  have hil2 : ii.toNat < P0.N.length := by rw [hit.out]; omega
                  by_cases hmem : key ∈ ks
                  · have hhas : Maps.has D1 (LS key) = true := (hN1.has key).2 hmem
                    rw [if_pos hmem] at hstep
                    have hidx : ks.idxOf key < ks.length := List.idxOf_lt_length_iff.2 hmem
                    have hset : (ints own).set ii.toNat (.int .i64 ((ks.idxOf key : Nat) : Int)) = ints (own.set i ((ks.idxOf key : Nat) : Int)) := by rw [hit.out]; simp [ints, List.map_set]
                    go_wp2_with (first | ((with_reducible refine gate_dst (N := 91) rfl ?_); refine goesL_ (some 91) rfl rfl Tryd.func27 (by kernel_rfl) rfl #[.pointer (some ⟨wb.heap.size + 1, 0, none⟩)] rfl (by (try simp only [List.map_toArray, List.map_cons, List.map_nil]); first | done | rfl) ?_; refine (bstr_calls (wb.heap.size + 1) key _ hBw (by have := hsz; omega)).mono ?_; rintro e w30 ⟨rfl, hB_w30, hb_w30⟩; refine ⟨_, rfl, ?_⟩; have hbw_w30 := hbw.trans (below_lo hb_w30 (Nat.le_succ _)); have SS_w30 := (SS.keep hbw_w30).1; have sm_w30 := (SS.keep hbw_w30).2; have hz_w30 : wb.heap.size + 2 ≤ w30.heap.size := by have := hb_w30.size; omega) | ((with_reducible refine gate_dst (N := 92) rfl ?_); refine wpList_lookup_own_ok_int _ rfl (.tmp 90) (.tmp 91) 46 rfl 9 3 .i64 keyed9 Tryd.underlying46 Tryd.underlying3 (zero3 _) w.heap.size ks.length D1 rfl (St.at_map SS_w30 (i := 2) rfl) (.string ⟨key.toArray⟩) (LS key) rfl hkey ?_; intro c hat hwc; rw [hhas]; have hce_ : c = ((ks.idxOf key : Nat) : Int) := (by have h_ := hat.symm.trans (hN1.at_ key hmem); injection h_ with h_; injection h_ with _ h_); subst hce_; obtain ⟨ho_, hg_, ⟨t_, ht_, hc_⟩, hf_⟩ := own_set' (SS_w30.at_row (i := 0) rfl) (k := ii.toNat) hil2 (.int .i64 ((ks.idxOf key : Nat) : Int))))
                    have SSf := SS_w30.row_upd (i := 0) rfl ho_ hg_ (.inl rfl)
                    rw [hset] at SSf
                    go_roundg i
                    case measure => omega
                    case rel => exact ⟨ii - 1, i, D1, own.set i ((ks.idxOf key : Nat) : Int), ks, by first | rfl | (congr 1; unfold wrap64; have := hie.out; omega), ⟨by rw [hie.out]⟩, by omega, rfl, SSf.1, hsm.trans (sm_w30.trans SSf.2), by rw [List.length_set]; exact hol, hN1, by omega, hstep.symm.trans hgo, fun x hx => by
                      rcases set_mem hx with h_ | h_
                      · subst h_; constructor <;> omega
                      · exact hob x h_⟩
                  · have hhas : Maps.has D1 (LS key) = false := by
                      cases hb_ : Maps.has D1 (LS key)
                      · rfl
                      · exact absurd ((hN1.has key).1 hb_) hmem
                    rw [if_neg hmem] at hstep
                    have hix : ks.idxOf key = ks.length := by
                      have h1_ := List.idxOf_le_length (a := key) (l := ks)
                      have h2_ : ¬ ks.idxOf key < ks.length := fun h_ => hmem (List.idxOf_lt_length_iff.1 h_)
                      omega
                    have hksl : ks.length ≤ 1100000000 := by
                      have : (j + 1) * 1000000 ≤ 1001 * 1000000 := Nat.mul_le_mul_right _ (by omega)
                      omega
                    have hwf : (Lit.int .i64 (ks.length : Int)).wf = true := by
                      have h_ := Go.RowKit.wrap64_wf (ks.length : Int)
                      rwa [show wrap64 (ks.length : Int) = (ks.length : Int) from by unfold wrap64; omega] at h_
                    have hset : (ints own).set ii.toNat (.int .i64 (ks.length : Int)) = ints (own.set i ((ks.idxOf key : Nat) : Int)) := by rw [hit.out, hix]; simp [ints, List.map_set]
                    go_wp2_with (first | ((with_reducible refine gate_dst (N := 91) rfl ?_); refine goesL_ (some 91) rfl rfl Tryd.func27 (by kernel_rfl) rfl #[.pointer (some ⟨wb.heap.size + 1, 0, none⟩)] rfl (by (try simp only [List.map_toArray, List.map_cons, List.map_nil]); first | done | rfl) ?_; refine (bstr_calls (wb.heap.size + 1) key _ hBw (by have := hsz; omega)).mono ?_; rintro e w30 ⟨rfl, hB_w30, hb_w30⟩; refine ⟨_, rfl, ?_⟩; have hbw_w30 := hbw.trans (below_lo hb_w30 (Nat.le_succ _)); have SS_w30 := (SS.keep hbw_w30).1; have sm_w30 := (SS.keep hbw_w30).2; have hz_w30 : wb.heap.size + 2 ≤ w30.heap.size := by have := hb_w30.size; omega) | ((with_reducible refine gate_dst (N := 92) rfl ?_); refine wpList_lookup_own_ok_int _ rfl (.tmp 90) (.tmp 91) 46 rfl 9 3 .i64 keyed9 Tryd.underlying46 Tryd.underlying3 (zero3 _) w.heap.size ks.length D1 rfl (St.at_map SS_w30 (i := 2) rfl) (.string ⟨key.toArray⟩) (LS key) rfl hkey ?_; intro c hat hwc; rw [hhas]; have hce_ : c = 0 := (by have h_ := hat.symm.trans (Maps.atKey_of_not_has hhas _); injection h_ with h_; injection h_ with _ h_); subst hce_) | ((with_reducible refine gate_dst (N := 98) rfl ?_); refine wpList_len_own _ rfl (.tmp 97) 46 rfl 9 3 Tryd.underlying46 (plainElem Tryd.prog 3) w.heap.size ks.length D1 rfl (St.at_map SS_w30 (i := 2) rfl) ?_; rw [hN1.size]) | ((with_reducible refine gate_dst (N := 100) rfl ?_); refine goesL_ (some 100) rfl rfl Tryd.func27 (by kernel_rfl) rfl #[.pointer (some ⟨wb.heap.size + 1, 0, none⟩)] rfl (by (try simp only [List.map_toArray, List.map_cons, List.map_nil]); first | done | rfl) ?_; refine (bstr_calls (wb.heap.size + 1) key _ hB_w30 (by have := hz_w30; omega)).mono ?_; rintro e w31 ⟨rfl, hB_w31, hb_w31⟩; refine ⟨_, rfl, ?_⟩; have hbw_w31 := hbw_w30.trans (below_lo hb_w31 (Nat.le_succ _)); have SS_w31 := (SS.keep hbw_w31).1; have sm_w31 := (SS.keep hbw_w31).2; have hz_w31 : wb.heap.size + 2 ≤ w31.heap.size := by have := hb_w31.size; omega) | (at_mapUpdate; (refine wpList_mapUpdate_own _ rfl (.tmp 99) (.tmp 100) (.tmp 101) 46 rfl 9 3 keyed9 Tryd.underlying46 (plainElem Tryd.prog 3) w.heap.size ks.length D1 rfl (St.at_map SS_w31 (i := 2) rfl) (by simp only [maxLen]; omega) (.string ⟨key.toArray⟩) (.int .i64 (ks.length : Int)) (LS key) rfl rfl hkey (.lit (.int .i64 (ks.length : Int))) [] (plainElem_int Tryd.underlying3 hwf) ?_; intro w32 hown hgr; have SS32 := St.map_upd SS_w31 (i := 2) rfl hown hgr; obtain ⟨ho_, hg_, ⟨t_, ht_, hc_⟩, hf_⟩ := own_set' (SS32.1.at_row (i := 0) rfl) (k := ii.toNat) hil2 (.int .i64 (ks.length : Int)))))
                    have SSf := SS32.1.row_upd (i := 0) rfl ho_ hg_ (.inl rfl)
                    rw [hset] at SSf
                    rw [show ks.length + 1 = (ks ++ [key]).length from by simp] at SSf
                    go_roundg i
                    case measure => omega
                    case rel => exact ⟨ii - 1, i, _, own.set i ((ks.idxOf key : Nat) : Int), ks ++ [key], by first | rfl | (congr 1; unfold wrap64; have := hie.out; omega), ⟨by rw [hie.out]⟩, by omega, rfl, SSf.1, hsm.trans (sm_w31.trans (SS32.2.trans SSf.2)), by rw [List.length_set]; exact hol, hN1.put (fun x y h_ => by injection h_) (fun x => trivial) hmem (hown.tidy keyed9), by rw [List.length_append, List.length_singleton]; omega, hstep.symm.trans hgo, fun x hx => by
                      rcases set_mem hx with h_ | h_
                      · subst h_; rw [hix]; constructor <;> omega
                      · exact hob x h_⟩
      · have hib := decide_eq_false hi0
        have hi00 : i = 0 := by have := hii.out; omega
        subst hi00
        rw [ownGo] at hgo
        have hks1 : keysTo l0 (j + 1) = ks := by
          unfold keysTo; rw [htk, roughK_app]; simp only [roughK]; rw [hP0]
          exact (congrArg Prod.fst hgo).symm
        have hrs1 : roughTo l0 (j + 1) = roughTo l0 j ++ [own] := by
          unfold roughTo; rw [htk, rough_app]; simp only [rough]; rw [hP0]
          have h_ := congrArg Prod.snd hgo
          rw [show own = _ from h_]; rfl
        have hrl : (roughTo l0 j).length = j := by unfold roughTo; rw [rough_len, List.length_take]; omega
        have hinn : inn (us ++ [(.slice (some ⟨gO, 0, none⟩) P0.N.length cO)]) (roughTo l0 (j + 1)) = inn us (roughTo l0 j) ++ [(row (.slice (some ⟨gO, 0, none⟩) P0.N.length cO) 3 1 P0.N.length (ints own))] := by rw [hrs1, inn_snoc (hus.trans hrl.symm), hol]
        have e_ := ((SS.emp_new).lit (i := 0) rfl 27 1 1 (by decide) (by decide) [(.slice (some ⟨gO, 0, none⟩) P0.N.length cO)] rfl).1
        replace hks1 := Aside0.mk hks1
        replace hrs1 := Aside0.mk hrs1
        replace hrl := Aside0.mk hrl
        replace hinn := Aside0.mk hinn
        go_wp2_with (first | ((with_reducible refine gate_builtin (b := .append) (xs := #[.tmp 106, .tmp 108]) rfl ?_); at_builtin; refine app_list rfl (.tmp 106) (.tmp 108) 28 27 (.slice none 0 0) 1 24 rfl Tryd.underlying28 info27 rfl (by decide) (by decide) u4 (.slice (some ⟨wb.heap.size, 0, none⟩) 1 1) j us [(.slice (some ⟨gO, 0, none⟩) P0.N.length cO)] rfl rfl (by simp [Value.oneCell']) (e_.at_row (i := 4) rfl) (e_.at_row (i := 0) rfl) (by omega) ?_; intro v1 w1 ho hg hat; have S5 := (e_.row_upd (i := 4) rfl ho hg hat).1))
        have h1 : St w Z2 [(row (.slice (some ⟨gO, 0, none⟩) P0.N.length cO) 3 1 P0.N.length (ints own)), blk w10.heap.size 30 #[.slice (some adN) P0.N.length cn, .slice Ap P0.P.length cp, .slice Az P0.Z.length cz, .slice (some adK) P0.K.length ck], mp 9 w.heap.size ks.length D1, row v1 27 1 (j + 1) (us ++ [(.slice (some ⟨gO, 0, none⟩) P0.N.length cO)]), grp (inn us (roughTo l0 j))] w1 := S5.drop
        have h2 : St w Z2 [grp (inn us (roughTo l0 j)), (row (.slice (some ⟨gO, 0, none⟩) P0.N.length cO) 3 1 P0.N.length (ints own)), blk w10.heap.size 30 #[.slice (some adN) P0.N.length cn, .slice Ap P0.P.length cp, .slice Az P0.Z.length cz, .slice (some adK) P0.K.length ck], mp 9 w.heap.size ks.length D1, row v1 27 1 (j + 1) (us ++ [(.slice (some ⟨gO, 0, none⟩) P0.N.length cO)])] w1 := St.front h1 (i := 4) rfl
        have h3 : St w Z2 [(row (.slice (some ⟨gO, 0, none⟩) P0.N.length cO) 3 1 P0.N.length (ints own)), grp (inn us (roughTo l0 j)), blk w10.heap.size 30 #[.slice (some adN) P0.N.length cn, .slice Ap P0.P.length cp, .slice Az P0.Z.length cz, .slice (some adK) P0.K.length ck], mp 9 w.heap.size ks.length D1, row v1 27 1 (j + 1) (us ++ [(.slice (some ⟨gO, 0, none⟩) P0.N.length cO)])] w1 := St.front h2 (i := 1) rfl
        have h4 : St w Z2 [grp (inn us (roughTo l0 j) ++ [(row (.slice (some ⟨gO, 0, none⟩) P0.N.length cO) 3 1 P0.N.length (ints own))]), blk w10.heap.size 30 #[.slice (some adN) P0.N.length cn, .slice Ap P0.P.length cp, .slice Az P0.Z.length cz, .slice (some adK) P0.K.length ck], mp 9 w.heap.size ks.length D1, row v1 27 1 (j + 1) (us ++ [(.slice (some ⟨gO, 0, none⟩) P0.N.length cO)])] w1 := St.into h3
        have h5 : St w Z2 [grp (inn us (roughTo l0 j) ++ [(row (.slice (some ⟨gO, 0, none⟩) P0.N.length cO) 3 1 P0.N.length (ints own))]), mp 9 w.heap.size ks.length D1, row v1 27 1 (j + 1) (us ++ [(.slice (some ⟨gO, 0, none⟩) P0.N.length cO)])] w1 := (St.front h4 (i := 1) rfl).drop
        have h6 : St w Z2 [mp 9 w.heap.size ks.length D1, row v1 27 1 (j + 1) (us ++ [(.slice (some ⟨gO, 0, none⟩) P0.N.length cO)]), grp (inn us (roughTo l0 j) ++ [(row (.slice (some ⟨gO, 0, none⟩) P0.N.length cO) 3 1 P0.N.length (ints own))])] w1 := St.front (St.front h5 (i := 2) rfl) (i := 2) rfl
        have h7 := St.forget h6
        rw [← hinn.out, ← hks1.out] at h7
        rw [← hks1.out] at hN1 hkb
        go_roundg (l0.length - (j + 1))
        case measure => have := hgk.out; omega
        case rel => exact ⟨jj + 1, j + 1, _, D1, by first | rfl | (congr 1; unfold wrap64; have := hjj.out; omega), ⟨by have := hjj.out; omega⟩, by omega, rfl, h7, by simp [hus], hN1, by omega, by
          rw [hrs1.out]; intro o ho
          rcases List.mem_append.1 ho with ho | ho
          · exact hrb o ho
          · rw [List.mem_singleton.1 ho]; exact ⟨by omega, hob⟩⟩
  · have hjb := decide_eq_false hjl
    have hje : j = l0.length := by have := hjj.out; omega
    obtain ⟨rs, hrs⟩ : ∃ rs, rs = roughTo l0 j := ⟨_, rfl⟩
    have hrsm : marks l0 = renums rs [] := by rw [hrs, hje]; unfold roughTo marks; rw [List.take_length]
    rw [← hrs] at S hrb
    replace hje := Aside0.mk hje
    have hrl : rs.length = j := by rw [hrs]; unfold roughTo; rw [rough_len, List.length_take]; omega
    obtain ⟨A4, c4, e4⟩ := own_slice (S.at_row (i := 1) rfl)
    subst e4
    have S1 := (St.map_new S 3).1
    have S2 : St w (fun _ => False) [mp 3 wr.heap.size 0 (.map []), row (.slice A4 j c4) 27 1 j us, grp (inn us rs)] (wr.alloc (.map #[] 0)) := (St.front (St.front (St.front S1 (i := 1) rfl).drop (i := 2) rfl) (i := 2) rfl |> fun h => St.front h (i := 2) rfl)
    have hN2 : Numb LI (.map []) ([] : List Int) := Numb.nil LI
    replace hrs := Aside0.mk hrs
    replace hgk := Aside0.mk hgk
    obtain ⟨wm, rfl⟩ : ∃ x, x = wr := ⟨_, rfl⟩
    go_wp2
    go_loopg [114] j (fun kq v114 w'' => ∃ (q : Nat) (D2 : DataW Unit), v114 = .int .i64 (q : Int) ∧ q ≤ j ∧ kq = j - q ∧ St w (fun _ => False) [mp 3 wm.heap.size (seenAll (rs.take q) []).length D2, row (.slice A4 j c4) 27 1 j us, grp (inn us (renums (rs.take q) [] ++ rs.drop q))] w'' ∧ Numb LI D2 (seenAll (rs.take q) []) ∧ (seenAll (rs.take q) []).length ≤ q * 1000000)
    case atStart => exact ⟨0, _, rfl, Nat.zero_le _, rfl, S2, hN2, Nat.le_refl _⟩
    case round =>
      clear S S1 S2 hN hN2 hks
      obtain ⟨q, D2, rfl, hq, hgk8, S, hN, hks⟩ := hrel
      by_cases hqj : (q : Int) < (j : Int)
      · have hqb := decide_eq_true hqj
        have hqn : q < j := by omega
        obtain ⟨g4, cc4, e4, h41⟩ := own_set (S.at_row (i := 1) rfl) hqn undef
        injection e4 with e4 _ e5
        subst e4 e5
        have hqu : q < us.length := by omega
        have hqr : q < rs.length := by omega
        obtain ⟨uo, huo⟩ : ∃ uo, us[q]? = some uo := ⟨_, List.getElem?_eq_getElem hqu⟩
        obtain ⟨o, ho⟩ : ∃ o, rs[q]? = some o := ⟨_, List.getElem?_eq_getElem hqr⟩
        have hob := hrb o (List.mem_of_getElem? ho)
        have hdr : rs.drop q = o :: rs.drop (q + 1) := by rw [List.drop_eq_getElem_cons hqr]; congr 1; simpa [List.getElem?_eq_getElem hqr] using ho
        have htk8 : rs.take (q + 1) = rs.take q ++ [o] := by rw [List.take_succ_eq_append_getElem hqr]; congr 2; simpa [List.getElem?_eq_getElem hqr] using ho
        rw [hdr] at S
        obtain ⟨pre, hpre⟩ : ∃ pre, pre = renums (rs.take q) [] := ⟨_, rfl⟩
        obtain ⟨ks, hks0⟩ : ∃ ks, ks = seenAll (rs.take q) [] := ⟨_, rfl⟩
        rw [← hpre] at S
        rw [← hks0] at S hN hks
        have hpl : pre.length = q := by rw [hpre, renums_len, List.length_take]; omega
        have hin0 : (pre ++ o :: rs.drop (q + 1))[q]? = some o := by rw [List.getElem?_append_right (by omega), hpl, Nat.sub_self]; rfl
        obtain ⟨Ao, co, eo⟩ := own_slice (S.sub_row (i := 2) (j := q) rfl (inn_at huo hin0))
        subst eo
        have hco : wr.cell? ⟨g4, q, none⟩ = some (.slice Ao o.length co) := by
          obtain ⟨_, _, ⟨t_, ht_, hc_⟩, _⟩ := h41
          rw [Option.some.inj (ht_.symm.trans huo)] at hc_
          exact hc_
        have hq0_ : (0 : Int) ≤ (q : Int) := by omega
        replace hq0_ := eq_true hq0_
        replace hqj := eq_true hqj
        clear h41 hdr hin0
        replace hpre := Aside0.mk hpre
        replace hks0 := Aside0.mk hks0
        replace htk8 := Aside0.mk htk8
        go_wp2
        go_loopg [120] o.length (fun kq v120 w'' => ∃ (p : Nat) (D3 : DataW Unit), v120 = .int .i64 (p : Int) ∧ p ≤ o.length ∧ kq = o.length - p ∧ St w (fun _ => False) [mp 3 wm.heap.size (seen (o.take p) ks).length D3, row (.slice (some ⟨g4, 0, none⟩) j c4) 27 1 j us, grp (inn us (pre ++ (renum (o.take p) ks ++ o.drop p) :: rs.drop (q + 1)))] w'' ∧ Numb LI D3 (seen (o.take p) ks) ∧ (seen (o.take p) ks).length ≤ q * 1000000 + p)
        case atStart => exact ⟨0, D2, rfl, Nat.zero_le _, rfl, S, hN, by simpa [seen] using hks⟩
        case round =>
          clear S hN hks hco
          obtain ⟨p, D3, rfl, hp, hgk10, S, hN, hks⟩ := hrel
          by_cases hpo : (p : Int) < (o.length : Int)
          · have hpb := decide_eq_true hpo
            have hpn : p < o.length := by omega
            obtain ⟨kk, hkk⟩ : ∃ kk, o[p]? = some kk := ⟨_, List.getElem?_eq_getElem hpn⟩
            have hkg : o[p] = kk := by simpa [List.getElem?_eq_getElem hpn] using hkk
            have hkr := hob.2 kk (List.mem_of_getElem? hkk)
            obtain ⟨oc, hoc⟩ : ∃ oc, oc = renum (o.take p) ks ++ o.drop p := ⟨_, rfl⟩
            obtain ⟨kt, hkt⟩ : ∃ kt, kt = seen (o.take p) ks := ⟨_, rfl⟩
            rw [← hoc] at S
            rw [← hkt] at S hN hks
            have hol : oc.length = o.length := by rw [hoc, List.length_append, renum_len, List.length_take, List.length_drop]; omega
            have hocp : oc[p]? = some kk := by
              rw [hoc, List.getElem?_append_right (by rw [renum_len, List.length_take]; omega), renum_len, List.length_take, Nat.min_eq_left (by omega), Nat.sub_self, List.drop_eq_getElem_cons hpn, hkg]; rfl
            have hocset : ∀ v, oc.set p v = (renum (o.take p) ks ++ [v]) ++ o.drop (p + 1) := fun v => by rw [hoc]; exact oc_set o ks p v hpn
            have htk10 : o.take (p + 1) = o.take p ++ [kk] := by rw [List.take_succ_eq_append_getElem hpn, hkg]
            have hseen : seen (o.take (p + 1)) ks = if kk ∈ kt then kt else kt ++ [kk] := by rw [htk10, seen_app, ← hkt]; rfl
            have hren : renum (o.take (p + 1)) ks ++ o.drop (p + 1) = oc.set p ((kt.idxOf kk : Nat) : Int) := by rw [hocset, htk10, renum_app, ← hkt]; rfl
            have hinq : (pre ++ oc :: rs.drop (q + 1))[q]? = some oc := by rw [List.getElem?_append_right (by omega), hpl, Nat.sub_self]; rfl
            have hul : us.length = (pre ++ oc :: rs.drop (q + 1)).length := by rw [List.length_append, List.length_cons, List.length_drop]; omega
            have hsr := S.sub_row (i := 2) (j := q) rfl (inn_at huo hinq)
            obtain ⟨gq, cq, eq_, h42⟩ := own_set hsr (k := p) (by omega) undef
            injection eq_ with eq1 eqm eq2
            clear eqm
            subst eq1 eq2
            have hcz : wr.cell? ⟨gq, p, none⟩ = some (.int .i64 kk) := by
              obtain ⟨_, _, ⟨t_, ht_, hc_⟩, _⟩ := h42
              have h2_ : (ints oc)[p]? = some (.int .i64 kk) := by simp [ints, hocp]
              rw [Option.some.inj (ht_.symm.trans h2_)] at hc_
              exact hc_
            have hwf : (Lit.int .i64 kk).wf = true := by
              have h_ := Go.RowKit.wrap64_wf kk
              rwa [show wrap64 kk = kk from by unfold wrap64; omega] at h_
            have hkey : keyOf Tryd.prog 3 (.int .i64 kk) = some (LI kk) := keyOf_int_mk Tryd.underlying3 hwf
            have hktl : kt.length ≤ 2000000000 := by
              have : q * 1000000 ≤ 1000 * 1000000 := Nat.mul_le_mul_right _ (by omega)
              have := hob.1
              omega
            have hp0_ : (0 : Int) ≤ (p : Int) := by omega
            replace hp0_ := eq_true hp0_
            replace hpo := eq_true hpo
            clear h42 hsr
            replace hoc := Aside0.mk hoc
            replace hkt := Aside0.mk hkt
            replace hkg := Aside0.mk hkg
            replace hren := Aside0.mk hren
            replace hol := Aside0.mk hol
            replace hul := Aside0.mk hul
            by_cases hmem : kk ∈ kt
            · have hhas : Maps.has D3 (LI kk) = true := (hN.has kk).2 hmem
              rw [if_pos hmem] at hseen
              have hidx : kt.idxOf kk < kt.length := List.idxOf_lt_length_iff.2 hmem
              go_wp2_with (first | ((with_reducible refine gate_dst (N := 128) rfl ?_); refine wpList_lookup_own_ok_int _ rfl (.tmp 126) (.tmp 127) 59 rfl 3 3 .i64 keyed3 Tryd.underlying59 Tryd.underlying3 (zero3 _) wm.heap.size kt.length D3 rfl (St.at_map S (i := 0) rfl) (.int .i64 kk) (LI kk) rfl hkey ?_; intro c hat hwc; rw [hhas]; have hce_ : c = ((kt.idxOf kk : Nat) : Int) := (by have h_ := hat.symm.trans (hN.at_ kk hmem); injection h_ with h_; injection h_ with _ h_); subst hce_; have hsr_ := S.sub_row (i := 2) (j := q) rfl (inn_at huo hinq); rw [hol.out] at hsr_; obtain ⟨ho_, hg_, ⟨t_, ht_, hc_⟩, hf_⟩ := own_set' hsr_ (k := p) hpn (.int .i64 ((kt.idxOf kk : Nat) : Int))))
              have SSf := (S.sub_upd (i := 2) (j := q) rfl (inn_at huo hinq) (row_step ho_ hg_ (.inl rfl))).1
              have hput := inn_put (oc' := oc.set p ((kt.idxOf kk : Nat) : Int)) huo hpl hul.out
              rw [List.length_set, hol.out] at hput
              have hset : (ints oc).set p (.int .i64 ((kt.idxOf kk : Nat) : Int)) = ints (oc.set p ((kt.idxOf kk : Nat) : Int)) := by simp [ints, List.map_set]
              have SSg : St w (fun _ => False) [mp 3 wm.heap.size kt.length D3, row (.slice (some ⟨g4, 0, none⟩) j c4) 27 1 j us, grp (inn us (pre ++ (oc.set p ((kt.idxOf kk : Nat) : Int)) :: rs.drop (q + 1)))] (wr.setCell ⟨gq, p, none⟩ (.int .i64 ((kt.idxOf kk : Nat) : Int))) := by
                have h_ := SSf
                rw [hset] at h_
                simp only [List.set_cons_zero, List.set_cons_succ, hput] at h_
                exact h_
              rw [← hren.out] at SSg
              go_roundg (o.length - (p + 1))
              case measure => omega
              case rel => exact ⟨p + 1, _, by first | rfl | (congr 1; unfold wrap64; omega), hpn, rfl, by rw [hseen]; exact SSg, by rw [hseen]; exact hN, by rw [hseen]; omega⟩
            · have hhas : Maps.has D3 (LI kk) = false := by
                cases hb_ : Maps.has D3 (LI kk)
                · rfl
                · exact absurd ((hN.has kk).1 hb_) hmem
              rw [if_neg hmem] at hseen
              have hix : kt.idxOf kk = kt.length := by
                have h1_ := List.idxOf_le_length (a := kk) (l := kt)
                have h2_ : ¬ kt.idxOf kk < kt.length := fun h_ => hmem (List.idxOf_lt_length_iff.1 h_)
                omega
              have hwf2 : (Lit.int .i64 (kt.length : Int)).wf = true := by
                have h_ := Go.RowKit.wrap64_wf (kt.length : Int)
                rwa [show wrap64 (kt.length : Int) = (kt.length : Int) from by unfold wrap64; omega] at h_
              go_wp2_with (first | ((with_reducible refine gate_dst (N := 128) rfl ?_); refine wpList_lookup_own_ok_int _ rfl (.tmp 126) (.tmp 127) 59 rfl 3 3 .i64 keyed3 Tryd.underlying59 Tryd.underlying3 (zero3 _) wm.heap.size kt.length D3 rfl (St.at_map S (i := 0) rfl) (.int .i64 kk) (LI kk) rfl hkey ?_; intro c hat hwc; rw [hhas]; have hce_ : c = 0 := (by have h_ := hat.symm.trans (Maps.atKey_of_not_has hhas _); injection h_ with h_; injection h_ with _ h_); subst hce_) | ((with_reducible refine gate_dst (N := 134) rfl ?_); refine wpList_len_own _ rfl (.tmp 133) 59 rfl 3 3 Tryd.underlying59 (plainElem Tryd.prog 3) wm.heap.size kt.length D3 rfl (St.at_map S (i := 0) rfl) ?_; rw [hN.size]) | (at_mapUpdate; (refine wpList_mapUpdate_own _ rfl (.tmp 135) (.tmp 136) (.tmp 137) 59 rfl 3 3 keyed3 Tryd.underlying59 (plainElem Tryd.prog 3) wm.heap.size kt.length D3 rfl (St.at_map S (i := 0) rfl) (by simp only [maxLen]; omega) (.int .i64 kk) (.int .i64 (kt.length : Int)) (LI kk) rfl rfl hkey (.lit (.int .i64 (kt.length : Int))) [] (plainElem_int Tryd.underlying3 hwf2) ?_; intro w32 hown hgr; have SS32 := St.map_upd S (i := 0) rfl hown hgr; have hsr_ := SS32.1.sub_row (i := 2) (j := q) rfl (inn_at huo hinq); rw [hol.out] at hsr_; obtain ⟨ho_, hg_, ⟨t_, ht_, hc_⟩, hf_⟩ := own_set' hsr_ (k := p) hpn (.int .i64 (kt.length : Int)))))
              have SSf := (SS32.1.sub_upd (i := 2) (j := q) rfl (inn_at huo hinq) (row_step ho_ hg_ (.inl rfl))).1
              have hput := inn_put (oc' := oc.set p ((kt.idxOf kk : Nat) : Int)) huo hpl hul.out
              rw [List.length_set, hol.out] at hput
              have hset : (ints oc).set p (.int .i64 (kt.length : Int)) = ints (oc.set p ((kt.idxOf kk : Nat) : Int)) := by rw [hix]; simp [ints, List.map_set]
              have SSg : St w (fun _ => False) [mp 3 wm.heap.size (kt ++ [kk]).length (D3.put (LI kk) (.lit (.int .i64 (kt.length : Int)))), row (.slice (some ⟨g4, 0, none⟩) j c4) 27 1 j us, grp (inn us (pre ++ (oc.set p ((kt.idxOf kk : Nat) : Int)) :: rs.drop (q + 1)))] (w32.setCell ⟨gq, p, none⟩ (.int .i64 (kt.length : Int))) := by
                have h_ := SSf
                rw [hset] at h_
                simp only [List.set_cons_zero, List.set_cons_succ, hput, show kt.length + 1 = (kt ++ [kk]).length from by simp] at h_
                exact h_
              rw [← hren.out] at SSg
              go_roundg (o.length - (p + 1))
              case measure => omega
              case rel => exact ⟨p + 1, _, by first | rfl | (congr 1; unfold wrap64; omega), hpn, rfl, by rw [hseen]; exact SSg, by rw [hseen]; exact hN.put (fun x y h_ => by injection h_) (fun x => trivial) hmem (hown.tidy keyed3), by rw [hseen]; rw [List.length_append, List.length_singleton]; omega⟩
          · have hpb := decide_eq_false hpo
            have hpe : p = o.length := by omega
            subst hpe
            rw [List.take_length, List.drop_length, List.append_nil] at S
            rw [List.take_length] at hN hks
            have hre : renums (rs.take (q + 1)) [] ++ rs.drop (q + 1) = pre ++ renum o ks :: rs.drop (q + 1) := by rw [htk8.out, renums_app, ← hpre.out, ← hks0.out]; simp [renums]
            have hse : seenAll (rs.take (q + 1)) [] = seen o ks := by rw [htk8.out, seenAll_app, ← hks0.out]; rfl
            replace hre := Aside0.mk hre
            replace hse := Aside0.mk hse
            go_wp2
            go_roundg (j - (q + 1))
            case measure => omega
            case rel => exact ⟨q + 1, D3, by first | rfl | (congr 1; unfold wrap64; omega), hqn, rfl, by rw [hse.out, hre.out]; exact S, by rw [hse.out]; exact hN, by rw [hse.out, Nat.add_mul]; have := hob.1; omega⟩
      · have hqb := decide_eq_false hqj
        have hqe : q = j := by omega
        have htr : rs.take j = rs := List.take_of_length_le (by omega)
        have hdr : rs.drop j = [] := List.drop_of_length_le (by omega)
        rw [hqe, htr, hdr, List.append_nil, ← hrsm] at S
        have hml : (marks l0).length = j := by rw [hrsm, renums_len]; exact hrl
        obtain ⟨f, hr⟩ := inn_reps (ok := fun k => True ∧ some k ≠ (Value.slice A4 j c4).ownBlock) S (i := 2) rfl (hus.trans hml.symm) (fun jx u hj_ k hk => ⟨trivial, S.row_sub_apart (i := 1) (j := 2) (p := jx) rfl rfl (inn_at hj_ (List.getElem?_eq_getElem (by have h_ := (List.getElem?_eq_some_iff.1 hj_).1; rw [hml, ← hus]; exact h_))) (by decide) k hk⟩)
        have hro := S.row_out (i := 1) rfl
        have hfin : ∃ v0_ : Value, Ending.returned (.slice A4 j c4) = .returned (v0_) ∧ Kd.S (Kd.slice 3 (Kd.int .i64)) 27 wr w.heap.size (fun _ => True) v0_ (marks l0) ∧ Below w.heap.size w wr := ⟨_, rfl, ⟨f, fun _ _ => trivial, us, by rw [List.length_zipIdx, hml]; exact hro.1, hr⟩, S.below⟩
        clear hml htr hdr
        replace hrsm := Aside0.mk hrsm
        replace hqe := Aside0.mk hqe
        go_wp2
        first
        | exact hfin
        | (refine bodyPost_ret (results_tmp (t := 2) rfl _ _ _) rfl ?_; exact hfin)
end Go.Proofs.YtfmlpkeaiohknaaDoor.Q
