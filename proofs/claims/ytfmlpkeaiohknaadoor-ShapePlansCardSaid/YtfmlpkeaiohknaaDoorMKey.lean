import Derived.Test.YtfmlpkeaiohknaaDoorMTree
/-! The keys of shape.Marks tell trees apart; its numbers are those of the trees themselves. -/
set_option linter.unusedVariables false
set_option linter.unusedSimpArgs false
namespace Go.Proofs.YtfmlpkeaiohknaaDoor.Q
open Go.RowKit Go.Proofs.YtfmlpkeaiohknaaDoorW.PrintWords Go.Proofs.YtfmlpkeaiohknaaDoorW.PrintLast Go.Proofs.YtfmlpkeaiohknaaDoorW.PrintMore
theorem ofNat_dig {d : Nat} (h : d < 10) : (UInt8.ofNat (48 + d)).toNat = 48 + d := by
  rw [UInt8.toNat_ofNat']; omega
theorem dd_val (u : Nat) : (Lib.decDigits u).foldl (fun v c => v * 10 + (c.toNat - 48)) 0 = u := by
  induction u using Nat.strongRecOn with
  | ind u ih =>
    rw [Lib.decDigits]
    split
    · rename_i h
      simp only [List.foldl_cons, List.foldl_nil]
      rw [ofNat_dig h]; omega
    · rw [List.foldl_append, ih (u / 10) (by omega)]
      simp only [List.foldl_cons, List.foldl_nil]
      rw [ofNat_dig (by omega)]; omega
theorem dd_inj {u v : Nat} (h : Lib.decDigits u = Lib.decDigits v) : u = v := by
  rw [← dd_val u, ← dd_val v, h]
theorem dd_mem (u : Nat) : ∀ c ∈ Lib.decDigits u, 48 ≤ c.toNat ∧ c.toNat ≤ 57 := by
  induction u using Nat.strongRecOn with
  | ind u ih =>
    intro c hc
    rw [Lib.decDigits] at hc
    split at hc
    · rename_i h
      rw [List.mem_singleton] at hc
      subst hc
      rw [ofNat_dig h]; omega
    · rcases List.mem_append.1 hc with hc | hc
      · exact ih (u / 10) (by omega) c hc
      · rw [List.mem_singleton] at hc
        subst hc
        rw [ofNat_dig (by omega)]; omega
theorem itoa_mem (n : Int) : ∀ c ∈ Lib.itoa n, c ≠ 44 ∧ c ≠ 58 := by
  intro c hc
  have hd : ∀ u, c ∈ Lib.decDigits u → c ≠ 44 ∧ c ≠ 58 := fun u h => by
    have := dd_mem u c h
    constructor
    · rintro rfl; simp at this
    · rintro rfl; simp at this
  unfold Lib.itoa at hc
  split at hc
  · rcases List.mem_cons.1 hc with rfl | hc
    · decide
    · exact hd _ hc
  · exact hd _ hc
theorem dd_45 {u : Nat} {r : List UInt8} (h : Lib.decDigits u = 45 :: r) : False := by
  have := dd_mem u 45 (by rw [h]; simp)
  simp at this
theorem itoa_inj {n m : Int} (h : Lib.itoa n = Lib.itoa m) : n = m := by
  unfold Lib.itoa at h
  split at h <;> split at h
  · injection h with _ h
    have := dd_inj h
    omega
  · exact (dd_45 h.symm).elim
  · exact (dd_45 h).elim
  · have := dd_inj h
    omega
theorem span_inj {c : UInt8} : ∀ {d1 d2 r1 r2 : List UInt8}, (∀ x ∈ d1, x ≠ c) → (∀ x ∈ d2, x ≠ c) → d1 ++ c :: r1 = d2 ++ c :: r2 → d1 = d2 ∧ r1 = r2
  | [], [], r1, r2, h1, h2, h => by simpa using h
  | [], y :: d2, r1, r2, h1, h2, h => by
    simp only [List.nil_append, List.cons_append, List.cons.injEq] at h
    exact absurd h.1.symm (h2 y (by simp))
  | x :: d1, [], r1, r2, h1, h2, h => by
    simp only [List.nil_append, List.cons_append, List.cons.injEq] at h
    exact absurd h.1 (h1 x (by simp))
  | x :: d1, y :: d2, r1, r2, h1, h2, h => by
    simp only [List.cons_append, List.cons.injEq] at h
    obtain ⟨rfl, h⟩ := h
    obtain ⟨rfl, rfl⟩ := span_inj (fun z hz => h1 z (by simp [hz])) (fun z hz => h2 z (by simp [hz])) h
    exact ⟨rfl, rfl⟩
theorem piece_inj {s t r u : List UInt8} (h : piece s ++ r = piece t ++ u) : s = t ∧ r = u := by
  unfold piece at h
  simp only [List.append_assoc, List.cons_append, List.nil_append] at h
  obtain ⟨h1, h2⟩ := span_inj (fun x hx => (itoa_mem _ x hx).2) (fun x hx => (itoa_mem _ x hx).2) h
  have h3 := itoa_inj h1
  exact List.append_inj h2 (by omega)
theorem tailK_44 (ns : List Int) : ∃ q, tailK ns ++ [44] = 44 :: q := by
  cases ns with
  | nil => exact ⟨[], rfl⟩
  | cons n r => exact ⟨Lib.itoa n ++ (tailK r ++ [44]), by simp [tailK]⟩
theorem tailK_inj : ∀ {ns ms : List Int}, tailK ns = tailK ms → ns = ms
  | [], [], h => rfl
  | [], m :: r, h => by simp [tailK] at h
  | n :: r, [], h => by simp [tailK] at h
  | n :: r, m :: q, h => by
    have h1 : Lib.itoa n ++ tailK r = Lib.itoa m ++ tailK q := by simpa [tailK] using h
    obtain ⟨a, ha⟩ := tailK_44 r
    obtain ⟨b, hb⟩ := tailK_44 q
    have h2 : Lib.itoa n ++ 44 :: a = Lib.itoa m ++ 44 :: b := by
      rw [← ha, ← hb, ← List.append_assoc, ← List.append_assoc, h1]
    obtain ⟨h3, h4⟩ := span_inj (fun x hx => (itoa_mem _ x hx).1) (fun x hx => (itoa_mem _ x hx).1) h2
    have h5 : tailK r = tailK q := by
      have : tailK r ++ [44] = tailK q ++ [44] := by rw [ha, hb, h4]
      exact List.append_cancel_right this
    rw [itoa_inj h3, tailK_inj h5]
theorem nkey_inj {x y : S24} {ns ms : List Int} (h : nkey x ns = nkey y ms) : x.f0 = y.f0 ∧ x.f1 = y.f1 ∧ x.f2 = y.f2 ∧ ns = ms := by
  unfold nkey headK at h
  simp only [List.append_assoc] at h
  obtain ⟨h0, h⟩ := piece_inj h
  obtain ⟨h1, h⟩ := piece_inj h
  obtain ⟨h2, h⟩ := piece_inj h
  exact ⟨itoa_inj h0, data_inj h1, data_inj h2, tailK_inj h⟩
/-- The keys so far, and the trees that they stand for. -/
structure KInv (ks : List (List UInt8)) (tr : List S24) : Prop where
  len : ks.length = tr.length
  nd : tr.Nodup
  key : ∀ (n : Nat) (y : S24), tr[n]? = some y → ks[n]? = some (nkey y (y.f3.map fun k => (tidx k tr : Int))) ∧ ∀ k ∈ y.f3, k ∈ tr
theorem map_tidx_inj {tr : List S24} : ∀ {l m : List S24}, (∀ k ∈ l, k ∈ tr) → (∀ k ∈ m, k ∈ tr) → (l.map fun k => (tidx k tr : Int)) = (m.map fun k => (tidx k tr : Int)) → l = m
  | [], [], _, _, _ => rfl
  | [], y :: m, _, _, h => by simp at h
  | x :: l, [], _, _, h => by simp at h
  | x :: l, y :: m, h1, h2, h => by
    simp only [List.map_cons, List.cons.injEq] at h
    rw [tidx_inj (h1 x (by simp)) (h2 y (by simp)) (by omega), map_tidx_inj (fun k hk => h1 k (by simp [hk])) (fun k hk => h2 k (by simp [hk])) h.2]
theorem KInv.same {ks : List (List UInt8)} {tr : List S24} (h : KInv ks tr) {y : S24} (hy : ∀ k ∈ y.f3, k ∈ tr) {j : Nat} (hj : ks[j]? = some (nkey y (y.f3.map fun k => (tidx k tr : Int)))) : tr[j]? = some y := by
  have hl : j < tr.length := by have := (List.getElem?_eq_some_iff.1 hj).1; have := h.len; omega
  have hz := List.getElem?_eq_getElem hl
  obtain ⟨h1, h2⟩ := h.key j _ hz
  rw [hj] at h1
  injection h1 with h1
  obtain ⟨e0, e1, e2, e3⟩ := nkey_inj h1
  have e4 := map_tidx_inj hy h2 e3
  rw [hz]
  congr 1
  obtain ⟨a, b, c, l⟩ := y
  generalize tr[j] = z at *
  obtain ⟨a', b', c', l'⟩ := z
  simp only at e0 e1 e2 e4
  rw [e0, e1, e2, e4]
theorem nodup_idx {α : Type} {l : List α} (h : l.Nodup) {i j : Nat} {x : α} (hi : l[i]? = some x) (hj : l[j]? = some x) : i = j := by
  obtain ⟨h1, e1⟩ := List.getElem?_eq_some_iff.1 hi
  obtain ⟨h2, e2⟩ := List.getElem?_eq_some_iff.1 hj
  rcases Nat.lt_trichotomy i j with hlt | heq | hlt
  · exact absurd (e1.trans e2.symm) (List.pairwise_iff_getElem.1 h i j h1 h2 hlt)
  · exact heq
  · exact absurd (e2.trans e1.symm) (List.pairwise_iff_getElem.1 h j i h2 h1 hlt)
theorem KInv.step {ks : List (List UInt8)} {tr : List S24} (h : KInv ks tr) {y : S24} (hy : ∀ k ∈ y.f3, k ∈ tr) :
    ks.idxOf (nkey y (y.f3.map fun k => (tidx k tr : Int))) = tidx y tr ∧
    KInv (if nkey y (y.f3.map fun k => (tidx k tr : Int)) ∈ ks then ks else ks ++ [nkey y (y.f3.map fun k => (tidx k tr : Int))]) (tput y tr) := by
  by_cases hm : y ∈ tr
  · have hk := (h.key _ _ (tidx_get hm)).1
    have hin : nkey y (y.f3.map fun k => (tidx k tr : Int)) ∈ ks := List.mem_of_getElem? hk
    have ht : tput y tr = tr := by unfold tput; rw [if_pos hm]
    rw [if_pos hin, ht]
    refine ⟨?_, h⟩
    have hlt := List.idxOf_lt_length_of_mem hin
    have hg : ks[ks.idxOf (nkey y (y.f3.map fun k => (tidx k tr : Int)))]? = some (nkey y (y.f3.map fun k => (tidx k tr : Int))) := by
      rw [List.getElem?_eq_getElem hlt]
      congr 1
      exact List.getElem_idxOf hlt
    exact nodup_idx h.nd (h.same hy hg) (tidx_get hm)
  · have hin : nkey y (y.f3.map fun k => (tidx k tr : Int)) ∉ ks := fun hin => by
      obtain ⟨j, hj⟩ := List.getElem?_of_mem hin
      exact hm (List.mem_of_getElem? (h.same hy hj))
    have ht : tput y tr = tr ++ [y] := by unfold tput; rw [if_neg hm]
    rw [if_neg hin, ht]
    refine ⟨by rw [List.idxOf_eq_length hin, tidx_not hm, h.len], ?_, ?_, ?_⟩
    · simp [h.len]
    · rw [List.nodup_append]
      exact ⟨h.nd, by simp, fun a ha b hb e => hm (by rw [List.mem_singleton] at hb; rw [← hb, ← e]; exact ha)⟩
    · intro n z hz
      have hmap : ∀ l : List S24, (∀ k ∈ l, k ∈ tr) → (l.map fun k => (tidx k (tr ++ [y]) : Int)) = l.map fun k => (tidx k tr : Int) := fun l hl => by
        apply List.map_congr_left
        intro k hk
        rw [tidx_app _ (hl k hk)]
      by_cases hn : n < tr.length
      · rw [List.getElem?_append_left hn] at hz
        obtain ⟨h1, h2⟩ := h.key n z hz
        rw [List.getElem?_append_left (by rw [h.len]; exact hn), h1, hmap _ h2]
        exact ⟨rfl, fun k hk => List.mem_append_left _ (h2 k hk)⟩
      · have hl := (List.getElem?_eq_some_iff.1 hz).1
        simp only [List.length_append, List.length_cons, List.length_nil] at hl
        obtain rfl : n = tr.length := by omega
        rw [List.getElem?_append_right (Nat.le_refl _), Nat.sub_self] at hz
        simp only [List.getElem?_cons_zero, Option.some.injEq] at hz
        subst hz
        rw [List.getElem?_append_right (by rw [h.len]; exact Nat.le_refl _), h.len, Nat.sub_self, hmap _ hy]
        exact ⟨rfl, fun k hk => List.mem_append_left _ (hy k hk)⟩
mutual
theorem lay_node {s : PS} : ∀ (x : S24) (at_ : Nat) (p : Int) (N rest : List S24), Lay s x at_ p → N.drop at_ = pre x ++ rest → ∀ i, at_ ≤ i → i < at_ + nsz x → ∃ y q rest', Lay s y i q ∧ N.drop i = pre y ++ rest'
  | ⟨a, b, c, l⟩, at_, p, N, rest, h, hN, i, h0, h1 => by
    by_cases he : i = at_
    · subst he; exact ⟨_, _, _, h, hN⟩
    · simp only [Lay, nsz] at h h1
      refine layL_node l (at_ + 1) at_ N rest h.2.2.2 ?_ i (by omega) (by omega)
      rw [← List.drop_drop, hN]
      simp [pre]
theorem layL_node {s : PS} : ∀ (l : List S24) (a : Nat) (p : Int) (N rest : List S24), LayL s l a p → N.drop a = preL l ++ rest → ∀ i, a ≤ i → i < a + nszL l → ∃ y q rest', Lay s y i q ∧ N.drop i = pre y ++ rest'
  | [], a, p, N, rest, h, hN, i, h0, h1 => by simp only [nszL] at h1; omega
  | k :: r, a, p, N, rest, h, hN, i, h0, h1 => by
    simp only [LayL, nszL] at h h1
    simp only [preL, List.append_assoc] at hN
    by_cases hc : i < a + nsz k
    · exact lay_node k a p N _ h.1 hN i h0 hc
    · refine layL_node r (a + nsz k) p N rest h.2 ?_ i (by omega) (by omega)
      rw [← List.drop_drop, hN, ← pre_len k, List.drop_left]
end
theorem head_pre (x : S24) (r : List S24) : ∃ q, pre x ++ r = x :: q := by
  obtain ⟨a, b, c, l⟩ := x; exact ⟨_, by simp [pre]; rfl⟩
theorem kids_own {N : List S24} {own : List Int} {num : S24 → Int} : ∀ (l : List S24) (a : Nat) (rest : List S24), N.drop a = preL l ++ rest → (∀ j y, a ≤ j → N[j]? = some y → own.getD j 0 = num y) →
    ((places l a).map fun k => own.getD k.toNat 0) = l.map num
  | [], a, rest, h, ho => rfl
  | k :: r, a, rest, h, ho => by
    simp only [preL, List.append_assoc] at h
    have h1 : N[a]? = some k := by
      obtain ⟨q, hq⟩ := head_pre k (preL r ++ rest)
      have : (N.drop a)[0]? = some k := by rw [h, hq]; rfl
      simpa using this
    have h2 : N.drop (a + nsz k) = preL r ++ rest := by rw [← List.drop_drop, h, ← pre_len k, List.drop_left]
    simp only [places, List.map_cons]
    rw [kids_own r (a + nsz k) rest h2 (fun j y hj => ho j y (by omega))]
    congr 1
    exact ho a k (Nat.le_refl _) h1
theorem kids_in {N : List S24} : ∀ (l : List S24) (a : Nat) (rest : List S24), N.drop a = preL l ++ rest → ∀ k ∈ l, ∃ j, a ≤ j ∧ N[j]? = some k
  | [], a, rest, h, k, hk => by cases hk
  | y :: r, a, rest, h, k, hk => by
    simp only [preL, List.append_assoc] at h
    rcases List.mem_cons.1 hk with rfl | hk
    · refine ⟨a, Nat.le_refl _, ?_⟩
      obtain ⟨q, hq⟩ := head_pre k (preL r ++ rest)
      have : (N.drop a)[0]? = some k := by rw [h, hq]; rfl
      simpa using this
    · obtain ⟨j, hj, hn⟩ := kids_in r (a + nsz y) rest (by rw [← List.drop_drop, h, ← pre_len y, List.drop_left]) k hk
      exact ⟨j, by omega, hn⟩
theorem own_ev (P : PS) (x : S24) (hP : P = ofP x) : ∀ (i : Nat) (ks : List (List UInt8)) (tr : List S24) (own : List Int), i ≤ nsz x → KInv ks tr → own.length = nsz x →
    (∀ j y, i ≤ j → (pre x)[j]? = some y → y ∈ tr ∧ own.getD j 0 = (tidx y tr : Int)) →
    ∃ m, KInv (ownGo P i ks own).1 (tr ++ m) ∧ (ownGo P i ks own).2 = (pre x).map (fun y => (tidx y (tr ++ m) : Int)) ∧ ∀ y ∈ pre x, y ∈ tr ++ m
  | 0, ks, tr, own, hi, hk, hl, ho => by
    refine ⟨[], by simpa [ownGo] using hk, ?_, fun y hy => ?_⟩
    · simp only [ownGo, List.append_nil]
      apply List.ext_getElem?
      intro j
      by_cases hj : j < nsz x
      · have hj2 : j < (pre x).length := by rw [pre_len]; exact hj
        have h := (ho j _ (Nat.zero_le _) (List.getElem?_eq_getElem hj2)).2
        rw [List.getD_eq_getElem?_getD, List.getElem?_eq_getElem (by omega)] at h
        rw [List.getElem?_eq_getElem (by omega), List.getElem?_map, List.getElem?_eq_getElem hj2]
        simpa using h
      · rw [List.getElem?_eq_none (by omega), List.getElem?_eq_none (by simp [pre_len]; omega)]
    · obtain ⟨j, hj⟩ := List.getElem?_of_mem hy
      simpa using (ho j y (Nat.zero_le _) hj).1
  | i + 1, ks, tr, own, hi, hk, hl, ho => by
    obtain ⟨w1, ag, lay⟩ := addN_lay x (-1) ⟨[], [], [], []⟩ ⟨rfl, rfl, rfl⟩
    obtain ⟨y, q, rest, hy, hN⟩ := lay_node x 0 (-1) (pre x) [] lay (by simp) i (by omega) (by omega)
    have hyi : (pre x)[i]? = some y := by
      obtain ⟨u, hu⟩ := head_pre y rest
      have : ((pre x).drop i)[0]? = some y := by rw [hN, hu]; rfl
      simpa using this
    have hN2 : (pre x).drop (i + 1) = preL y.f3 ++ rest := by
      rw [← List.drop_drop, hN]
      obtain ⟨a, b, c, l⟩ := y
      simp [pre]
    have hkid : ∀ k ∈ y.f3, k ∈ tr := fun k hkm => by
      obtain ⟨j, hj, hn⟩ := kids_in y.f3 (i + 1) rest hN2 k hkm
      exact (ho j k hj hn).1
    have hPN : P.N.getD i z24 = y := by
      rw [hP, ofP_N, List.getD_eq_getElem?_getD, hyi]; rfl
    have hPK : (P.K.getD i []).map (fun k => own.getD k.toNat 0) = y.f3.map fun k => (tidx k tr : Int) := by
      have hK : P.K[i]? = some (places y.f3 (i + 1)) := by
        rw [hP]
        obtain ⟨a, b, c, l⟩ := y
        exact hy.2.2.1
      rw [List.getD_eq_getElem?_getD, hK]
      exact kids_own y.f3 (i + 1) rest hN2 (fun j z hj hz => (ho j z hj hz).2)
    obtain ⟨h1, h2⟩ := hk.step hkid
    rw [ownGo]
    simp only [hPN, hPK, h1]
    obtain ⟨m1, hm1⟩ := tput_app y tr
    obtain ⟨m, g1, g2, g3⟩ := own_ev P x hP i _ (tput y tr) (own.set i ((tidx y tr : Nat) : Int)) (by omega) h2 (by simpa using hl) (fun j z hj hz => by
      by_cases hji : j = i
      · subst hji
        rw [hyi] at hz
        injection hz with hz
        subst hz
        refine ⟨tput_mem y tr, ?_⟩
        rw [List.getD_eq_getElem?_getD, List.getElem?_set_self (by omega), tidx_put]
        rfl
      · obtain ⟨e1, e2⟩ := ho j z (by omega) hz
        refine ⟨by rw [hm1]; exact List.mem_append_left _ e1, ?_⟩
        rw [List.getD_eq_getElem?_getD, List.getElem?_set_ne (Ne.symm hji), ← List.getD_eq_getElem?_getD, e2, hm1, tidx_app _ e1])
    refine ⟨m1 ++ m, ?_, ?_, ?_⟩
    · rw [← List.append_assoc, ← hm1]; exact g1
    · rw [← List.append_assoc, ← hm1]; exact g2
    · rw [← List.append_assoc, ← hm1]; exact g3
theorem rough_ev : ∀ (l : List S24) (ks : List (List UInt8)) (tr : List S24), KInv ks tr → ∃ m, rough l ks = l.map (fun x => (pre x).map fun y => (tidx y (tr ++ m) : Int)) ∧ ∀ x ∈ l, ∀ y ∈ pre x, y ∈ tr ++ m
  | [], ks, tr, h => ⟨[], rfl, fun x hx => by cases hx⟩
  | x :: r, ks, tr, h => by
    have hN : (ofP x).N.length = nsz x := by rw [ofP_N, pre_len]
    obtain ⟨m, g1, g2, g3⟩ := own_ev (ofP x) x rfl (nsz x) ks tr (List.replicate (nsz x) 0) (Nat.le_refl _) h (by simp) (fun j y hj hy => by
      have := (List.getElem?_eq_some_iff.1 hy).1
      rw [pre_len] at this
      omega)
    obtain ⟨m2, e1, e2⟩ := rough_ev r _ (tr ++ m) g1
    refine ⟨m ++ m2, ?_, fun z hz y hy => ?_⟩
    · rw [rough]
      simp only [hN]
      rw [e1, g2, List.map_cons, List.append_assoc]
      congr 1
      apply List.map_congr_left
      intro y hy
      rw [← List.append_assoc, tidx_app m2 (g3 y hy)]
    · rcases List.mem_cons.1 hz with rfl | hz
      · rw [← List.append_assoc]; exact List.mem_append_left _ (g3 y hy)
      · rw [← List.append_assoc]; exact e2 z hz y hy
section
variable {T : List S24} {num : S24 → Int} (hinj : ∀ y ∈ T, ∀ z ∈ T, num y = num z → y = z)
include hinj
theorem idxOf_num {y : S24} (hy : y ∈ T) : ∀ (ks : List S24), (∀ k ∈ ks, k ∈ T) → (ks.map num).idxOf (num y) = tidx y ks
  | [], _ => rfl
  | s :: r, h => by
    rw [List.map_cons, List.idxOf_cons]
    unfold tidx
    by_cases hs : s = y
    · subst hs; simp
    · rw [if_neg hs, idxOf_num hy r (fun k hk => h k (by simp [hk]))]
      have : (num s == num y) = false := by
        rw [beq_eq_false_iff_ne]
        exact fun e => hs (hinj s (h s (by simp)) y hy e)
      rw [this]; rfl
theorem mem_num {y : S24} (hy : y ∈ T) (ks : List S24) (h : ∀ k ∈ ks, k ∈ T) : num y ∈ ks.map num ↔ y ∈ ks := by
  rw [List.mem_map]
  constructor
  · rintro ⟨z, hz, e⟩
    rw [← hinj z (h z hz) y hy e]; exact hz
  · exact fun hm => ⟨y, hm, rfl⟩
theorem put_num {y : S24} (hy : y ∈ T) (ks : List S24) (h : ∀ k ∈ ks, k ∈ T) : (if num y ∈ ks.map num then ks.map num else ks.map num ++ [num y]) = (tput y ks).map num := by
  unfold tput
  by_cases hm : y ∈ ks
  · rw [if_pos hm, if_pos ((mem_num hinj hy ks h).2 hm)]
  · rw [if_neg hm, if_neg (fun e => hm ((mem_num hinj hy ks h).1 e))]
    simp
omit hinj in
theorem put_in {y : S24} (hy : y ∈ T) (ks : List S24) (h : ∀ k ∈ ks, k ∈ T) : ∀ k ∈ tput y ks, k ∈ T := by
  intro k hk
  unfold tput at hk
  split at hk
  · exact h k hk
  · rcases List.mem_append.1 hk with hk | hk
    · exact h k hk
    · rw [List.mem_singleton.1 hk]; exact hy
theorem renum_num : ∀ (o ks : List S24), (∀ k ∈ o, k ∈ T) → (∀ k ∈ ks, k ∈ T) → renum (o.map num) (ks.map num) = tnum o ks ∧ seen (o.map num) (ks.map num) = (tseen o ks).map num ∧ ∀ k ∈ tseen o ks, k ∈ T
  | [], ks, ho, hk => ⟨rfl, rfl, hk⟩
  | y :: r, ks, ho, hk => by
    have hy := ho y (by simp)
    obtain ⟨h1, h2, h3⟩ := renum_num r (tput y ks) (fun k hk => ho k (by simp [hk])) (put_in hy ks hk)
    simp only [List.map_cons, renum, seen, tnum, tseen]
    rw [idxOf_num hinj hy ks hk, put_num hinj hy ks hk, h1]
    exact ⟨rfl, h2, h3⟩
theorem renums_num : ∀ (l : List (List S24)) (ks : List S24), (∀ o ∈ l, ∀ k ∈ o, k ∈ T) → (∀ k ∈ ks, k ∈ T) → renums (l.map fun o => o.map num) (ks.map num) = tnums l ks
  | [], ks, ho, hk => rfl
  | o :: r, ks, ho, hk => by
    obtain ⟨h1, h2, h3⟩ := renum_num hinj o ks (ho o (by simp)) hk
    simp only [List.map_cons, renums, tnums]
    rw [h1, h2, renums_num r (tseen o ks) (fun q hq => ho q (by simp [hq])) h3]
end
/-- The numbers of shape.Marks: by the trees' first places. -/
theorem marks_eq (l : List S24) : marks l = tnums (l.map pre) [] := by
  obtain ⟨m, h1, h2⟩ := rough_ev l [] [] ⟨rfl, List.nodup_nil, fun n y h => by simp at h⟩
  unfold marks
  rw [h1]
  have h := renums_num (T := [] ++ m) (num := fun y => (tidx y ([] ++ m) : Int)) (fun y hy z hz e => tidx_inj hy hz (Int.natCast_inj.1 e)) (l.map pre) [] (fun o ho k hk => by
    obtain ⟨x, hx, rfl⟩ := List.mem_map.1 ho
    exact h2 x hx k hk) (fun k hk => by cases hk)
  rw [List.map_map] at h
  exact h
end Go.Proofs.YtfmlpkeaiohknaaDoor.Q
