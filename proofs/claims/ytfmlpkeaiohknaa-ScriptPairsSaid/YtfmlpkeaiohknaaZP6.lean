/- The texts of this claim that lie below its row, in their order: Gt Gw Gu Gx Gk Gy Gz Gl MSr Gn Gg GA GC GEq. -/
import Derived.Deep.RegionLaw
import Derived.Deep.DeepMust
import Derived.Maps.RangeWalk
import Derived.ChangeKeysEq
import Derived.Test.YtfmlpkeaiohknaaZP5
/-! (*grove).do: a knot that can't go. -/
set_option linter.unusedVariables false
set_option linter.unusedSimpArgs false
namespace Go.Proofs.Ytfmlpkeaiohknaa.Q
open Go Go.RowKit Go.Lib Go.Sort Go.Proofs.YtfmlpkeaiohknaaW.PrintWords Go.Proofs.YtfmlpkeaiohknaaW.PrintLast Go.Proofs.YtfmlpkeaiohknaaW.PrintMore Go.Proofs.YtfmlpkeaiohknaaW.SL
attribute [local go_sem] max2_int min2_int max_two min_two max_three min_three max_four min_four
set_option maxHeartbeats 4000000 in
set_option maxRecDepth 100000 in
theorem do_stay00 {w0 w : World} {Z : Nat → Prop} {pre X : List Asr} {F : List FA} {ad : Int → Nat} {g : List Hk} {gb bm m : Nat} {ids : List Int} (S : Stt w0 Z (GL (blk gb 61 #[.map (some bm)] :: mpK bm m ad ids :: pre) ad g X) F w)
    (id pa af ki : Int) (tx tr : ByteArray) (h1 : in64 id) (h2 : in64 pa) (hid : id ∈ ids) {jx : Nat} {hx : Hk} (ex : g[jx]? = some hx) (hxi : hx.k.id = id) (hpar : hx.k.par = none) (hpa : pa ∉ ids) :
    Calls Try.prog 21 #[.pointer (some ⟨gb, 0, none⟩), .agg #[.int .i64 2, .int .i64 id, .int .i64 pa, .int .i64 af, .int .i64 ki, .string tx, .string tr]] w fun e w' => e = .returned (.bool false) ∧ Stt w0 Z (GL (blk gb 61 #[.map (some bm)] :: mpK bm m ad ids :: pre) ad g X) F w' := by
  obtain ⟨EC, hEC⟩ : ∃ EC : Array Value, EC = #[.int .i64 2, .int .i64 id, .int .i64 pa, .int .i64 af, .int .i64 ki, .string tx, .string tr] := ⟨_, rfl⟩
  have S1 : Stt w0 Z (GL (blk w.heap.size 54 EC :: blk gb 61 #[.map (some bm)] :: mpK bm m ad ids :: pre) ad g X) F (w.alloc (.cells EC 54)) := S.box rfl (heap_alloc_new w _) (below_alloc (Below.refl _ _) _)
  have l1 := map_ok (stt_drew S1) 2 rfl h1
  have l2 := map_ok (stt_drew (stt_drew S1)) 2 rfl h2
  have hgb1 : (w.alloc (.cells EC 54)).cell? ⟨gb, 0, none⟩ = some (.map (some bm)) := (blk_cell (S1.at_blk 1 rfl) 0).trans rfl
  have SP := stt_drew (stt_drew S1)
  rw [if_pos hid, decide_eq_true hid] at l1
  obtain ⟨a, ha⟩ : ∃ a, ad id = a := ⟨_, rfl⟩
  simp only [pk, ha] at l1
  have HB : ∀ W, Stt w0 Z (GL (blk w.heap.size 54 EC :: blk gb 61 #[.map (some bm)] :: mpK bm m ad ids :: pre) ad g X) F W → W.cell? ⟨a, 5, none⟩ = some (.pointer none) ∧ True := fun W SW => ⟨by rw [← ha, ← hxi]; exact (blk_cell (kn_blk SW ex) 5).trans (show (knB ad hx.k hx.v)[5]? = some (.pointer none) by show some (pp ad hx.k.par) = _; rw [hpar]; rfl), trivial⟩
  obtain ⟨hx5, hx6⟩ := HB _ S1
  have HC := Aside0.mk HB
  clear HB ex hxi hpar ha
  rw [if_neg hpa, decide_eq_false hpa] at l2
  rw [hEC] at l1 l2 hgb1 SP hx5 HC
  replace SP := Aside0.mk SP
  clear S S1 h1 h2 hid hpa hEC EC
  have mixed : Try.prog.follows .mixedOrders = true := by kernel_rfl
  go_enter Try.func21, Try.ntmps21
  go_wp2
  go_region_o
  go_wp2
  go_region_o
  go_wp2
  go_ret
  exact ⟨rfl, Stt.drop (l := GL (blk gb 61 #[.map (some bm)] :: mpK bm m ad ids :: pre) ad _ X) SP.out⟩
set_option maxHeartbeats 4000000 in
set_option maxRecDepth 100000 in
theorem do_stay01 {w0 w : World} {Z : Nat → Prop} {pre X : List Asr} {F : List FA} {ad : Int → Nat} {g : List Hk} {gb bm m : Nat} {ids : List Int} (S : Stt w0 Z (GL (blk gb 61 #[.map (some bm)] :: mpK bm m ad ids :: pre) ad g X) F w)
    (id pa af ki : Int) (tx tr : ByteArray) (h1 : in64 id) (h2 : in64 pa) (hid : id ∈ ids) {jx : Nat} {hx : Hk} (ex : g[jx]? = some hx) (hxi : hx.k.id = id) (hpar : hx.k.par = none) (hpa : pa ∈ ids) (haf : af = -1) :
    Calls Try.prog 21 #[.pointer (some ⟨gb, 0, none⟩), .agg #[.int .i64 2, .int .i64 id, .int .i64 pa, .int .i64 af, .int .i64 ki, .string tx, .string tr]] w fun e w' => e = .returned (.bool false) ∧ Stt w0 Z (GL (blk gb 61 #[.map (some bm)] :: mpK bm m ad ids :: pre) ad g X) F w' := by
  obtain ⟨EC, hEC⟩ : ∃ EC : Array Value, EC = #[.int .i64 2, .int .i64 id, .int .i64 pa, .int .i64 af, .int .i64 ki, .string tx, .string tr] := ⟨_, rfl⟩
  have S1 : Stt w0 Z (GL (blk w.heap.size 54 EC :: blk gb 61 #[.map (some bm)] :: mpK bm m ad ids :: pre) ad g X) F (w.alloc (.cells EC 54)) := S.box rfl (heap_alloc_new w _) (below_alloc (Below.refl _ _) _)
  have l1 := map_ok (stt_drew S1) 2 rfl h1
  have l2 := map_ok (stt_drew (stt_drew S1)) 2 rfl h2
  have hgb1 : (w.alloc (.cells EC 54)).cell? ⟨gb, 0, none⟩ = some (.map (some bm)) := (blk_cell (S1.at_blk 1 rfl) 0).trans rfl
  have SP := stt_drew (stt_drew S1)
  rw [if_pos hid, decide_eq_true hid] at l1
  obtain ⟨a, ha⟩ : ∃ a, ad id = a := ⟨_, rfl⟩
  simp only [pk, ha] at l1
  have HB : ∀ W, Stt w0 Z (GL (blk w.heap.size 54 EC :: blk gb 61 #[.map (some bm)] :: mpK bm m ad ids :: pre) ad g X) F W → W.cell? ⟨a, 5, none⟩ = some (.pointer none) ∧ True := fun W SW => ⟨by rw [← ha, ← hxi]; exact (blk_cell (kn_blk SW ex) 5).trans (show (knB ad hx.k hx.v)[5]? = some (.pointer none) by show some (pp ad hx.k.par) = _; rw [hpar]; rfl), trivial⟩
  obtain ⟨hx5, hx6⟩ := HB _ S1
  have HC := Aside0.mk HB
  clear HB ex hxi hpar ha
  subst haf
  rw [if_pos hpa, decide_eq_true hpa] at l2
  obtain ⟨c, hc⟩ : ∃ c, ad pa = c := ⟨_, rfl⟩
  simp only [pk, hc] at l2
  rw [hEC] at l1 l2 hgb1 SP hx5 HC
  replace SP := Aside0.mk SP
  clear hc S S1 h1 h2 hid hpa hEC EC
  have mixed : Try.prog.follows .mixedOrders = true := by kernel_rfl
  go_enter Try.func21, Try.ntmps21
  go_wp2
  go_region_o
  go_wp2
  go_region_o
  go_wp2
  go_ret
  exact ⟨rfl, Stt.drop (l := GL (blk gb 61 #[.map (some bm)] :: mpK bm m ad ids :: pre) ad _ X) SP.out⟩
set_option maxHeartbeats 4000000 in
set_option maxRecDepth 100000 in
theorem do_stay02 {w0 w : World} {Z : Nat → Prop} {pre X : List Asr} {F : List FA} {ad : Int → Nat} {g : List Hk} {gb bm m : Nat} {ids : List Int} (S : Stt w0 Z (GL (blk gb 61 #[.map (some bm)] :: mpK bm m ad ids :: pre) ad g X) F w)
    (id pa af ki : Int) (tx tr : ByteArray) (h1 : in64 id) (h2 : in64 pa) (hid : id ∈ ids) {jx : Nat} {hx : Hk} (ex : g[jx]? = some hx) (hxi : hx.k.id = id) (hpar : hx.k.par = none) (hpa : pa ∈ ids) (haf : ¬ af = -1) {jp : Nat} {hp : Hk} (ep : g[jp]? = some hp) (hpi : hp.k.id = pa) (hids : ∀ y ∈ hp.k.kids, ∃ (j : Nat) (h : Hk), g[j]? = some h ∧ h.k.id = y) :
    Calls Try.prog 21 #[.pointer (some ⟨gb, 0, none⟩), .agg #[.int .i64 2, .int .i64 id, .int .i64 pa, .int .i64 af, .int .i64 ki, .string tx, .string tr]] w fun e w' => e = .returned (.bool false) ∧ Stt w0 Z (GL (blk gb 61 #[.map (some bm)] :: mpK bm m ad ids :: pre) ad g X) F w' := by
  obtain ⟨EC, hEC⟩ : ∃ EC : Array Value, EC = #[.int .i64 2, .int .i64 id, .int .i64 pa, .int .i64 af, .int .i64 ki, .string tx, .string tr] := ⟨_, rfl⟩
  have S1 : Stt w0 Z (GL (blk w.heap.size 54 EC :: blk gb 61 #[.map (some bm)] :: mpK bm m ad ids :: pre) ad g X) F (w.alloc (.cells EC 54)) := S.box rfl (heap_alloc_new w _) (below_alloc (Below.refl _ _) _)
  have l1 := map_ok (stt_drew S1) 2 rfl h1
  have l2 := map_ok (stt_drew (stt_drew S1)) 2 rfl h2
  have hgb1 : (w.alloc (.cells EC 54)).cell? ⟨gb, 0, none⟩ = some (.map (some bm)) := (blk_cell (S1.at_blk 1 rfl) 0).trans rfl
  have SP := stt_drew (stt_drew S1)
  rw [if_pos hid, decide_eq_true hid] at l1
  obtain ⟨a, ha⟩ : ∃ a, ad id = a := ⟨_, rfl⟩
  simp only [pk, ha] at l1
  have HB : ∀ W, Stt w0 Z (GL (blk w.heap.size 54 EC :: blk gb 61 #[.map (some bm)] :: mpK bm m ad ids :: pre) ad g X) F W → W.cell? ⟨a, 5, none⟩ = some (.pointer none) ∧ True := fun W SW => ⟨by rw [← ha, ← hxi]; exact (blk_cell (kn_blk SW ex) 5).trans (show (knB ad hx.k hx.v)[5]? = some (.pointer none) by show some (pp ad hx.k.par) = _; rw [hpar]; rfl), trivial⟩
  obtain ⟨hx5, hx6⟩ := HB _ S1
  have HC := Aside0.mk HB
  clear HB ex hxi hpar ha
  clear hx5 hx6
  have HP := place_calls ad hp.k hp.v af _ (kn_blk SP ep) (kn_row SP ep) (fun y hy => by obtain ⟨jy, hy', e1, e2⟩ := hids y hy; rw [← e2, blk_cell (kn_blk SP e1) 0]; rfl)
  obtain ⟨R, hR⟩ : ∃ R, placeOf hp.k.kids af = R := ⟨_, rfl⟩
  rw [hR] at HP
  obtain ⟨c, hc⟩ : ∃ c, ad pa = c := ⟨_, rfl⟩
  rw [if_pos hpa, decide_eq_true hpa] at l2
  simp only [pk, hc] at l2
  rw [hpi] at HP
  simp only [pk, hc] at HP
  replace HP := Aside0.mk HP
  rw [hEC] at l1 l2 hgb1 HP SP HC
  replace SP := Aside0.mk SP
  clear hc S S1 h1 h2 hid hpa ep hids hpi hR hEC EC
  have mixed : Try.prog.follows .mixedOrders = true := by kernel_rfl
  go_enter Try.func21, Try.ntmps21
  go_wp2
  go_region_o
  go_wp2
  go_region_o
  go_wp2_with (go_at_call 29; refine HP.out.mono ?_; rintro e_ w1 ⟨rfl, hB⟩; have S2 := SP.out.keep hB; have q0 := (blk_cell (S2.at_blk 0 rfl) 0).trans rfl; obtain ⟨hx5, hx6⟩ := HC.out w1 S2; replace S2 := Aside0.mk S2; clear hB)
  go_ret
  exact ⟨rfl, Stt.drop (l := GL (blk gb 61 #[.map (some bm)] :: mpK bm m ad ids :: pre) ad _ X) S2.out⟩
set_option maxHeartbeats 4000000 in
set_option maxRecDepth 100000 in
theorem do_stay10 {w0 w : World} {Z : Nat → Prop} {pre X : List Asr} {F : List FA} {ad : Int → Nat} {g : List Hk} {gb bm m : Nat} {ids : List Int} (S : Stt w0 Z (GL (blk gb 61 #[.map (some bm)] :: mpK bm m ad ids :: pre) ad g X) F w)
    (id pa af ki : Int) (tx tr : ByteArray) (h1 : in64 id) (h2 : in64 pa) (hid : id ∈ ids) {jx : Nat} {hx : Hk} (ex : g[jx]? = some hx) (hxi : hx.k.id = id) {q : Int} (hpar : hx.k.par = some q) (hk1 : 0 < hx.k.kids.length) (hpa : pa ∉ ids) :
    Calls Try.prog 21 #[.pointer (some ⟨gb, 0, none⟩), .agg #[.int .i64 2, .int .i64 id, .int .i64 pa, .int .i64 af, .int .i64 ki, .string tx, .string tr]] w fun e w' => e = .returned (.bool false) ∧ Stt w0 Z (GL (blk gb 61 #[.map (some bm)] :: mpK bm m ad ids :: pre) ad g X) F w' := by
  obtain ⟨EC, hEC⟩ : ∃ EC : Array Value, EC = #[.int .i64 2, .int .i64 id, .int .i64 pa, .int .i64 af, .int .i64 ki, .string tx, .string tr] := ⟨_, rfl⟩
  have S1 : Stt w0 Z (GL (blk w.heap.size 54 EC :: blk gb 61 #[.map (some bm)] :: mpK bm m ad ids :: pre) ad g X) F (w.alloc (.cells EC 54)) := S.box rfl (heap_alloc_new w _) (below_alloc (Below.refl _ _) _)
  have l1 := map_ok (stt_drew S1) 2 rfl h1
  have l2 := map_ok (stt_drew (stt_drew S1)) 2 rfl h2
  have hgb1 : (w.alloc (.cells EC 54)).cell? ⟨gb, 0, none⟩ = some (.map (some bm)) := (blk_cell (S1.at_blk 1 rfl) 0).trans rfl
  have SP := stt_drew (stt_drew S1)
  rw [if_pos hid, decide_eq_true hid] at l1
  obtain ⟨a, ha⟩ : ∃ a, ad id = a := ⟨_, rfl⟩
  simp only [pk, ha] at l1
  obtain ⟨A, c0, hA, _⟩ := own_form (kn_row S1 ex)
  obtain ⟨nk, hnk⟩ : ∃ nk, hx.k.kids.length = nk := ⟨_, rfl⟩
  rw [hnk] at hA hk1
  have hk2 : (0 : Int) < (nk : Int) := by omega
  obtain ⟨aq, haq⟩ : ∃ aq, ad q = aq := ⟨_, rfl⟩
  have HB : ∀ W, Stt w0 Z (GL (blk w.heap.size 54 EC :: blk gb 61 #[.map (some bm)] :: mpK bm m ad ids :: pre) ad g X) F W → W.cell? ⟨a, 5, none⟩ = some (.pointer (some ⟨aq, 0, none⟩)) ∧ W.cell? ⟨a, 6, none⟩ = some (.slice A nk c0) := fun W SW => ⟨by rw [← ha, ← hxi]; exact (blk_cell (kn_blk SW ex) 5).trans (show (knB ad hx.k hx.v)[5]? = _ by show some (pp ad hx.k.par) = _; rw [hpar, ← haq]; rfl), by rw [← ha, ← hxi]; exact (blk_cell (kn_blk SW ex) 6).trans (show (knB ad hx.k hx.v)[6]? = _ by show some hx.v = _; rw [hA])⟩
  obtain ⟨hx5, hx6⟩ := HB _ S1
  have HC := Aside0.mk HB
  clear HB ex hxi hpar ha hnk hA haq
  rw [if_neg hpa, decide_eq_false hpa] at l2
  rw [hEC] at l1 l2 hgb1 SP hx5 hx6 HC
  replace SP := Aside0.mk SP
  clear S S1 h1 h2 hid hpa hEC EC
  have mixed : Try.prog.follows .mixedOrders = true := by kernel_rfl
  go_enter Try.func21, Try.ntmps21
  go_wp2
  go_region_o
  go_wp2
  go_region_o
  go_wp2
  go_ret
  exact ⟨rfl, Stt.drop (l := GL (blk gb 61 #[.map (some bm)] :: mpK bm m ad ids :: pre) ad _ X) SP.out⟩
set_option maxHeartbeats 4000000 in
set_option maxRecDepth 100000 in
theorem do_stay11 {w0 w : World} {Z : Nat → Prop} {pre X : List Asr} {F : List FA} {ad : Int → Nat} {g : List Hk} {gb bm m : Nat} {ids : List Int} (S : Stt w0 Z (GL (blk gb 61 #[.map (some bm)] :: mpK bm m ad ids :: pre) ad g X) F w)
    (id pa af ki : Int) (tx tr : ByteArray) (h1 : in64 id) (h2 : in64 pa) (hid : id ∈ ids) {jx : Nat} {hx : Hk} (ex : g[jx]? = some hx) (hxi : hx.k.id = id) {q : Int} (hpar : hx.k.par = some q) (hk1 : 0 < hx.k.kids.length) (hpa : pa ∈ ids) (haf : af = -1) :
    Calls Try.prog 21 #[.pointer (some ⟨gb, 0, none⟩), .agg #[.int .i64 2, .int .i64 id, .int .i64 pa, .int .i64 af, .int .i64 ki, .string tx, .string tr]] w fun e w' => e = .returned (.bool false) ∧ Stt w0 Z (GL (blk gb 61 #[.map (some bm)] :: mpK bm m ad ids :: pre) ad g X) F w' := by
  obtain ⟨EC, hEC⟩ : ∃ EC : Array Value, EC = #[.int .i64 2, .int .i64 id, .int .i64 pa, .int .i64 af, .int .i64 ki, .string tx, .string tr] := ⟨_, rfl⟩
  have S1 : Stt w0 Z (GL (blk w.heap.size 54 EC :: blk gb 61 #[.map (some bm)] :: mpK bm m ad ids :: pre) ad g X) F (w.alloc (.cells EC 54)) := S.box rfl (heap_alloc_new w _) (below_alloc (Below.refl _ _) _)
  have l1 := map_ok (stt_drew S1) 2 rfl h1
  have l2 := map_ok (stt_drew (stt_drew S1)) 2 rfl h2
  have hgb1 : (w.alloc (.cells EC 54)).cell? ⟨gb, 0, none⟩ = some (.map (some bm)) := (blk_cell (S1.at_blk 1 rfl) 0).trans rfl
  have SP := stt_drew (stt_drew S1)
  rw [if_pos hid, decide_eq_true hid] at l1
  obtain ⟨a, ha⟩ : ∃ a, ad id = a := ⟨_, rfl⟩
  simp only [pk, ha] at l1
  obtain ⟨A, c0, hA, _⟩ := own_form (kn_row S1 ex)
  obtain ⟨nk, hnk⟩ : ∃ nk, hx.k.kids.length = nk := ⟨_, rfl⟩
  rw [hnk] at hA hk1
  have hk2 : (0 : Int) < (nk : Int) := by omega
  obtain ⟨aq, haq⟩ : ∃ aq, ad q = aq := ⟨_, rfl⟩
  have HB : ∀ W, Stt w0 Z (GL (blk w.heap.size 54 EC :: blk gb 61 #[.map (some bm)] :: mpK bm m ad ids :: pre) ad g X) F W → W.cell? ⟨a, 5, none⟩ = some (.pointer (some ⟨aq, 0, none⟩)) ∧ W.cell? ⟨a, 6, none⟩ = some (.slice A nk c0) := fun W SW => ⟨by rw [← ha, ← hxi]; exact (blk_cell (kn_blk SW ex) 5).trans (show (knB ad hx.k hx.v)[5]? = _ by show some (pp ad hx.k.par) = _; rw [hpar, ← haq]; rfl), by rw [← ha, ← hxi]; exact (blk_cell (kn_blk SW ex) 6).trans (show (knB ad hx.k hx.v)[6]? = _ by show some hx.v = _; rw [hA])⟩
  obtain ⟨hx5, hx6⟩ := HB _ S1
  have HC := Aside0.mk HB
  clear HB ex hxi hpar ha hnk hA haq
  subst haf
  rw [if_pos hpa, decide_eq_true hpa] at l2
  obtain ⟨c, hc⟩ : ∃ c, ad pa = c := ⟨_, rfl⟩
  simp only [pk, hc] at l2
  rw [hEC] at l1 l2 hgb1 SP hx5 hx6 HC
  replace SP := Aside0.mk SP
  clear hc S S1 h1 h2 hid hpa hEC EC
  have mixed : Try.prog.follows .mixedOrders = true := by kernel_rfl
  go_enter Try.func21, Try.ntmps21
  go_wp2
  go_region_o
  go_wp2
  go_region_o
  go_wp2
  go_ret
  exact ⟨rfl, Stt.drop (l := GL (blk gb 61 #[.map (some bm)] :: mpK bm m ad ids :: pre) ad _ X) SP.out⟩
set_option maxHeartbeats 4000000 in
set_option maxRecDepth 100000 in
theorem do_stay12 {w0 w : World} {Z : Nat → Prop} {pre X : List Asr} {F : List FA} {ad : Int → Nat} {g : List Hk} {gb bm m : Nat} {ids : List Int} (S : Stt w0 Z (GL (blk gb 61 #[.map (some bm)] :: mpK bm m ad ids :: pre) ad g X) F w)
    (id pa af ki : Int) (tx tr : ByteArray) (h1 : in64 id) (h2 : in64 pa) (hid : id ∈ ids) {jx : Nat} {hx : Hk} (ex : g[jx]? = some hx) (hxi : hx.k.id = id) {q : Int} (hpar : hx.k.par = some q) (hk1 : 0 < hx.k.kids.length) (hpa : pa ∈ ids) (haf : ¬ af = -1) {jp : Nat} {hp : Hk} (ep : g[jp]? = some hp) (hpi : hp.k.id = pa) (hids : ∀ y ∈ hp.k.kids, ∃ (j : Nat) (h : Hk), g[j]? = some h ∧ h.k.id = y) :
    Calls Try.prog 21 #[.pointer (some ⟨gb, 0, none⟩), .agg #[.int .i64 2, .int .i64 id, .int .i64 pa, .int .i64 af, .int .i64 ki, .string tx, .string tr]] w fun e w' => e = .returned (.bool false) ∧ Stt w0 Z (GL (blk gb 61 #[.map (some bm)] :: mpK bm m ad ids :: pre) ad g X) F w' := by
  obtain ⟨EC, hEC⟩ : ∃ EC : Array Value, EC = #[.int .i64 2, .int .i64 id, .int .i64 pa, .int .i64 af, .int .i64 ki, .string tx, .string tr] := ⟨_, rfl⟩
  have S1 : Stt w0 Z (GL (blk w.heap.size 54 EC :: blk gb 61 #[.map (some bm)] :: mpK bm m ad ids :: pre) ad g X) F (w.alloc (.cells EC 54)) := S.box rfl (heap_alloc_new w _) (below_alloc (Below.refl _ _) _)
  have l1 := map_ok (stt_drew S1) 2 rfl h1
  have l2 := map_ok (stt_drew (stt_drew S1)) 2 rfl h2
  have hgb1 : (w.alloc (.cells EC 54)).cell? ⟨gb, 0, none⟩ = some (.map (some bm)) := (blk_cell (S1.at_blk 1 rfl) 0).trans rfl
  have SP := stt_drew (stt_drew S1)
  rw [if_pos hid, decide_eq_true hid] at l1
  obtain ⟨a, ha⟩ : ∃ a, ad id = a := ⟨_, rfl⟩
  simp only [pk, ha] at l1
  obtain ⟨A, c0, hA, _⟩ := own_form (kn_row S1 ex)
  obtain ⟨nk, hnk⟩ : ∃ nk, hx.k.kids.length = nk := ⟨_, rfl⟩
  rw [hnk] at hA hk1
  have hk2 : (0 : Int) < (nk : Int) := by omega
  obtain ⟨aq, haq⟩ : ∃ aq, ad q = aq := ⟨_, rfl⟩
  have HB : ∀ W, Stt w0 Z (GL (blk w.heap.size 54 EC :: blk gb 61 #[.map (some bm)] :: mpK bm m ad ids :: pre) ad g X) F W → W.cell? ⟨a, 5, none⟩ = some (.pointer (some ⟨aq, 0, none⟩)) ∧ W.cell? ⟨a, 6, none⟩ = some (.slice A nk c0) := fun W SW => ⟨by rw [← ha, ← hxi]; exact (blk_cell (kn_blk SW ex) 5).trans (show (knB ad hx.k hx.v)[5]? = _ by show some (pp ad hx.k.par) = _; rw [hpar, ← haq]; rfl), by rw [← ha, ← hxi]; exact (blk_cell (kn_blk SW ex) 6).trans (show (knB ad hx.k hx.v)[6]? = _ by show some hx.v = _; rw [hA])⟩
  obtain ⟨hx5, hx6⟩ := HB _ S1
  have HC := Aside0.mk HB
  clear HB ex hxi hpar ha hnk hA haq
  clear hx5 hx6
  have HP := place_calls ad hp.k hp.v af _ (kn_blk SP ep) (kn_row SP ep) (fun y hy => by obtain ⟨jy, hy', e1, e2⟩ := hids y hy; rw [← e2, blk_cell (kn_blk SP e1) 0]; rfl)
  obtain ⟨R, hR⟩ : ∃ R, placeOf hp.k.kids af = R := ⟨_, rfl⟩
  rw [hR] at HP
  obtain ⟨c, hc⟩ : ∃ c, ad pa = c := ⟨_, rfl⟩
  rw [if_pos hpa, decide_eq_true hpa] at l2
  simp only [pk, hc] at l2
  rw [hpi] at HP
  simp only [pk, hc] at HP
  replace HP := Aside0.mk HP
  rw [hEC] at l1 l2 hgb1 HP SP HC
  replace SP := Aside0.mk SP
  clear hc S S1 h1 h2 hid hpa ep hids hpi hR hEC EC
  have mixed : Try.prog.follows .mixedOrders = true := by kernel_rfl
  go_enter Try.func21, Try.ntmps21
  go_wp2
  go_region_o
  go_wp2
  go_region_o
  go_wp2_with (go_at_call 29; refine HP.out.mono ?_; rintro e_ w1 ⟨rfl, hB⟩; have S2 := SP.out.keep hB; have q0 := (blk_cell (S2.at_blk 0 rfl) 0).trans rfl; obtain ⟨hx5, hx6⟩ := HC.out w1 S2; replace S2 := Aside0.mk S2; clear hB)
  go_ret
  exact ⟨rfl, Stt.drop (l := GL (blk gb 61 #[.map (some bm)] :: mpK bm m ad ids :: pre) ad _ X) S2.out⟩
set_option maxHeartbeats 4000000 in
set_option maxRecDepth 100000 in
theorem do_stay4_00 {w0 w : World} {Z : Nat → Prop} {pre X : List Asr} {F : List FA} {ad : Int → Nat} {g : List Hk} {gb bm m : Nat} {ids : List Int} (S : Stt w0 Z (GL (blk gb 61 #[.map (some bm)] :: mpK bm m ad ids :: pre) ad g X) F w)
    (id pa af ki : Int) (tx tr : ByteArray) (h1 : in64 id) (h2 : in64 pa) (hid : id ∈ ids) {jx : Nat} {hx : Hk} (ex : g[jx]? = some hx) (hxi : hx.k.id = id) (hpar : hx.k.par = none) (hpa : pa ∉ ids) :
    Calls Try.prog 21 #[.pointer (some ⟨gb, 0, none⟩), .agg #[.int .i64 4, .int .i64 id, .int .i64 pa, .int .i64 af, .int .i64 ki, .string tx, .string tr]] w fun e w' => e = .returned (.bool false) ∧ Stt w0 Z (GL (blk gb 61 #[.map (some bm)] :: mpK bm m ad ids :: pre) ad g X) F w' := by
  obtain ⟨EC, hEC⟩ : ∃ EC : Array Value, EC = #[.int .i64 4, .int .i64 id, .int .i64 pa, .int .i64 af, .int .i64 ki, .string tx, .string tr] := ⟨_, rfl⟩
  have S1 : Stt w0 Z (GL (blk w.heap.size 54 EC :: blk gb 61 #[.map (some bm)] :: mpK bm m ad ids :: pre) ad g X) F (w.alloc (.cells EC 54)) := S.box rfl (heap_alloc_new w _) (below_alloc (Below.refl _ _) _)
  have l1 := map_ok (stt_drew S1) 2 rfl h1
  have l2 := map_ok (stt_drew (stt_drew S1)) 2 rfl h2
  have hgb1 : (w.alloc (.cells EC 54)).cell? ⟨gb, 0, none⟩ = some (.map (some bm)) := (blk_cell (S1.at_blk 1 rfl) 0).trans rfl
  have SP := stt_drew (stt_drew S1)
  rw [if_pos hid, decide_eq_true hid] at l1
  obtain ⟨a, ha⟩ : ∃ a, ad id = a := ⟨_, rfl⟩
  simp only [pk, ha] at l1
  have HB : ∀ W, Stt w0 Z (GL (blk w.heap.size 54 EC :: blk gb 61 #[.map (some bm)] :: mpK bm m ad ids :: pre) ad g X) F W → W.cell? ⟨a, 5, none⟩ = some (.pointer none) ∧ True := fun W SW => ⟨by rw [← ha, ← hxi]; exact (blk_cell (kn_blk SW ex) 5).trans (show (knB ad hx.k hx.v)[5]? = some (.pointer none) by show some (pp ad hx.k.par) = _; rw [hpar]; rfl), trivial⟩
  obtain ⟨hx5, hx6⟩ := HB _ S1
  have HC := Aside0.mk HB
  clear HB ex hxi hpar ha
  rw [if_neg hpa, decide_eq_false hpa] at l2
  rw [hEC] at l1 l2 hgb1 SP hx5 HC
  replace SP := Aside0.mk SP
  clear S S1 h1 h2 hid hpa hEC EC
  have mixed : Try.prog.follows .mixedOrders = true := by kernel_rfl
  go_enter Try.func21, Try.ntmps21
  go_wp2
  go_region_o
  go_wp2
  go_region_o
  go_wp2
  go_ret
  exact ⟨rfl, Stt.drop (l := GL (blk gb 61 #[.map (some bm)] :: mpK bm m ad ids :: pre) ad _ X) SP.out⟩
set_option maxHeartbeats 4000000 in
set_option maxRecDepth 100000 in
theorem do_stay4_01 {w0 w : World} {Z : Nat → Prop} {pre X : List Asr} {F : List FA} {ad : Int → Nat} {g : List Hk} {gb bm m : Nat} {ids : List Int} (S : Stt w0 Z (GL (blk gb 61 #[.map (some bm)] :: mpK bm m ad ids :: pre) ad g X) F w)
    (id pa af ki : Int) (tx tr : ByteArray) (h1 : in64 id) (h2 : in64 pa) (hid : id ∈ ids) {jx : Nat} {hx : Hk} (ex : g[jx]? = some hx) (hxi : hx.k.id = id) (hpar : hx.k.par = none) (hpa : pa ∈ ids) (haf : af = -1) :
    Calls Try.prog 21 #[.pointer (some ⟨gb, 0, none⟩), .agg #[.int .i64 4, .int .i64 id, .int .i64 pa, .int .i64 af, .int .i64 ki, .string tx, .string tr]] w fun e w' => e = .returned (.bool false) ∧ Stt w0 Z (GL (blk gb 61 #[.map (some bm)] :: mpK bm m ad ids :: pre) ad g X) F w' := by
  obtain ⟨EC, hEC⟩ : ∃ EC : Array Value, EC = #[.int .i64 4, .int .i64 id, .int .i64 pa, .int .i64 af, .int .i64 ki, .string tx, .string tr] := ⟨_, rfl⟩
  have S1 : Stt w0 Z (GL (blk w.heap.size 54 EC :: blk gb 61 #[.map (some bm)] :: mpK bm m ad ids :: pre) ad g X) F (w.alloc (.cells EC 54)) := S.box rfl (heap_alloc_new w _) (below_alloc (Below.refl _ _) _)
  have l1 := map_ok (stt_drew S1) 2 rfl h1
  have l2 := map_ok (stt_drew (stt_drew S1)) 2 rfl h2
  have hgb1 : (w.alloc (.cells EC 54)).cell? ⟨gb, 0, none⟩ = some (.map (some bm)) := (blk_cell (S1.at_blk 1 rfl) 0).trans rfl
  have SP := stt_drew (stt_drew S1)
  rw [if_pos hid, decide_eq_true hid] at l1
  obtain ⟨a, ha⟩ : ∃ a, ad id = a := ⟨_, rfl⟩
  simp only [pk, ha] at l1
  have HB : ∀ W, Stt w0 Z (GL (blk w.heap.size 54 EC :: blk gb 61 #[.map (some bm)] :: mpK bm m ad ids :: pre) ad g X) F W → W.cell? ⟨a, 5, none⟩ = some (.pointer none) ∧ True := fun W SW => ⟨by rw [← ha, ← hxi]; exact (blk_cell (kn_blk SW ex) 5).trans (show (knB ad hx.k hx.v)[5]? = some (.pointer none) by show some (pp ad hx.k.par) = _; rw [hpar]; rfl), trivial⟩
  obtain ⟨hx5, hx6⟩ := HB _ S1
  have HC := Aside0.mk HB
  clear HB ex hxi hpar ha
  subst haf
  rw [if_pos hpa, decide_eq_true hpa] at l2
  obtain ⟨c, hc⟩ : ∃ c, ad pa = c := ⟨_, rfl⟩
  simp only [pk, hc] at l2
  rw [hEC] at l1 l2 hgb1 SP hx5 HC
  replace SP := Aside0.mk SP
  clear hc S S1 h1 h2 hid hpa hEC EC
  have mixed : Try.prog.follows .mixedOrders = true := by kernel_rfl
  go_enter Try.func21, Try.ntmps21
  go_wp2
  go_region_o
  go_wp2
  go_region_o
  go_wp2
  go_ret
  exact ⟨rfl, Stt.drop (l := GL (blk gb 61 #[.map (some bm)] :: mpK bm m ad ids :: pre) ad _ X) SP.out⟩
set_option maxHeartbeats 4000000 in
set_option maxRecDepth 100000 in
theorem do_stay4_02 {w0 w : World} {Z : Nat → Prop} {pre X : List Asr} {F : List FA} {ad : Int → Nat} {g : List Hk} {gb bm m : Nat} {ids : List Int} (S : Stt w0 Z (GL (blk gb 61 #[.map (some bm)] :: mpK bm m ad ids :: pre) ad g X) F w)
    (id pa af ki : Int) (tx tr : ByteArray) (h1 : in64 id) (h2 : in64 pa) (hid : id ∈ ids) {jx : Nat} {hx : Hk} (ex : g[jx]? = some hx) (hxi : hx.k.id = id) (hpar : hx.k.par = none) (hpa : pa ∈ ids) (haf : ¬ af = -1) {jp : Nat} {hp : Hk} (ep : g[jp]? = some hp) (hpi : hp.k.id = pa) (hids : ∀ y ∈ hp.k.kids, ∃ (j : Nat) (h : Hk), g[j]? = some h ∧ h.k.id = y) :
    Calls Try.prog 21 #[.pointer (some ⟨gb, 0, none⟩), .agg #[.int .i64 4, .int .i64 id, .int .i64 pa, .int .i64 af, .int .i64 ki, .string tx, .string tr]] w fun e w' => e = .returned (.bool false) ∧ Stt w0 Z (GL (blk gb 61 #[.map (some bm)] :: mpK bm m ad ids :: pre) ad g X) F w' := by
  obtain ⟨EC, hEC⟩ : ∃ EC : Array Value, EC = #[.int .i64 4, .int .i64 id, .int .i64 pa, .int .i64 af, .int .i64 ki, .string tx, .string tr] := ⟨_, rfl⟩
  have S1 : Stt w0 Z (GL (blk w.heap.size 54 EC :: blk gb 61 #[.map (some bm)] :: mpK bm m ad ids :: pre) ad g X) F (w.alloc (.cells EC 54)) := S.box rfl (heap_alloc_new w _) (below_alloc (Below.refl _ _) _)
  have l1 := map_ok (stt_drew S1) 2 rfl h1
  have l2 := map_ok (stt_drew (stt_drew S1)) 2 rfl h2
  have hgb1 : (w.alloc (.cells EC 54)).cell? ⟨gb, 0, none⟩ = some (.map (some bm)) := (blk_cell (S1.at_blk 1 rfl) 0).trans rfl
  have SP := stt_drew (stt_drew S1)
  rw [if_pos hid, decide_eq_true hid] at l1
  obtain ⟨a, ha⟩ : ∃ a, ad id = a := ⟨_, rfl⟩
  simp only [pk, ha] at l1
  have HB : ∀ W, Stt w0 Z (GL (blk w.heap.size 54 EC :: blk gb 61 #[.map (some bm)] :: mpK bm m ad ids :: pre) ad g X) F W → W.cell? ⟨a, 5, none⟩ = some (.pointer none) ∧ True := fun W SW => ⟨by rw [← ha, ← hxi]; exact (blk_cell (kn_blk SW ex) 5).trans (show (knB ad hx.k hx.v)[5]? = some (.pointer none) by show some (pp ad hx.k.par) = _; rw [hpar]; rfl), trivial⟩
  obtain ⟨hx5, hx6⟩ := HB _ S1
  have HC := Aside0.mk HB
  clear HB ex hxi hpar ha
  clear hx5 hx6
  have HP := place_calls ad hp.k hp.v af _ (kn_blk SP ep) (kn_row SP ep) (fun y hy => by obtain ⟨jy, hy', e1, e2⟩ := hids y hy; rw [← e2, blk_cell (kn_blk SP e1) 0]; rfl)
  obtain ⟨R, hR⟩ : ∃ R, placeOf hp.k.kids af = R := ⟨_, rfl⟩
  rw [hR] at HP
  obtain ⟨c, hc⟩ : ∃ c, ad pa = c := ⟨_, rfl⟩
  rw [if_pos hpa, decide_eq_true hpa] at l2
  simp only [pk, hc] at l2
  rw [hpi] at HP
  simp only [pk, hc] at HP
  replace HP := Aside0.mk HP
  rw [hEC] at l1 l2 hgb1 HP SP HC
  replace SP := Aside0.mk SP
  clear hc S S1 h1 h2 hid hpa ep hids hpi hR hEC EC
  have mixed : Try.prog.follows .mixedOrders = true := by kernel_rfl
  go_enter Try.func21, Try.ntmps21
  go_wp2
  go_region_o
  go_wp2
  go_region_o
  go_wp2_with (go_at_call 29; refine HP.out.mono ?_; rintro e_ w1 ⟨rfl, hB⟩; have S2 := SP.out.keep hB; have q0 := (blk_cell (S2.at_blk 0 rfl) 0).trans rfl; obtain ⟨hx5, hx6⟩ := HC.out w1 S2; replace S2 := Aside0.mk S2; clear hB)
  go_ret
  exact ⟨rfl, Stt.drop (l := GL (blk gb 61 #[.map (some bm)] :: mpK bm m ad ids :: pre) ad _ X) S2.out⟩
end Go.Proofs.Ytfmlpkeaiohknaa.Q
/-! (*grove).do: inserts and moves that can't be done. -/
set_option linter.unusedVariables false
set_option linter.unusedSimpArgs false
namespace Go.Proofs.Ytfmlpkeaiohknaa.Q
open Go Go.RowKit Go.Lib Go.Sort Go.Proofs.YtfmlpkeaiohknaaW.PrintWords Go.Proofs.YtfmlpkeaiohknaaW.PrintLast Go.Proofs.YtfmlpkeaiohknaaW.PrintMore Go.Proofs.YtfmlpkeaiohknaaW.SL
attribute [local go_sem] max2_int min2_int max_two min_two max_three min_three max_four min_four
set_option maxHeartbeats 4000000 in
set_option maxRecDepth 100000 in
theorem do_not1K0 {w0 w : World} {Z : Nat → Prop} {pre X : List Asr} {F : List FA} {ad : Int → Nat} {g : List Hk} {gb bm m : Nat} {ids : List Int} (S : Stt w0 Z (GL (blk gb 61 #[.map (some bm)] :: mpK bm m ad ids :: pre) ad g X) F w)
    (id pa af ki : Int) (tx tr : ByteArray) (h1 : in64 id) (h2 : in64 pa) (hid : id ∈ ids) (hpa : pa ∉ ids) :
    Calls Try.prog 21 #[.pointer (some ⟨gb, 0, none⟩), .agg #[.int .i64 1, .int .i64 id, .int .i64 pa, .int .i64 af, .int .i64 ki, .string tx, .string tr]] w fun e w' => e = .returned (.bool false) ∧ Stt w0 Z (GL (blk gb 61 #[.map (some bm)] :: mpK bm m ad ids :: pre) ad g X) F w' := by
  obtain ⟨EC, hEC⟩ : ∃ EC : Array Value, EC = #[.int .i64 1, .int .i64 id, .int .i64 pa, .int .i64 af, .int .i64 ki, .string tx, .string tr] := ⟨_, rfl⟩
  have S1 : Stt w0 Z (GL (blk w.heap.size 54 EC :: blk gb 61 #[.map (some bm)] :: mpK bm m ad ids :: pre) ad g X) F (w.alloc (.cells EC 54)) := S.box rfl (heap_alloc_new w _) (below_alloc (Below.refl _ _) _)
  have l1 := map_ok (stt_drew S1) 2 rfl h1
  have l2 := map_ok (stt_drew (stt_drew S1)) 2 rfl h2
  have hgb1 : (w.alloc (.cells EC 54)).cell? ⟨gb, 0, none⟩ = some (.map (some bm)) := (blk_cell (S1.at_blk 1 rfl) 0).trans rfl
  have SP := stt_drew (stt_drew S1)
  rw [if_pos hid, decide_eq_true hid] at l1
  obtain ⟨a, ha⟩ : ∃ a, ad id = a := ⟨_, rfl⟩
  simp only [pk, ha] at l1
  rw [if_neg hpa, decide_eq_false hpa] at l2
  rw [hEC] at l1 l2 hgb1 SP
  replace SP := Aside0.mk SP
  clear S S1 h1 h2 hid hpa hEC EC ha
  have mixed : Try.prog.follows .mixedOrders = true := by kernel_rfl
  go_enter Try.func21, Try.ntmps21
  go_wp2
  go_region_o
  go_wp2
  go_region_o
  go_wp2
  go_ret
  exact ⟨rfl, Stt.drop (l := GL (blk gb 61 #[.map (some bm)] :: mpK bm m ad ids :: pre) ad _ X) SP.out⟩
set_option maxHeartbeats 4000000 in
set_option maxRecDepth 100000 in
theorem do_not1K1 {w0 w : World} {Z : Nat → Prop} {pre X : List Asr} {F : List FA} {ad : Int → Nat} {g : List Hk} {gb bm m : Nat} {ids : List Int} (S : Stt w0 Z (GL (blk gb 61 #[.map (some bm)] :: mpK bm m ad ids :: pre) ad g X) F w)
    (id pa af ki : Int) (tx tr : ByteArray) (h1 : in64 id) (h2 : in64 pa) (hid : id ∈ ids) (hpa : pa ∈ ids) (haf : af = -1) :
    Calls Try.prog 21 #[.pointer (some ⟨gb, 0, none⟩), .agg #[.int .i64 1, .int .i64 id, .int .i64 pa, .int .i64 af, .int .i64 ki, .string tx, .string tr]] w fun e w' => e = .returned (.bool false) ∧ Stt w0 Z (GL (blk gb 61 #[.map (some bm)] :: mpK bm m ad ids :: pre) ad g X) F w' := by
  obtain ⟨EC, hEC⟩ : ∃ EC : Array Value, EC = #[.int .i64 1, .int .i64 id, .int .i64 pa, .int .i64 af, .int .i64 ki, .string tx, .string tr] := ⟨_, rfl⟩
  have S1 : Stt w0 Z (GL (blk w.heap.size 54 EC :: blk gb 61 #[.map (some bm)] :: mpK bm m ad ids :: pre) ad g X) F (w.alloc (.cells EC 54)) := S.box rfl (heap_alloc_new w _) (below_alloc (Below.refl _ _) _)
  have l1 := map_ok (stt_drew S1) 2 rfl h1
  have l2 := map_ok (stt_drew (stt_drew S1)) 2 rfl h2
  have hgb1 : (w.alloc (.cells EC 54)).cell? ⟨gb, 0, none⟩ = some (.map (some bm)) := (blk_cell (S1.at_blk 1 rfl) 0).trans rfl
  have SP := stt_drew (stt_drew S1)
  rw [if_pos hid, decide_eq_true hid] at l1
  obtain ⟨a, ha⟩ : ∃ a, ad id = a := ⟨_, rfl⟩
  simp only [pk, ha] at l1
  subst haf
  rw [if_pos hpa, decide_eq_true hpa] at l2
  obtain ⟨c, hc⟩ : ∃ c, ad pa = c := ⟨_, rfl⟩
  simp only [pk, hc] at l2
  rw [hEC] at l1 l2 hgb1 SP
  clear hc
  replace SP := Aside0.mk SP
  clear S S1 h1 h2 hid hpa hEC EC ha
  have mixed : Try.prog.follows .mixedOrders = true := by kernel_rfl
  go_enter Try.func21, Try.ntmps21
  go_wp2
  go_region_o
  go_wp2
  go_region_o
  go_wp2
  go_ret
  exact ⟨rfl, Stt.drop (l := GL (blk gb 61 #[.map (some bm)] :: mpK bm m ad ids :: pre) ad _ X) SP.out⟩
set_option maxHeartbeats 4000000 in
set_option maxRecDepth 100000 in
theorem do_not1K2 {w0 w : World} {Z : Nat → Prop} {pre X : List Asr} {F : List FA} {ad : Int → Nat} {g : List Hk} {gb bm m : Nat} {ids : List Int} (S : Stt w0 Z (GL (blk gb 61 #[.map (some bm)] :: mpK bm m ad ids :: pre) ad g X) F w)
    (id pa af ki : Int) (tx tr : ByteArray) (h1 : in64 id) (h2 : in64 pa) (hid : id ∈ ids) (hpa : pa ∈ ids) (haf : ¬ af = -1) {jp : Nat} {hp : Hk} (ep : g[jp]? = some hp) (hpi : hp.k.id = pa) (hids : ∀ y ∈ hp.k.kids, ∃ (j : Nat) (h : Hk), g[j]? = some h ∧ h.k.id = y) :
    Calls Try.prog 21 #[.pointer (some ⟨gb, 0, none⟩), .agg #[.int .i64 1, .int .i64 id, .int .i64 pa, .int .i64 af, .int .i64 ki, .string tx, .string tr]] w fun e w' => e = .returned (.bool false) ∧ Stt w0 Z (GL (blk gb 61 #[.map (some bm)] :: mpK bm m ad ids :: pre) ad g X) F w' := by
  obtain ⟨EC, hEC⟩ : ∃ EC : Array Value, EC = #[.int .i64 1, .int .i64 id, .int .i64 pa, .int .i64 af, .int .i64 ki, .string tx, .string tr] := ⟨_, rfl⟩
  have S1 : Stt w0 Z (GL (blk w.heap.size 54 EC :: blk gb 61 #[.map (some bm)] :: mpK bm m ad ids :: pre) ad g X) F (w.alloc (.cells EC 54)) := S.box rfl (heap_alloc_new w _) (below_alloc (Below.refl _ _) _)
  have l1 := map_ok (stt_drew S1) 2 rfl h1
  have l2 := map_ok (stt_drew (stt_drew S1)) 2 rfl h2
  have hgb1 : (w.alloc (.cells EC 54)).cell? ⟨gb, 0, none⟩ = some (.map (some bm)) := (blk_cell (S1.at_blk 1 rfl) 0).trans rfl
  have SP := stt_drew (stt_drew S1)
  rw [if_pos hid, decide_eq_true hid] at l1
  obtain ⟨a, ha⟩ : ∃ a, ad id = a := ⟨_, rfl⟩
  simp only [pk, ha] at l1
  have HP := place_calls ad hp.k hp.v af _ (kn_blk SP ep) (kn_row SP ep) (fun y hy => by obtain ⟨jy, hy', e1, e2⟩ := hids y hy; rw [← e2, blk_cell (kn_blk SP e1) 0]; rfl)
  obtain ⟨R, hR⟩ : ∃ R, placeOf hp.k.kids af = R := ⟨_, rfl⟩
  rw [hR] at HP
  obtain ⟨c, hc⟩ : ∃ c, ad pa = c := ⟨_, rfl⟩
  rw [if_pos hpa, decide_eq_true hpa] at l2
  simp only [pk, hc] at l2
  rw [hpi] at HP
  simp only [pk, hc] at HP
  replace HP := Aside0.mk HP
  rw [hEC] at l1 l2 hgb1 SP HP
  clear hc hR
  replace SP := Aside0.mk SP
  clear S S1 h1 h2 hid hpa hEC EC ep hpi hids ha
  have mixed : Try.prog.follows .mixedOrders = true := by kernel_rfl
  go_enter Try.func21, Try.ntmps21
  go_wp2
  go_region_o
  go_wp2
  go_region_o
  go_wp2_with (go_at_call 29; refine HP.out.mono ?_; rintro e_ w1 ⟨rfl, hB⟩; have S2 := SP.out.keep hB; have q0 := (blk_cell (S2.at_blk 0 rfl) 0).trans rfl; have q1 := (blk_cell (S2.at_blk 0 rfl) 1).trans rfl; have q3 := (blk_cell (S2.at_blk 0 rfl) 3).trans rfl; replace S2 := Aside0.mk S2; clear hB)
  go_ret
  exact ⟨rfl, Stt.drop (l := GL (blk gb 61 #[.map (some bm)] :: mpK bm m ad ids :: pre) ad _ X) S2.out⟩
set_option maxHeartbeats 4000000 in
set_option maxRecDepth 100000 in
theorem do_not1Z0 {w0 w : World} {Z : Nat → Prop} {pre X : List Asr} {F : List FA} {ad : Int → Nat} {g : List Hk} {gb bm m : Nat} {ids : List Int} (S : Stt w0 Z (GL (blk gb 61 #[.map (some bm)] :: mpK bm m ad ids :: pre) ad g X) F w)
    (id pa af ki : Int) (tx tr : ByteArray) (h1 : in64 id) (h2 : in64 pa) (hid : id ∉ ids) (hneg : id < 0) (hpa : pa ∉ ids) :
    Calls Try.prog 21 #[.pointer (some ⟨gb, 0, none⟩), .agg #[.int .i64 1, .int .i64 id, .int .i64 pa, .int .i64 af, .int .i64 ki, .string tx, .string tr]] w fun e w' => e = .returned (.bool false) ∧ Stt w0 Z (GL (blk gb 61 #[.map (some bm)] :: mpK bm m ad ids :: pre) ad g X) F w' := by
  obtain ⟨EC, hEC⟩ : ∃ EC : Array Value, EC = #[.int .i64 1, .int .i64 id, .int .i64 pa, .int .i64 af, .int .i64 ki, .string tx, .string tr] := ⟨_, rfl⟩
  have S1 : Stt w0 Z (GL (blk w.heap.size 54 EC :: blk gb 61 #[.map (some bm)] :: mpK bm m ad ids :: pre) ad g X) F (w.alloc (.cells EC 54)) := S.box rfl (heap_alloc_new w _) (below_alloc (Below.refl _ _) _)
  have l1 := map_ok (stt_drew S1) 2 rfl h1
  have l2 := map_ok (stt_drew (stt_drew S1)) 2 rfl h2
  have hgb1 : (w.alloc (.cells EC 54)).cell? ⟨gb, 0, none⟩ = some (.map (some bm)) := (blk_cell (S1.at_blk 1 rfl) 0).trans rfl
  have SP := stt_drew (stt_drew S1)
  rw [if_neg hid, decide_eq_false hid] at l1
  rw [if_neg hpa, decide_eq_false hpa] at l2
  rw [hEC] at l1 l2 hgb1 SP
  replace SP := Aside0.mk SP
  clear S S1 h1 h2 hid hpa hEC EC
  have mixed : Try.prog.follows .mixedOrders = true := by kernel_rfl
  go_enter Try.func21, Try.ntmps21
  go_wp2
  go_region_o
  go_wp2
  go_region_o
  go_wp2
  go_ret
  exact ⟨rfl, Stt.drop (l := GL (blk gb 61 #[.map (some bm)] :: mpK bm m ad ids :: pre) ad _ X) SP.out⟩
set_option maxHeartbeats 4000000 in
set_option maxRecDepth 100000 in
theorem do_not1Z1 {w0 w : World} {Z : Nat → Prop} {pre X : List Asr} {F : List FA} {ad : Int → Nat} {g : List Hk} {gb bm m : Nat} {ids : List Int} (S : Stt w0 Z (GL (blk gb 61 #[.map (some bm)] :: mpK bm m ad ids :: pre) ad g X) F w)
    (id pa af ki : Int) (tx tr : ByteArray) (h1 : in64 id) (h2 : in64 pa) (hid : id ∉ ids) (hneg : id < 0) (hpa : pa ∈ ids) (haf : af = -1) :
    Calls Try.prog 21 #[.pointer (some ⟨gb, 0, none⟩), .agg #[.int .i64 1, .int .i64 id, .int .i64 pa, .int .i64 af, .int .i64 ki, .string tx, .string tr]] w fun e w' => e = .returned (.bool false) ∧ Stt w0 Z (GL (blk gb 61 #[.map (some bm)] :: mpK bm m ad ids :: pre) ad g X) F w' := by
  obtain ⟨EC, hEC⟩ : ∃ EC : Array Value, EC = #[.int .i64 1, .int .i64 id, .int .i64 pa, .int .i64 af, .int .i64 ki, .string tx, .string tr] := ⟨_, rfl⟩
  have S1 : Stt w0 Z (GL (blk w.heap.size 54 EC :: blk gb 61 #[.map (some bm)] :: mpK bm m ad ids :: pre) ad g X) F (w.alloc (.cells EC 54)) := S.box rfl (heap_alloc_new w _) (below_alloc (Below.refl _ _) _)
  have l1 := map_ok (stt_drew S1) 2 rfl h1
  have l2 := map_ok (stt_drew (stt_drew S1)) 2 rfl h2
  have hgb1 : (w.alloc (.cells EC 54)).cell? ⟨gb, 0, none⟩ = some (.map (some bm)) := (blk_cell (S1.at_blk 1 rfl) 0).trans rfl
  have SP := stt_drew (stt_drew S1)
  rw [if_neg hid, decide_eq_false hid] at l1
  subst haf
  rw [if_pos hpa, decide_eq_true hpa] at l2
  obtain ⟨c, hc⟩ : ∃ c, ad pa = c := ⟨_, rfl⟩
  simp only [pk, hc] at l2
  rw [hEC] at l1 l2 hgb1 SP
  clear hc
  replace SP := Aside0.mk SP
  clear S S1 h1 h2 hid hpa hEC EC
  have mixed : Try.prog.follows .mixedOrders = true := by kernel_rfl
  go_enter Try.func21, Try.ntmps21
  go_wp2
  go_region_o
  go_wp2
  go_region_o
  go_wp2
  go_ret
  exact ⟨rfl, Stt.drop (l := GL (blk gb 61 #[.map (some bm)] :: mpK bm m ad ids :: pre) ad _ X) SP.out⟩
set_option maxHeartbeats 4000000 in
set_option maxRecDepth 100000 in
theorem do_not1Z2 {w0 w : World} {Z : Nat → Prop} {pre X : List Asr} {F : List FA} {ad : Int → Nat} {g : List Hk} {gb bm m : Nat} {ids : List Int} (S : Stt w0 Z (GL (blk gb 61 #[.map (some bm)] :: mpK bm m ad ids :: pre) ad g X) F w)
    (id pa af ki : Int) (tx tr : ByteArray) (h1 : in64 id) (h2 : in64 pa) (hid : id ∉ ids) (hneg : id < 0) (hpa : pa ∈ ids) (haf : ¬ af = -1) {jp : Nat} {hp : Hk} (ep : g[jp]? = some hp) (hpi : hp.k.id = pa) (hids : ∀ y ∈ hp.k.kids, ∃ (j : Nat) (h : Hk), g[j]? = some h ∧ h.k.id = y) :
    Calls Try.prog 21 #[.pointer (some ⟨gb, 0, none⟩), .agg #[.int .i64 1, .int .i64 id, .int .i64 pa, .int .i64 af, .int .i64 ki, .string tx, .string tr]] w fun e w' => e = .returned (.bool false) ∧ Stt w0 Z (GL (blk gb 61 #[.map (some bm)] :: mpK bm m ad ids :: pre) ad g X) F w' := by
  obtain ⟨EC, hEC⟩ : ∃ EC : Array Value, EC = #[.int .i64 1, .int .i64 id, .int .i64 pa, .int .i64 af, .int .i64 ki, .string tx, .string tr] := ⟨_, rfl⟩
  have S1 : Stt w0 Z (GL (blk w.heap.size 54 EC :: blk gb 61 #[.map (some bm)] :: mpK bm m ad ids :: pre) ad g X) F (w.alloc (.cells EC 54)) := S.box rfl (heap_alloc_new w _) (below_alloc (Below.refl _ _) _)
  have l1 := map_ok (stt_drew S1) 2 rfl h1
  have l2 := map_ok (stt_drew (stt_drew S1)) 2 rfl h2
  have hgb1 : (w.alloc (.cells EC 54)).cell? ⟨gb, 0, none⟩ = some (.map (some bm)) := (blk_cell (S1.at_blk 1 rfl) 0).trans rfl
  have SP := stt_drew (stt_drew S1)
  rw [if_neg hid, decide_eq_false hid] at l1
  have HP := place_calls ad hp.k hp.v af _ (kn_blk SP ep) (kn_row SP ep) (fun y hy => by obtain ⟨jy, hy', e1, e2⟩ := hids y hy; rw [← e2, blk_cell (kn_blk SP e1) 0]; rfl)
  obtain ⟨R, hR⟩ : ∃ R, placeOf hp.k.kids af = R := ⟨_, rfl⟩
  rw [hR] at HP
  obtain ⟨c, hc⟩ : ∃ c, ad pa = c := ⟨_, rfl⟩
  rw [if_pos hpa, decide_eq_true hpa] at l2
  simp only [pk, hc] at l2
  rw [hpi] at HP
  simp only [pk, hc] at HP
  replace HP := Aside0.mk HP
  rw [hEC] at l1 l2 hgb1 SP HP
  clear hc hR
  replace SP := Aside0.mk SP
  clear S S1 h1 h2 hid hpa hEC EC ep hpi hids
  have mixed : Try.prog.follows .mixedOrders = true := by kernel_rfl
  go_enter Try.func21, Try.ntmps21
  go_wp2
  go_region_o
  go_wp2
  go_region_o
  go_wp2_with (go_at_call 29; refine HP.out.mono ?_; rintro e_ w1 ⟨rfl, hB⟩; have S2 := SP.out.keep hB; have q0 := (blk_cell (S2.at_blk 0 rfl) 0).trans rfl; have q1 := (blk_cell (S2.at_blk 0 rfl) 1).trans rfl; have q3 := (blk_cell (S2.at_blk 0 rfl) 3).trans rfl; replace S2 := Aside0.mk S2; clear hB)
  go_ret
  exact ⟨rfl, Stt.drop (l := GL (blk gb 61 #[.map (some bm)] :: mpK bm m ad ids :: pre) ad _ X) S2.out⟩
set_option maxHeartbeats 4000000 in
set_option maxRecDepth 100000 in
theorem do_not1N0 {w0 w : World} {Z : Nat → Prop} {pre X : List Asr} {F : List FA} {ad : Int → Nat} {g : List Hk} {gb bm m : Nat} {ids : List Int} (S : Stt w0 Z (GL (blk gb 61 #[.map (some bm)] :: mpK bm m ad ids :: pre) ad g X) F w)
    (id pa af ki : Int) (tx tr : ByteArray) (h1 : in64 id) (h2 : in64 pa) (hid : id ∉ ids) (hneg : ¬ id < 0) (hpa : pa ∉ ids) :
    Calls Try.prog 21 #[.pointer (some ⟨gb, 0, none⟩), .agg #[.int .i64 1, .int .i64 id, .int .i64 pa, .int .i64 af, .int .i64 ki, .string tx, .string tr]] w fun e w' => e = .returned (.bool false) ∧ Stt w0 Z (GL (blk gb 61 #[.map (some bm)] :: mpK bm m ad ids :: pre) ad g X) F w' := by
  obtain ⟨EC, hEC⟩ : ∃ EC : Array Value, EC = #[.int .i64 1, .int .i64 id, .int .i64 pa, .int .i64 af, .int .i64 ki, .string tx, .string tr] := ⟨_, rfl⟩
  have S1 : Stt w0 Z (GL (blk w.heap.size 54 EC :: blk gb 61 #[.map (some bm)] :: mpK bm m ad ids :: pre) ad g X) F (w.alloc (.cells EC 54)) := S.box rfl (heap_alloc_new w _) (below_alloc (Below.refl _ _) _)
  have l1 := map_ok (stt_drew S1) 2 rfl h1
  have l2 := map_ok (stt_drew (stt_drew S1)) 2 rfl h2
  have hgb1 : (w.alloc (.cells EC 54)).cell? ⟨gb, 0, none⟩ = some (.map (some bm)) := (blk_cell (S1.at_blk 1 rfl) 0).trans rfl
  have SP := stt_drew (stt_drew S1)
  rw [if_neg hid, decide_eq_false hid] at l1
  rw [if_neg hpa, decide_eq_false hpa] at l2
  rw [hEC] at l1 l2 hgb1 SP
  replace SP := Aside0.mk SP
  clear S S1 h1 h2 hid hpa hEC EC
  have mixed : Try.prog.follows .mixedOrders = true := by kernel_rfl
  go_enter Try.func21, Try.ntmps21
  go_wp2
  go_region_o
  go_wp2
  go_region_o
  go_wp2
  go_ret
  exact ⟨rfl, Stt.drop (l := GL (blk gb 61 #[.map (some bm)] :: mpK bm m ad ids :: pre) ad _ X) SP.out⟩
set_option maxHeartbeats 4000000 in
set_option maxRecDepth 100000 in
theorem do_not1N2 {w0 w : World} {Z : Nat → Prop} {pre X : List Asr} {F : List FA} {ad : Int → Nat} {g : List Hk} {gb bm m : Nat} {ids : List Int} (S : Stt w0 Z (GL (blk gb 61 #[.map (some bm)] :: mpK bm m ad ids :: pre) ad g X) F w)
    (id pa af ki : Int) (tx tr : ByteArray) (h1 : in64 id) (h2 : in64 pa) (hid : id ∉ ids) (hneg : ¬ id < 0) (hpa : pa ∈ ids) (haf : ¬ af = -1) {jp : Nat} {hp : Hk} (ep : g[jp]? = some hp) (hpi : hp.k.id = pa) (hids : ∀ y ∈ hp.k.kids, ∃ (j : Nat) (h : Hk), g[j]? = some h ∧ h.k.id = y) (hspot : ¬ 0 ≤ placeOf hp.k.kids af) :
    Calls Try.prog 21 #[.pointer (some ⟨gb, 0, none⟩), .agg #[.int .i64 1, .int .i64 id, .int .i64 pa, .int .i64 af, .int .i64 ki, .string tx, .string tr]] w fun e w' => e = .returned (.bool false) ∧ Stt w0 Z (GL (blk gb 61 #[.map (some bm)] :: mpK bm m ad ids :: pre) ad g X) F w' := by
  obtain ⟨EC, hEC⟩ : ∃ EC : Array Value, EC = #[.int .i64 1, .int .i64 id, .int .i64 pa, .int .i64 af, .int .i64 ki, .string tx, .string tr] := ⟨_, rfl⟩
  have S1 : Stt w0 Z (GL (blk w.heap.size 54 EC :: blk gb 61 #[.map (some bm)] :: mpK bm m ad ids :: pre) ad g X) F (w.alloc (.cells EC 54)) := S.box rfl (heap_alloc_new w _) (below_alloc (Below.refl _ _) _)
  have l1 := map_ok (stt_drew S1) 2 rfl h1
  have l2 := map_ok (stt_drew (stt_drew S1)) 2 rfl h2
  have hgb1 : (w.alloc (.cells EC 54)).cell? ⟨gb, 0, none⟩ = some (.map (some bm)) := (blk_cell (S1.at_blk 1 rfl) 0).trans rfl
  have SP := stt_drew (stt_drew S1)
  rw [if_neg hid, decide_eq_false hid] at l1
  have HP := place_calls ad hp.k hp.v af _ (kn_blk SP ep) (kn_row SP ep) (fun y hy => by obtain ⟨jy, hy', e1, e2⟩ := hids y hy; rw [← e2, blk_cell (kn_blk SP e1) 0]; rfl)
  obtain ⟨R, hR⟩ : ∃ R, placeOf hp.k.kids af = R := ⟨_, rfl⟩
  rw [hR] at HP hspot
  have hs2 : decide (0 ≤ R) = false := decide_eq_false hspot
  have haf2 : (af == -1) = false := by simpa using haf
  obtain ⟨c, hc⟩ : ∃ c, ad pa = c := ⟨_, rfl⟩
  rw [if_pos hpa, decide_eq_true hpa] at l2
  simp only [pk, hc] at l2
  rw [hpi] at HP
  simp only [pk, hc] at HP
  replace HP := Aside0.mk HP
  rw [hEC] at l1 l2 hgb1 SP HP
  clear hc hR
  replace SP := Aside0.mk SP
  clear S S1 h1 h2 hid hpa hEC EC ep hpi hids
  have mixed : Try.prog.follows .mixedOrders = true := by kernel_rfl
  go_enter Try.func21, Try.ntmps21
  go_wp2
  go_region_o
  go_wp2
  go_region_o
  go_wp2_with (go_at_call 29; refine HP.out.mono ?_; rintro e_ w1 ⟨rfl, hB⟩; have S2 := SP.out.keep hB; have q0 := (blk_cell (S2.at_blk 0 rfl) 0).trans rfl; have q1 := (blk_cell (S2.at_blk 0 rfl) 1).trans rfl; have q3 := (blk_cell (S2.at_blk 0 rfl) 3).trans rfl; replace S2 := Aside0.mk S2; clear hB)
  go_ret
  exact ⟨rfl, Stt.drop (l := GL (blk gb 61 #[.map (some bm)] :: mpK bm m ad ids :: pre) ad _ X) S2.out⟩
set_option maxHeartbeats 4000000 in
set_option maxRecDepth 100000 in
theorem do_not4N0 {w0 w : World} {Z : Nat → Prop} {pre X : List Asr} {F : List FA} {ad : Int → Nat} {g : List Hk} {gb bm m : Nat} {ids : List Int} (S : Stt w0 Z (GL (blk gb 61 #[.map (some bm)] :: mpK bm m ad ids :: pre) ad g X) F w)
    (id pa af ki : Int) (tx tr : ByteArray) (h1 : in64 id) (h2 : in64 pa) (hid : id ∈ ids) {jx : Nat} {hx : Hk} (ex : g[jx]? = some hx) (hxi : hx.k.id = id) {q : Int} (hpar : hx.k.par = some q) (hpa : pa ∉ ids) :
    Calls Try.prog 21 #[.pointer (some ⟨gb, 0, none⟩), .agg #[.int .i64 4, .int .i64 id, .int .i64 pa, .int .i64 af, .int .i64 ki, .string tx, .string tr]] w fun e w' => e = .returned (.bool false) ∧ Stt w0 Z (GL (blk gb 61 #[.map (some bm)] :: mpK bm m ad ids :: pre) ad g X) F w' := by
  obtain ⟨EC, hEC⟩ : ∃ EC : Array Value, EC = #[.int .i64 4, .int .i64 id, .int .i64 pa, .int .i64 af, .int .i64 ki, .string tx, .string tr] := ⟨_, rfl⟩
  have S1 : Stt w0 Z (GL (blk w.heap.size 54 EC :: blk gb 61 #[.map (some bm)] :: mpK bm m ad ids :: pre) ad g X) F (w.alloc (.cells EC 54)) := S.box rfl (heap_alloc_new w _) (below_alloc (Below.refl _ _) _)
  have l1 := map_ok (stt_drew S1) 2 rfl h1
  have l2 := map_ok (stt_drew (stt_drew S1)) 2 rfl h2
  have hgb1 : (w.alloc (.cells EC 54)).cell? ⟨gb, 0, none⟩ = some (.map (some bm)) := (blk_cell (S1.at_blk 1 rfl) 0).trans rfl
  have SP := stt_drew (stt_drew S1)
  rw [if_pos hid, decide_eq_true hid] at l1
  obtain ⟨a, ha⟩ : ∃ a, ad id = a := ⟨_, rfl⟩
  simp only [pk, ha] at l1
  obtain ⟨aq, haq⟩ : ∃ aq, ad q = aq := ⟨_, rfl⟩
  have HB : ∀ W, Stt w0 Z (GL (blk w.heap.size 54 EC :: blk gb 61 #[.map (some bm)] :: mpK bm m ad ids :: pre) ad g X) F W → W.cell? ⟨a, 5, none⟩ = some (.pointer (some ⟨aq, 0, none⟩)) ∧ True := fun W SW => ⟨by rw [← ha, ← hxi]; exact (blk_cell (kn_blk SW ex) 5).trans (show (knB ad hx.k hx.v)[5]? = _ by show some (pp ad hx.k.par) = _; rw [hpar, ← haq]; rfl), trivial⟩
  obtain ⟨hx5, hx6⟩ := HB _ S1
  have HC := Aside0.mk HB
  rw [if_neg hpa, decide_eq_false hpa] at l2
  rw [hEC] at l1 l2 hgb1 SP hx5 HC
  replace SP := Aside0.mk SP
  clear S S1 h1 h2 hid hpa hEC EC HB ex hxi hpar ha haq
  have mixed : Try.prog.follows .mixedOrders = true := by kernel_rfl
  go_enter Try.func21, Try.ntmps21
  go_wp2
  go_region_o
  go_wp2
  go_region_o
  go_wp2
  go_ret
  exact ⟨rfl, Stt.drop (l := GL (blk gb 61 #[.map (some bm)] :: mpK bm m ad ids :: pre) ad _ X) SP.out⟩
set_option maxHeartbeats 4000000 in
set_option maxRecDepth 100000 in
theorem do_not4N2 {w0 w : World} {Z : Nat → Prop} {pre X : List Asr} {F : List FA} {ad : Int → Nat} {g : List Hk} {gb bm m : Nat} {ids : List Int} (S : Stt w0 Z (GL (blk gb 61 #[.map (some bm)] :: mpK bm m ad ids :: pre) ad g X) F w)
    (id pa af ki : Int) (tx tr : ByteArray) (h1 : in64 id) (h2 : in64 pa) (hid : id ∈ ids) {jx : Nat} {hx : Hk} (ex : g[jx]? = some hx) (hxi : hx.k.id = id) {q : Int} (hpar : hx.k.par = some q) (hpa : pa ∈ ids) (haf : ¬ af = -1) {jp : Nat} {hp : Hk} (ep : g[jp]? = some hp) (hpi : hp.k.id = pa) (hids : ∀ y ∈ hp.k.kids, ∃ (j : Nat) (h : Hk), g[j]? = some h ∧ h.k.id = y) (hspot : ¬ 0 ≤ placeOf hp.k.kids af) :
    Calls Try.prog 21 #[.pointer (some ⟨gb, 0, none⟩), .agg #[.int .i64 4, .int .i64 id, .int .i64 pa, .int .i64 af, .int .i64 ki, .string tx, .string tr]] w fun e w' => e = .returned (.bool false) ∧ Stt w0 Z (GL (blk gb 61 #[.map (some bm)] :: mpK bm m ad ids :: pre) ad g X) F w' := by
  obtain ⟨EC, hEC⟩ : ∃ EC : Array Value, EC = #[.int .i64 4, .int .i64 id, .int .i64 pa, .int .i64 af, .int .i64 ki, .string tx, .string tr] := ⟨_, rfl⟩
  have S1 : Stt w0 Z (GL (blk w.heap.size 54 EC :: blk gb 61 #[.map (some bm)] :: mpK bm m ad ids :: pre) ad g X) F (w.alloc (.cells EC 54)) := S.box rfl (heap_alloc_new w _) (below_alloc (Below.refl _ _) _)
  have l1 := map_ok (stt_drew S1) 2 rfl h1
  have l2 := map_ok (stt_drew (stt_drew S1)) 2 rfl h2
  have hgb1 : (w.alloc (.cells EC 54)).cell? ⟨gb, 0, none⟩ = some (.map (some bm)) := (blk_cell (S1.at_blk 1 rfl) 0).trans rfl
  have SP := stt_drew (stt_drew S1)
  rw [if_pos hid, decide_eq_true hid] at l1
  obtain ⟨a, ha⟩ : ∃ a, ad id = a := ⟨_, rfl⟩
  simp only [pk, ha] at l1
  obtain ⟨aq, haq⟩ : ∃ aq, ad q = aq := ⟨_, rfl⟩
  have HB : ∀ W, Stt w0 Z (GL (blk w.heap.size 54 EC :: blk gb 61 #[.map (some bm)] :: mpK bm m ad ids :: pre) ad g X) F W → W.cell? ⟨a, 5, none⟩ = some (.pointer (some ⟨aq, 0, none⟩)) ∧ True := fun W SW => ⟨by rw [← ha, ← hxi]; exact (blk_cell (kn_blk SW ex) 5).trans (show (knB ad hx.k hx.v)[5]? = _ by show some (pp ad hx.k.par) = _; rw [hpar, ← haq]; rfl), trivial⟩
  have HC := Aside0.mk HB
  have HP := place_calls ad hp.k hp.v af _ (kn_blk SP ep) (kn_row SP ep) (fun y hy => by obtain ⟨jy, hy', e1, e2⟩ := hids y hy; rw [← e2, blk_cell (kn_blk SP e1) 0]; rfl)
  obtain ⟨R, hR⟩ : ∃ R, placeOf hp.k.kids af = R := ⟨_, rfl⟩
  rw [hR] at HP hspot
  have hs2 : decide (0 ≤ R) = false := decide_eq_false hspot
  have haf2 : (af == -1) = false := by simpa using haf
  obtain ⟨c, hc⟩ : ∃ c, ad pa = c := ⟨_, rfl⟩
  rw [if_pos hpa, decide_eq_true hpa] at l2
  simp only [pk, hc] at l2
  rw [hpi] at HP
  simp only [pk, hc] at HP
  replace HP := Aside0.mk HP
  rw [hEC] at l1 l2 hgb1 SP HC HP
  clear hc hR
  replace SP := Aside0.mk SP
  clear S S1 h1 h2 hid hpa hEC EC ep hpi hids HB ex hxi hpar ha haq
  have mixed : Try.prog.follows .mixedOrders = true := by kernel_rfl
  go_enter Try.func21, Try.ntmps21
  go_wp2
  go_region_o
  go_wp2
  go_region_o
  go_wp2_with (go_at_call 29; refine HP.out.mono ?_; rintro e_ w1 ⟨rfl, hB⟩; have S2 := SP.out.keep hB; have q0 := (blk_cell (S2.at_blk 0 rfl) 0).trans rfl; have q1 := (blk_cell (S2.at_blk 0 rfl) 1).trans rfl; have q3 := (blk_cell (S2.at_blk 0 rfl) 3).trans rfl; obtain ⟨hx5, hx6⟩ := HC.out w1 S2; replace S2 := Aside0.mk S2; clear hB)
  go_ret
  exact ⟨rfl, Stt.drop (l := GL (blk gb 61 #[.map (some bm)] :: mpK bm m ad ids :: pre) ad _ X) S2.out⟩
set_option maxHeartbeats 4000000 in
set_option maxRecDepth 100000 in
theorem do_not4A2 {w0 w : World} {Z : Nat → Prop} {pre X : List Asr} {F : List FA} {ad : Int → Nat} {g : List Hk} {gb bm m : Nat} {ids : List Int} (S : Stt w0 Z (GL (blk gb 61 #[.map (some bm)] :: mpK bm m ad ids :: pre) ad g X) F w)
    (id pa af ki : Int) (tx tr : ByteArray) (h1 : in64 id) (h2 : in64 pa) (hid : id ∈ ids) {jx : Nat} {hx : Hk} (ex : g[jx]? = some hx) (hxi : hx.k.id = id) {q : Int} (hpar : hx.k.par = some q) (hpa : pa ∈ ids) (haf : ¬ af = -1) {jp : Nat} {hp : Hk} (ep : g[jp]? = some hp) (hpi : hp.k.id = pa) (hids : ∀ y ∈ hp.k.kids, ∃ (j : Nat) (h : Hk), g[j]? = some h ∧ h.k.id = y) (hspot : 0 ≤ placeOf hp.k.kids af) (hai : af = id) :
    Calls Try.prog 21 #[.pointer (some ⟨gb, 0, none⟩), .agg #[.int .i64 4, .int .i64 id, .int .i64 pa, .int .i64 af, .int .i64 ki, .string tx, .string tr]] w fun e w' => e = .returned (.bool false) ∧ Stt w0 Z (GL (blk gb 61 #[.map (some bm)] :: mpK bm m ad ids :: pre) ad g X) F w' := by
  have hai2 := hai.symm
  clear hai
  subst hai2
  obtain ⟨EC, hEC⟩ : ∃ EC : Array Value, EC = #[.int .i64 4, .int .i64 id, .int .i64 pa, .int .i64 id, .int .i64 ki, .string tx, .string tr] := ⟨_, rfl⟩
  have S1 : Stt w0 Z (GL (blk w.heap.size 54 EC :: blk gb 61 #[.map (some bm)] :: mpK bm m ad ids :: pre) ad g X) F (w.alloc (.cells EC 54)) := S.box rfl (heap_alloc_new w _) (below_alloc (Below.refl _ _) _)
  have l1 := map_ok (stt_drew S1) 2 rfl h1
  have l2 := map_ok (stt_drew (stt_drew S1)) 2 rfl h2
  have hgb1 : (w.alloc (.cells EC 54)).cell? ⟨gb, 0, none⟩ = some (.map (some bm)) := (blk_cell (S1.at_blk 1 rfl) 0).trans rfl
  have SP := stt_drew (stt_drew S1)
  rw [if_pos hid, decide_eq_true hid] at l1
  obtain ⟨a, ha⟩ : ∃ a, ad id = a := ⟨_, rfl⟩
  simp only [pk, ha] at l1
  obtain ⟨aq, haq⟩ : ∃ aq, ad q = aq := ⟨_, rfl⟩
  have HB : ∀ W, Stt w0 Z (GL (blk w.heap.size 54 EC :: blk gb 61 #[.map (some bm)] :: mpK bm m ad ids :: pre) ad g X) F W → W.cell? ⟨a, 5, none⟩ = some (.pointer (some ⟨aq, 0, none⟩)) ∧ True := fun W SW => ⟨by rw [← ha, ← hxi]; exact (blk_cell (kn_blk SW ex) 5).trans (show (knB ad hx.k hx.v)[5]? = _ by show some (pp ad hx.k.par) = _; rw [hpar, ← haq]; rfl), trivial⟩
  have HC := Aside0.mk HB
  have HP := place_calls ad hp.k hp.v id _ (kn_blk SP ep) (kn_row SP ep) (fun y hy => by obtain ⟨jy, hy', e1, e2⟩ := hids y hy; rw [← e2, blk_cell (kn_blk SP e1) 0]; rfl)
  obtain ⟨R, hR⟩ : ∃ R, placeOf hp.k.kids id = R := ⟨_, rfl⟩
  rw [hR] at HP hspot
  have hs2 : decide (0 ≤ R) = true := decide_eq_true hspot
  obtain ⟨c, hc⟩ : ∃ c, ad pa = c := ⟨_, rfl⟩
  rw [if_pos hpa, decide_eq_true hpa] at l2
  simp only [pk, hc] at l2
  rw [hpi] at HP
  simp only [pk, hc] at HP
  replace HP := Aside0.mk HP
  rw [hEC] at l1 l2 hgb1 SP HC HP
  clear hc hR
  replace SP := Aside0.mk SP
  clear S S1 h1 h2 hid hpa hEC EC ep hpi hids HB ex hxi hpar ha haq
  have mixed : Try.prog.follows .mixedOrders = true := by kernel_rfl
  go_enter Try.func21, Try.ntmps21
  go_wp2
  go_region_o
  go_wp2
  go_region_o
  go_wp2_with (go_at_call 29; refine HP.out.mono ?_; rintro e_ w1 ⟨rfl, hB⟩; have S2 := SP.out.keep hB; have q0 := (blk_cell (S2.at_blk 0 rfl) 0).trans rfl; have q1 := (blk_cell (S2.at_blk 0 rfl) 1).trans rfl; have q3 := (blk_cell (S2.at_blk 0 rfl) 3).trans rfl; obtain ⟨hx5, hx6⟩ := HC.out w1 S2; replace S2 := Aside0.mk S2; clear hB)
  go_ret
  exact ⟨rfl, Stt.drop (l := GL (blk gb 61 #[.map (some bm)] :: mpK bm m ad ids :: pre) ad _ X) S2.out⟩
set_option maxHeartbeats 4000000 in
set_option maxRecDepth 100000 in
theorem do_not4B1 {w0 w : World} {Z : Nat → Prop} {pre X : List Asr} {F : List FA} {ad : Int → Nat} {g : List Hk} {gb bm m : Nat} {ids : List Int} (S : Stt w0 Z (GL (blk gb 61 #[.map (some bm)] :: mpK bm m ad ids :: pre) ad g X) F w)
    (id pa af ki : Int) (tx tr : ByteArray) (h1 : in64 id) (h2 : in64 pa) (hid : id ∈ ids) {jx : Nat} {hx : Hk} (ex : g[jx]? = some hx) (hxi : hx.k.id = id) {q : Int} (hpar : hx.k.par = some q) (hpa : pa ∈ ids) (haf : af = -1) {jp : Nat} {hp : Hk} (ep : g[jp]? = some hp) (hpi : hp.k.id = pa) (hids : ∀ y ∈ hp.k.kids, ∃ (j : Nat) (h : Hk), g[j]? = some h ∧ h.k.id = y) (hai : ¬ af = id) (I : Inv (kns g)) (hbl : ∀ n0 : Nat, ∃ n, n0 ≤ n ∧ belowP (kns g) n pa id = true) :
    Calls Try.prog 21 #[.pointer (some ⟨gb, 0, none⟩), .agg #[.int .i64 4, .int .i64 id, .int .i64 pa, .int .i64 af, .int .i64 ki, .string tx, .string tr]] w fun e w' => e = .returned (.bool false) ∧ Stt w0 Z (GL (blk gb 61 #[.map (some bm)] :: mpK bm m ad ids :: pre) ad g X) F w' := by
  obtain ⟨EC, hEC⟩ : ∃ EC : Array Value, EC = #[.int .i64 4, .int .i64 id, .int .i64 pa, .int .i64 af, .int .i64 ki, .string tx, .string tr] := ⟨_, rfl⟩
  have S1 : Stt w0 Z (GL (blk w.heap.size 54 EC :: blk gb 61 #[.map (some bm)] :: mpK bm m ad ids :: pre) ad g X) F (w.alloc (.cells EC 54)) := S.box rfl (heap_alloc_new w _) (below_alloc (Below.refl _ _) _)
  have l1 := map_ok (stt_drew S1) 2 rfl h1
  have l2 := map_ok (stt_drew (stt_drew S1)) 2 rfl h2
  have hgb1 : (w.alloc (.cells EC 54)).cell? ⟨gb, 0, none⟩ = some (.map (some bm)) := (blk_cell (S1.at_blk 1 rfl) 0).trans rfl
  have SP := stt_drew (stt_drew S1)
  rw [if_pos hid, decide_eq_true hid] at l1
  obtain ⟨a, ha⟩ : ∃ a, ad id = a := ⟨_, rfl⟩
  simp only [pk, ha] at l1
  obtain ⟨aq, haq⟩ : ∃ aq, ad q = aq := ⟨_, rfl⟩
  have HB : ∀ W, Stt w0 Z (GL (blk w.heap.size 54 EC :: blk gb 61 #[.map (some bm)] :: mpK bm m ad ids :: pre) ad g X) F W → W.cell? ⟨a, 5, none⟩ = some (.pointer (some ⟨aq, 0, none⟩)) ∧ True := fun W SW => ⟨by rw [← ha, ← hxi]; exact (blk_cell (kn_blk SW ex) 5).trans (show (knB ad hx.k hx.v)[5]? = _ by show some (pp ad hx.k.par) = _; rw [hpar, ← haq]; rfl), trivial⟩
  obtain ⟨hx5, hx6⟩ := HB _ S1
  have HC := Aside0.mk HB
  have HBL : ∀ W, Stt w0 Z (GL (blk w.heap.size 54 EC :: blk gb 61 #[.map (some bm)] :: mpK bm m ad ids :: pre) ad g X) F W → Calls Try.prog 33 #[pk ad pa, pk ad id] W fun e w' => e = .returned (.bool true) ∧ w' = W := fun W SW => by
    obtain ⟨n0, hn0⟩ := below_calls SW ep ex I
    obtain ⟨n, hn, hb⟩ := hbl n0
    have := hn0 n hn
    rw [hpi, hxi, hb] at this
    exact this
  simp only [pk, ha] at HBL
  subst haf
  rw [if_pos hpa, decide_eq_true hpa] at l2
  obtain ⟨c, hc⟩ : ∃ c, ad pa = c := ⟨_, rfl⟩
  simp only [pk, hc] at l2
  simp only [hc] at HBL
  rw [hEC] at l1 l2 hgb1 SP hx5 HC HBL
  clear hc
  replace SP := Aside0.mk SP
  replace HBL := Aside0.mk HBL
  clear hbl I
  clear S S1 h1 h2 hid hpa hEC EC ep hpi hids HB ex hxi hpar ha haq
  have mixed : Try.prog.follows .mixedOrders = true := by kernel_rfl
  go_enter Try.func21, Try.ntmps21
  go_wp2
  go_region_o
  go_wp2
  go_region_o
  go_wp2_with (go_at_call 33; refine (HBL.out _ SP.out).mono ?_; rintro e_ w2 ⟨rfl, rfl⟩)
  go_ret
  exact ⟨rfl, Stt.drop (l := GL (blk gb 61 #[.map (some bm)] :: mpK bm m ad ids :: pre) ad _ X) SP.out⟩
set_option maxHeartbeats 4000000 in
set_option maxRecDepth 100000 in
theorem do_not4B2 {w0 w : World} {Z : Nat → Prop} {pre X : List Asr} {F : List FA} {ad : Int → Nat} {g : List Hk} {gb bm m : Nat} {ids : List Int} (S : Stt w0 Z (GL (blk gb 61 #[.map (some bm)] :: mpK bm m ad ids :: pre) ad g X) F w)
    (id pa af ki : Int) (tx tr : ByteArray) (h1 : in64 id) (h2 : in64 pa) (hid : id ∈ ids) {jx : Nat} {hx : Hk} (ex : g[jx]? = some hx) (hxi : hx.k.id = id) {q : Int} (hpar : hx.k.par = some q) (hpa : pa ∈ ids) (haf : ¬ af = -1) {jp : Nat} {hp : Hk} (ep : g[jp]? = some hp) (hpi : hp.k.id = pa) (hids : ∀ y ∈ hp.k.kids, ∃ (j : Nat) (h : Hk), g[j]? = some h ∧ h.k.id = y) (hspot : 0 ≤ placeOf hp.k.kids af) (hai : ¬ af = id) (I : Inv (kns g)) (hbl : ∀ n0 : Nat, ∃ n, n0 ≤ n ∧ belowP (kns g) n pa id = true) :
    Calls Try.prog 21 #[.pointer (some ⟨gb, 0, none⟩), .agg #[.int .i64 4, .int .i64 id, .int .i64 pa, .int .i64 af, .int .i64 ki, .string tx, .string tr]] w fun e w' => e = .returned (.bool false) ∧ Stt w0 Z (GL (blk gb 61 #[.map (some bm)] :: mpK bm m ad ids :: pre) ad g X) F w' := by
  obtain ⟨EC, hEC⟩ : ∃ EC : Array Value, EC = #[.int .i64 4, .int .i64 id, .int .i64 pa, .int .i64 af, .int .i64 ki, .string tx, .string tr] := ⟨_, rfl⟩
  have S1 : Stt w0 Z (GL (blk w.heap.size 54 EC :: blk gb 61 #[.map (some bm)] :: mpK bm m ad ids :: pre) ad g X) F (w.alloc (.cells EC 54)) := S.box rfl (heap_alloc_new w _) (below_alloc (Below.refl _ _) _)
  have l1 := map_ok (stt_drew S1) 2 rfl h1
  have l2 := map_ok (stt_drew (stt_drew S1)) 2 rfl h2
  have hgb1 : (w.alloc (.cells EC 54)).cell? ⟨gb, 0, none⟩ = some (.map (some bm)) := (blk_cell (S1.at_blk 1 rfl) 0).trans rfl
  have SP := stt_drew (stt_drew S1)
  rw [if_pos hid, decide_eq_true hid] at l1
  obtain ⟨a, ha⟩ : ∃ a, ad id = a := ⟨_, rfl⟩
  simp only [pk, ha] at l1
  obtain ⟨aq, haq⟩ : ∃ aq, ad q = aq := ⟨_, rfl⟩
  have HB : ∀ W, Stt w0 Z (GL (blk w.heap.size 54 EC :: blk gb 61 #[.map (some bm)] :: mpK bm m ad ids :: pre) ad g X) F W → W.cell? ⟨a, 5, none⟩ = some (.pointer (some ⟨aq, 0, none⟩)) ∧ True := fun W SW => ⟨by rw [← ha, ← hxi]; exact (blk_cell (kn_blk SW ex) 5).trans (show (knB ad hx.k hx.v)[5]? = _ by show some (pp ad hx.k.par) = _; rw [hpar, ← haq]; rfl), trivial⟩
  have HC := Aside0.mk HB
  have HBL : ∀ W, Stt w0 Z (GL (blk w.heap.size 54 EC :: blk gb 61 #[.map (some bm)] :: mpK bm m ad ids :: pre) ad g X) F W → Calls Try.prog 33 #[pk ad pa, pk ad id] W fun e w' => e = .returned (.bool true) ∧ w' = W := fun W SW => by
    obtain ⟨n0, hn0⟩ := below_calls SW ep ex I
    obtain ⟨n, hn, hb⟩ := hbl n0
    have := hn0 n hn
    rw [hpi, hxi, hb] at this
    exact this
  simp only [pk, ha] at HBL
  have HP := place_calls ad hp.k hp.v af _ (kn_blk SP ep) (kn_row SP ep) (fun y hy => by obtain ⟨jy, hy', e1, e2⟩ := hids y hy; rw [← e2, blk_cell (kn_blk SP e1) 0]; rfl)
  obtain ⟨R, hR⟩ : ∃ R, placeOf hp.k.kids af = R := ⟨_, rfl⟩
  rw [hR] at HP hspot
  have hs2 : decide (0 ≤ R) = true := decide_eq_true hspot
  obtain ⟨c, hc⟩ : ∃ c, ad pa = c := ⟨_, rfl⟩
  rw [if_pos hpa, decide_eq_true hpa] at l2
  simp only [pk, hc] at l2
  rw [hpi] at HP
  simp only [pk, hc] at HP HBL
  replace HP := Aside0.mk HP
  rw [hEC] at l1 l2 hgb1 SP HC HBL HP
  clear hc hR
  replace SP := Aside0.mk SP
  replace HBL := Aside0.mk HBL
  clear hbl I
  clear S S1 h1 h2 hid hpa hEC EC ep hpi hids HB ex hxi hpar ha haq
  have mixed : Try.prog.follows .mixedOrders = true := by kernel_rfl
  go_enter Try.func21, Try.ntmps21
  go_wp2
  go_region_o
  go_wp2
  go_region_o
  go_wp2_with (first | (go_at_call 29; refine HP.out.mono ?_; rintro e_ w1 ⟨rfl, hB⟩; have S2 := SP.out.keep hB; have q0 := (blk_cell (S2.at_blk 0 rfl) 0).trans rfl; have q1 := (blk_cell (S2.at_blk 0 rfl) 1).trans rfl; have q3 := (blk_cell (S2.at_blk 0 rfl) 3).trans rfl; obtain ⟨hx5, hx6⟩ := HC.out w1 S2; replace S2 := Aside0.mk S2; clear hB) | (go_at_call 33; refine (HBL.out _ S2.out).mono ?_; rintro e_ w2 ⟨rfl, rfl⟩))
  go_ret
  exact ⟨rfl, Stt.drop (l := GL (blk gb 61 #[.map (some bm)] :: mpK bm m ad ids :: pre) ad _ X) S2.out⟩
end Go.Proofs.Ytfmlpkeaiohknaa.Q
/-! (*grove).do: no such sort. -/
set_option linter.unusedVariables false
set_option linter.unusedSimpArgs false
namespace Go.Proofs.Ytfmlpkeaiohknaa.Q
open Go Go.RowKit Go.Lib Go.Sort Go.Proofs.YtfmlpkeaiohknaaW.PrintWords Go.Proofs.YtfmlpkeaiohknaaW.PrintLast Go.Proofs.YtfmlpkeaiohknaaW.PrintMore Go.Proofs.YtfmlpkeaiohknaaW.SL
attribute [local go_sem] max2_int min2_int max_two min_two max_three min_three max_four min_four
set_option maxHeartbeats 4000000 in
set_option maxRecDepth 100000 in
theorem do_nosort0 {w0 w : World} {Z : Nat → Prop} {pre X : List Asr} {F : List FA} {ad : Int → Nat} {g : List Hk} {gb bm m : Nat} {ids : List Int} (S : Stt w0 Z (GL (blk gb 61 #[.map (some bm)] :: mpK bm m ad ids :: pre) ad g X) F w)
    (so id pa af ki : Int) (tx tr : ByteArray) (h1 : in64 id) (h2 : in64 pa) (n1 : ¬ so = 1) (n2 : ¬ so = 2) (n3 : ¬ so = 3) (n4 : ¬ so = 4) (hpa : pa ∉ ids) :
    Calls Try.prog 21 #[.pointer (some ⟨gb, 0, none⟩), .agg #[.int .i64 so, .int .i64 id, .int .i64 pa, .int .i64 af, .int .i64 ki, .string tx, .string tr]] w fun e w' => e = .returned (.bool false) ∧ Stt w0 Z (GL (blk gb 61 #[.map (some bm)] :: mpK bm m ad ids :: pre) ad g X) F w' := by
  obtain ⟨EC, hEC⟩ : ∃ EC : Array Value, EC = #[.int .i64 so, .int .i64 id, .int .i64 pa, .int .i64 af, .int .i64 ki, .string tx, .string tr] := ⟨_, rfl⟩
  have S1 : Stt w0 Z (GL (blk w.heap.size 54 EC :: blk gb 61 #[.map (some bm)] :: mpK bm m ad ids :: pre) ad g X) F (w.alloc (.cells EC 54)) := S.box rfl (heap_alloc_new w _) (below_alloc (Below.refl _ _) _)
  have l1 := map_ok (stt_drew S1) 2 rfl h1
  have l2 := map_ok (stt_drew (stt_drew S1)) 2 rfl h2
  have hgb1 : (w.alloc (.cells EC 54)).cell? ⟨gb, 0, none⟩ = some (.map (some bm)) := (blk_cell (S1.at_blk 1 rfl) 0).trans rfl
  have SP := stt_drew (stt_drew S1)
  obtain ⟨kv, hkv⟩ : ∃ kv, (if id ∈ ids then pk ad id else .pointer none) = kv := ⟨_, rfl⟩
  obtain ⟨kb, hkb⟩ : ∃ kb, decide (id ∈ ids) = kb := ⟨_, rfl⟩
  rw [hkv, hkb] at l1
  clear hkv hkb
  rw [if_neg hpa, decide_eq_false hpa] at l2
  rw [hEC] at l1 l2 hgb1 SP
  replace SP := Aside0.mk SP
  clear S S1 h1 h2 hpa hEC EC
  have mixed : Try.prog.follows .mixedOrders = true := by kernel_rfl
  go_enter Try.func21, Try.ntmps21
  go_wp2
  go_region_o
  go_wp2
  go_region_o
  go_wp2
  go_ret
  exact ⟨rfl, Stt.drop (l := GL (blk gb 61 #[.map (some bm)] :: mpK bm m ad ids :: pre) ad _ X) SP.out⟩
set_option maxHeartbeats 4000000 in
set_option maxRecDepth 100000 in
theorem do_nosort1 {w0 w : World} {Z : Nat → Prop} {pre X : List Asr} {F : List FA} {ad : Int → Nat} {g : List Hk} {gb bm m : Nat} {ids : List Int} (S : Stt w0 Z (GL (blk gb 61 #[.map (some bm)] :: mpK bm m ad ids :: pre) ad g X) F w)
    (so id pa af ki : Int) (tx tr : ByteArray) (h1 : in64 id) (h2 : in64 pa) (n1 : ¬ so = 1) (n2 : ¬ so = 2) (n3 : ¬ so = 3) (n4 : ¬ so = 4) (hpa : pa ∈ ids) (haf : af = -1) :
    Calls Try.prog 21 #[.pointer (some ⟨gb, 0, none⟩), .agg #[.int .i64 so, .int .i64 id, .int .i64 pa, .int .i64 af, .int .i64 ki, .string tx, .string tr]] w fun e w' => e = .returned (.bool false) ∧ Stt w0 Z (GL (blk gb 61 #[.map (some bm)] :: mpK bm m ad ids :: pre) ad g X) F w' := by
  obtain ⟨EC, hEC⟩ : ∃ EC : Array Value, EC = #[.int .i64 so, .int .i64 id, .int .i64 pa, .int .i64 af, .int .i64 ki, .string tx, .string tr] := ⟨_, rfl⟩
  have S1 : Stt w0 Z (GL (blk w.heap.size 54 EC :: blk gb 61 #[.map (some bm)] :: mpK bm m ad ids :: pre) ad g X) F (w.alloc (.cells EC 54)) := S.box rfl (heap_alloc_new w _) (below_alloc (Below.refl _ _) _)
  have l1 := map_ok (stt_drew S1) 2 rfl h1
  have l2 := map_ok (stt_drew (stt_drew S1)) 2 rfl h2
  have hgb1 : (w.alloc (.cells EC 54)).cell? ⟨gb, 0, none⟩ = some (.map (some bm)) := (blk_cell (S1.at_blk 1 rfl) 0).trans rfl
  have SP := stt_drew (stt_drew S1)
  obtain ⟨kv, hkv⟩ : ∃ kv, (if id ∈ ids then pk ad id else .pointer none) = kv := ⟨_, rfl⟩
  obtain ⟨kb, hkb⟩ : ∃ kb, decide (id ∈ ids) = kb := ⟨_, rfl⟩
  rw [hkv, hkb] at l1
  clear hkv hkb
  subst haf
  rw [if_pos hpa, decide_eq_true hpa] at l2
  obtain ⟨c, hc⟩ : ∃ c, ad pa = c := ⟨_, rfl⟩
  simp only [pk, hc] at l2
  rw [hEC] at l1 l2 hgb1 SP
  replace SP := Aside0.mk SP
  clear hc S S1 h1 h2 hpa hEC EC
  have mixed : Try.prog.follows .mixedOrders = true := by kernel_rfl
  go_enter Try.func21, Try.ntmps21
  go_wp2
  go_region_o
  go_wp2
  go_region_o
  go_wp2
  go_ret
  exact ⟨rfl, Stt.drop (l := GL (blk gb 61 #[.map (some bm)] :: mpK bm m ad ids :: pre) ad _ X) SP.out⟩
set_option maxHeartbeats 4000000 in
set_option maxRecDepth 100000 in
theorem do_nosort2 {w0 w : World} {Z : Nat → Prop} {pre X : List Asr} {F : List FA} {ad : Int → Nat} {g : List Hk} {gb bm m : Nat} {ids : List Int} (S : Stt w0 Z (GL (blk gb 61 #[.map (some bm)] :: mpK bm m ad ids :: pre) ad g X) F w)
    (so id pa af ki : Int) (tx tr : ByteArray) (h1 : in64 id) (h2 : in64 pa) (n1 : ¬ so = 1) (n2 : ¬ so = 2) (n3 : ¬ so = 3) (n4 : ¬ so = 4) (hpa : pa ∈ ids) (haf : ¬ af = -1) {jp : Nat} {hp : Hk} (ep : g[jp]? = some hp) (hpi : hp.k.id = pa) (hids : ∀ y ∈ hp.k.kids, ∃ (j : Nat) (h : Hk), g[j]? = some h ∧ h.k.id = y) :
    Calls Try.prog 21 #[.pointer (some ⟨gb, 0, none⟩), .agg #[.int .i64 so, .int .i64 id, .int .i64 pa, .int .i64 af, .int .i64 ki, .string tx, .string tr]] w fun e w' => e = .returned (.bool false) ∧ Stt w0 Z (GL (blk gb 61 #[.map (some bm)] :: mpK bm m ad ids :: pre) ad g X) F w' := by
  obtain ⟨EC, hEC⟩ : ∃ EC : Array Value, EC = #[.int .i64 so, .int .i64 id, .int .i64 pa, .int .i64 af, .int .i64 ki, .string tx, .string tr] := ⟨_, rfl⟩
  have S1 : Stt w0 Z (GL (blk w.heap.size 54 EC :: blk gb 61 #[.map (some bm)] :: mpK bm m ad ids :: pre) ad g X) F (w.alloc (.cells EC 54)) := S.box rfl (heap_alloc_new w _) (below_alloc (Below.refl _ _) _)
  have l1 := map_ok (stt_drew S1) 2 rfl h1
  have l2 := map_ok (stt_drew (stt_drew S1)) 2 rfl h2
  have hgb1 : (w.alloc (.cells EC 54)).cell? ⟨gb, 0, none⟩ = some (.map (some bm)) := (blk_cell (S1.at_blk 1 rfl) 0).trans rfl
  have SP := stt_drew (stt_drew S1)
  obtain ⟨kv, hkv⟩ : ∃ kv, (if id ∈ ids then pk ad id else .pointer none) = kv := ⟨_, rfl⟩
  obtain ⟨kb, hkb⟩ : ∃ kb, decide (id ∈ ids) = kb := ⟨_, rfl⟩
  rw [hkv, hkb] at l1
  clear hkv hkb
  have HP := place_calls ad hp.k hp.v af _ (kn_blk SP ep) (kn_row SP ep) (fun y hy => by obtain ⟨jy, hy', e1, e2⟩ := hids y hy; rw [← e2, blk_cell (kn_blk SP e1) 0]; rfl)
  obtain ⟨R, hR⟩ : ∃ R, placeOf hp.k.kids af = R := ⟨_, rfl⟩
  rw [hR] at HP
  obtain ⟨c, hc⟩ : ∃ c, ad pa = c := ⟨_, rfl⟩
  rw [if_pos hpa, decide_eq_true hpa] at l2
  simp only [pk, hc] at l2
  rw [hpi] at HP
  simp only [pk, hc] at HP
  replace HP := Aside0.mk HP
  rw [hEC] at l1 l2 hgb1 HP SP
  replace SP := Aside0.mk SP
  clear hc S S1 h1 h2 hpa ep hids hpi hR hEC EC
  have mixed : Try.prog.follows .mixedOrders = true := by kernel_rfl
  go_enter Try.func21, Try.ntmps21
  go_wp2
  go_region_o
  go_wp2
  go_region_o
  go_wp2_with (go_at_call 29; refine HP.out.mono ?_; rintro e_ w1 ⟨rfl, hB⟩; have S2 := SP.out.keep hB; have q0 := (blk_cell (S2.at_blk 0 rfl) 0).trans rfl; replace S2 := Aside0.mk S2; clear hB)
  go_ret
  exact ⟨rfl, Stt.drop (l := GL (blk gb 61 #[.map (some bm)] :: mpK bm m ad ids :: pre) ad _ X) S2.out⟩
end Go.Proofs.Ytfmlpkeaiohknaa.Q
/-! (*grove).do: a new knot. -/
set_option linter.unusedVariables false
set_option linter.unusedSimpArgs false
namespace Go.Proofs.Ytfmlpkeaiohknaa.Q
open Go Go.RowKit Go.Lib Go.Sort Go.Proofs.YtfmlpkeaiohknaaW.PrintWords Go.Proofs.YtfmlpkeaiohknaaW.PrintLast Go.Proofs.YtfmlpkeaiohknaaW.PrintMore Go.Proofs.YtfmlpkeaiohknaaW.SL
attribute [local go_sem] max2_int min2_int max_two min_two max_three min_three max_four min_four
theorem step_mapput_run {P : Program} {ops : Array Oper} {o : Oper} {a : Act} {w : World} {K : Act → World → Prop} {Q : Exit → Act → World → Prop} {E : Prop}
    (hg : o.guard = none) (t : TypeId) (m k x : Operand) (hop : o.op = Op.mapUpdate t m k x)
    (vm vk vx : Value) (hm : a.eval m = vm) (hk : a.eval k = vk) (hx : a.eval x = vx) {w' : World} (hr : (Instr.mapUpdate t vm vk vx).run P w = .ok () w') (hK : K (a.put o.dst (.tuple #[])) w') :
    if Region.wanted o (yielded ops a.tmps) = true then Oper.wp P o a w K Q else E := by
  have hw : Region.wanted o (yielded ops a.tmps) = true := by simp [Region.wanted, hg]
  rw [if_pos hw]
  unfold Oper.wp
  simp [execOp, hop, hm, hk, hx, hr, Result.andThen]
  exact hK
def adPut (ad : Int → Nat) (x : Int) (a : Nat) : Int → Nat := fun j => if j = x then a else ad j
theorem adPut_new (ad : Int → Nat) (x : Int) (a : Nat) : adPut ad x a x = a := if_pos rfl
theorem adPut_old (ad : Int → Nat) {x : Int} (a : Nat) {i : Int} (h : i ≠ x) : adPut ad x a i = ad i := if_neg h
/-- A new knot, boxed. -/
def hkNew (id ki : Int) (tx tr : ByteArray) : Hk := ⟨⟨id, ki, tx, tr, none, []⟩, .slice none 0 0⟩
theorem kn_new {w0 w : World} {Z : Nat → Prop} {pre X : List Asr} {F : List FA} {ad : Int → Nat} {g : List Hk} (S : Stt w0 Z (GL pre ad g X) F w) (id ki : Int) (tx tr : ByteArray)
    (hn : ∀ x ∈ g, x.k.id ≠ id ∧ (∀ p, x.k.par = some p → p ≠ id) ∧ ∀ i ∈ x.k.kids, i ≠ id) :
    Stt w0 Z (GL pre (adPut ad id w.heap.size) (g ++ [hkNew id ki tx tr]) X) F (w.alloc (.cells #[.int .i64 id, .int .i64 ki, .string tx, .string tr, .slice none 0 0, .pointer none, .slice none 0 0] 80)) := by
  have S1 := S.box (w' := w.alloc (.cells #[.int .i64 id, .int .i64 ki, .string tx, .string tr, .slice none 0 0, .pointer none, .slice none 0 0] 80)) rfl (heap_alloc_new w _) (below_alloc (Below.refl _ _) _)
  have S2 := S1.with (S1.st.row_nil 58 1)
  have e : gvA (adPut ad id w.heap.size) g = gvA ad g := gvA_ad (fun x hx => ⟨adPut_old _ _ (hn x hx).1, fun p hp => adPut_old _ _ ((hn x hx).2.1 p hp), fun i hi => adPut_old _ _ ((hn x hx).2.2 i hi)⟩)
  refine S2.perm ?_
  unfold GL
  rw [gvA_app, e]
  have e2 : gvA (adPut ad id w.heap.size) [hkNew id ki tx tr] = [blk w.heap.size 80 #[.int .i64 id, .int .i64 ki, .string tx, .string tr, .slice none 0 0, .pointer none, .slice none 0 0], row (.slice none 0 0) 58 1 0 []] := by
    show hkA _ _ ++ [] = _
    unfold hkA knB knR hkNew
    simp only [adPut_new]
    rfl
  rw [e2]
  refine (List.Perm.swap _ _ _).trans ?_
  have h1 : ∀ (a b : Asr) (l1 l2 l3 : List Asr), (a :: b :: (l1 ++ (l2 ++ l3))).Perm (l1 ++ ((l2 ++ [a, b]) ++ l3)) := fun a b l1 l2 l3 => by
    rw [List.append_assoc]
    refine List.Perm.trans (l₂ := l1 ++ (a :: b :: (l2 ++ l3))) ?_ (List.Perm.append_left _ ?_)
    · exact (List.perm_append_comm (l₁ := [a, b]) (l₂ := l1)).append_right (l2 ++ l3) |>.trans (by simp)  |> fun h => by simpa using h
    · exact (by simpa using (List.perm_append_comm (l₁ := [a, b]) (l₂ := l2)).append_right l3)
  exact h1 _ _ _ _ _
set_option maxHeartbeats 4000000 in
set_option maxRecDepth 100000 in
theorem do_new1 {w0 w : World} {Z : Nat → Prop} {pre X : List Asr} {F : List FA} {ad : Int → Nat} {g : List Hk} {gb bm m : Nat} {ids : List Int} (S : Stt w0 Z (GL (blk gb 61 #[.map (some bm)] :: mpK bm m ad ids :: pre) ad g X) F w)
    (id pa af ki : Int) (tx tr : ByteArray) (h1 : in64 id) (h2 : in64 pa) (hm2 : m < maxLen) (hid : id ∉ ids) (hneg : ¬ id < 0) (hpa : pa ∈ ids) {jp : Nat} {hp : Hk} (ep : g[jp]? = some hp) (hpi : hp.k.id = pa) (hids : ∀ y ∈ hp.k.kids, ∃ (j : Nat) (h : Hk), g[j]? = some h ∧ h.k.id = y) (hlen : hp.k.kids.length ≤ 1000000)
    (hn : ∀ x ∈ g, x.k.id ≠ id ∧ (∀ p, x.k.par = some p → p ≠ id) ∧ ∀ i ∈ x.k.kids, i ≠ id) (haf : af = -1) :
    Calls Try.prog 21 #[.pointer (some ⟨gb, 0, none⟩), .agg #[.int .i64 1, .int .i64 id, .int .i64 pa, .int .i64 af, .int .i64 ki, .string tx, .string tr]] w fun e w' => e = .returned (.bool true) ∧ ∃ v' a, Stt w0 Z (GL (blk gb 61 #[.map (some bm)] :: mpK bm (m + 1) (adPut ad id a) (ids ++ [id]) :: pre) (adPut ad id a) ((g.set jp ⟨hp.k.wKids (insAt hp.k.kids (putPos hp.k.kids af).toNat id), v'⟩) ++ [⟨⟨id, ki, tx, tr, some pa, []⟩, .slice none 0 0⟩]) X) F w' := by
  obtain ⟨EC, hEC⟩ : ∃ EC : Array Value, EC = #[.int .i64 1, .int .i64 id, .int .i64 pa, .int .i64 af, .int .i64 ki, .string tx, .string tr] := ⟨_, rfl⟩
  have S1 : Stt w0 Z (GL (blk w.heap.size 54 EC :: blk gb 61 #[.map (some bm)] :: mpK bm m ad ids :: pre) ad g X) F (w.alloc (.cells EC 54)) := S.box rfl (heap_alloc_new w _) (below_alloc (Below.refl _ _) _)
  have l1 := map_ok (stt_drew S1) 2 rfl h1
  have l2 := map_ok (stt_drew (stt_drew S1)) 2 rfl h2
  have hgb1 : (w.alloc (.cells EC 54)).cell? ⟨gb, 0, none⟩ = some (.map (some bm)) := (blk_cell (S1.at_blk 1 rfl) 0).trans rfl
  have SP := stt_drew (stt_drew S1)
  rw [if_neg hid, decide_eq_false hid] at l1
  obtain ⟨c, hc⟩ : ∃ c, ad pa = c := ⟨_, rfl⟩
  have hpn : pa ≠ id := fun e => hid (e ▸ hpa)
  -- the box, the map's new entry, put
  have HN : ∀ (W : World) (n : Nat), W.heap.size = n → Stt w0 Z (GL (blk w.heap.size 54 EC :: blk gb 61 #[.map (some bm)] :: mpK bm m ad ids :: pre) ad g X) F W → (W.alloc (.cells #[.int .i64 id, .int .i64 ki, .string tx, .string tr, .slice none 0 0, .pointer none, .slice none 0 0] 80)).cell? ⟨gb, 0, none⟩ = some (.map (some bm)) ∧ (W.alloc (.cells #[.int .i64 id, .int .i64 ki, .string tx, .string tr, .slice none 0 0, .pointer none, .slice none 0 0] 80)).cell? ⟨w.heap.size, 1, none⟩ = some (.int .i64 id) ∧ ∃ W2, (Instr.mapUpdate 59 (.map (some bm)) (.int .i64 id) (.pointer (some ⟨n, 0, none⟩))).run Try.prog (W.alloc (.cells #[.int .i64 id, .int .i64 ki, .string tx, .string tr, .slice none 0 0, .pointer none, .slice none 0 0] 80)).drew = .ok () W2 ∧ W2.cell? ⟨w.heap.size, 3, none⟩ = some (.int .i64 af) ∧
      Calls Try.prog 31 #[.pointer (some ⟨c, 0, none⟩), .pointer (some ⟨n, 0, none⟩), .int .i64 af] W2 fun e w' => e = .returned (.tuple #[]) ∧ ∃ v' a, Stt w0 Z (GL (blk w.heap.size 54 EC :: blk gb 61 #[.map (some bm)] :: mpK bm (m + 1) (adPut ad id a) (ids ++ [id]) :: pre) (adPut ad id a) ((g.set jp ⟨hp.k.wKids (insAt hp.k.kids (putPos hp.k.kids af).toNat id), v'⟩) ++ [⟨⟨id, ki, tx, tr, some pa, []⟩, .slice none 0 0⟩]) X) F w' := by
    rintro W _ rfl SW
    have T1 := kn_new SW id ki tx tr hn
    have T2 := stt_drew T1
    obtain ⟨W2, hr, T3, _⟩ := map_put T2 2 rfl h1 hid hm2 W.heap.size
    refine ⟨(blk_cell (T1.at_blk 1 rfl) 0).trans rfl, by rw [blk_cell (T1.at_blk 0 rfl) 1, hEC]; rfl, W2, hr, ?_, ?_⟩
    · rw [blk_cell (T3.at_blk 0 rfl) 3, hEC]; rfl
    have hjl := (List.getElem?_eq_some_iff.1 ep).1
    have ex2 : (g ++ [hkNew id ki tx tr])[g.length]? = some (hkNew id ki tx tr) := by simp
    have ep2 : (g ++ [hkNew id ki tx tr])[jp]? = some hp := by rw [List.getElem?_append_left hjl]; exact ep
    have T4 : Stt w0 Z (GL (blk w.heap.size 54 EC :: blk gb 61 #[.map (some bm)] :: mpK bm (m + 1) (adPut ad id W.heap.size) (ids ++ [id]) :: pre) (adPut ad id W.heap.size) (g ++ [hkNew id ki tx tr]) X) F W2 := T3
    have hP := put_calls T4 ex2 ep2 (Nat.ne_of_gt hjl) (fun y hy => by
      obtain ⟨j, h, e1, e2⟩ := hids y hy
      exact ⟨j, h, by rw [List.getElem?_append_left (List.getElem?_eq_some_iff.1 e1).1]; exact e1, e2⟩) hlen af
    have e1 : pk (adPut ad id W.heap.size) hp.k.id = .pointer (some ⟨c, 0, none⟩) := by unfold pk; rw [hpi, adPut_old _ _ hpn, hc]
    have e2 : pk (adPut ad id W.heap.size) (hkNew id ki tx tr).k.id = .pointer (some ⟨W.heap.size, 0, none⟩) := by unfold pk hkNew; rw [adPut_new]
    rw [e1, e2] at hP
    refine hP.mono ?_
    rintro e w' ⟨v', rfl, S9⟩
    refine ⟨rfl, v', W.heap.size, ?_⟩
    rw [List.set_append_left _ _ hjl, List.set_append_right _ _ (by simp)] at S9
    simp only [List.length_set, Nat.sub_self, List.set_cons_zero] at S9
    rw [← hpi]
    exact S9
  rw [if_pos hpa, decide_eq_true hpa] at l2
  simp only [pk, hc] at l2
  generalize insAt hp.k.kids (putPos hp.k.kids af).toNat id = newkids at HN ⊢
  subst haf
  rw [hEC] at l1 l2 hgb1 SP HN
  obtain ⟨hgb2, _, W2, hmu, hW3, hput⟩ := HN _ (w.heap.size + 1) (by simp) SP
  replace hmu : (Instr.mapUpdate 59 (.map (some bm)) (.int .i64 id) (.pointer (some ⟨w.heap.size + 1, 0, none⟩))).run Try.prog ((w.alloc (.cells #[.int .i64 1, .int .i64 id, .int .i64 pa, .int .i64 (-1), .int .i64 ki, .string tx, .string tr] 54)).alloc (.cells #[.int .i64 id, .int .i64 ki, .string tx, .string tr, .slice none 0 0, .pointer none, .slice none 0 0] 80)).drew.drew.drew = .ok () W2 := hmu
  replace hgb2 : ((w.alloc (.cells #[.int .i64 1, .int .i64 id, .int .i64 pa, .int .i64 (-1), .int .i64 ki, .string tx, .string tr] 54)).alloc (.cells #[.int .i64 id, .int .i64 ki, .string tx, .string tr, .slice none 0 0, .pointer none, .slice none 0 0] 80)).cell? ⟨gb, 0, none⟩ = some (.map (some bm)) := hgb2
  replace hput := Aside0.mk hput
  clear SP HN hc S S1 h1 h2 hid hpa hEC EC hn hlen hids ep hpi
  have mixed : Try.prog.follows .mixedOrders = true := by kernel_rfl
  go_enter Try.func21, Try.ntmps21
  go_wp2
  go_region_o
  go_wp2
  go_region_o
  go_wp2
  go_region_law_o (refine step_mapput_run rfl 59 _ _ _ rfl _ _ _ (by simp [Act.eval, Act.put]) (by simp [Act.eval, Act.put]) (by simp [Act.eval, Act.put]) hmu ?_)
  all_goals (go_wp2_with (go_at_call 31; refine hput.out.mono ?_; rintro e_ w9 ⟨rfl, v', a9, S9⟩; replace S9 := Aside0.mk S9))
  all_goals (go_ret; exact ⟨rfl, v', a9, Stt.drop (l := GL (blk gb 61 #[.map (some bm)] :: mpK bm (m + 1) (adPut ad id a9) (ids ++ [id]) :: pre) _ _ X) S9.out⟩)
set_option maxHeartbeats 4000000 in
set_option maxRecDepth 100000 in
theorem do_new2 {w0 w : World} {Z : Nat → Prop} {pre X : List Asr} {F : List FA} {ad : Int → Nat} {g : List Hk} {gb bm m : Nat} {ids : List Int} (S : Stt w0 Z (GL (blk gb 61 #[.map (some bm)] :: mpK bm m ad ids :: pre) ad g X) F w)
    (id pa af ki : Int) (tx tr : ByteArray) (h1 : in64 id) (h2 : in64 pa) (hm2 : m < maxLen) (hid : id ∉ ids) (hneg : ¬ id < 0) (hpa : pa ∈ ids) {jp : Nat} {hp : Hk} (ep : g[jp]? = some hp) (hpi : hp.k.id = pa) (hids : ∀ y ∈ hp.k.kids, ∃ (j : Nat) (h : Hk), g[j]? = some h ∧ h.k.id = y) (hlen : hp.k.kids.length ≤ 1000000)
    (hn : ∀ x ∈ g, x.k.id ≠ id ∧ (∀ p, x.k.par = some p → p ≠ id) ∧ ∀ i ∈ x.k.kids, i ≠ id) (haf : ¬ af = -1) (hspot : 0 ≤ placeOf hp.k.kids af) :
    Calls Try.prog 21 #[.pointer (some ⟨gb, 0, none⟩), .agg #[.int .i64 1, .int .i64 id, .int .i64 pa, .int .i64 af, .int .i64 ki, .string tx, .string tr]] w fun e w' => e = .returned (.bool true) ∧ ∃ v' a, Stt w0 Z (GL (blk gb 61 #[.map (some bm)] :: mpK bm (m + 1) (adPut ad id a) (ids ++ [id]) :: pre) (adPut ad id a) ((g.set jp ⟨hp.k.wKids (insAt hp.k.kids (putPos hp.k.kids af).toNat id), v'⟩) ++ [⟨⟨id, ki, tx, tr, some pa, []⟩, .slice none 0 0⟩]) X) F w' := by
  obtain ⟨EC, hEC⟩ : ∃ EC : Array Value, EC = #[.int .i64 1, .int .i64 id, .int .i64 pa, .int .i64 af, .int .i64 ki, .string tx, .string tr] := ⟨_, rfl⟩
  have S1 : Stt w0 Z (GL (blk w.heap.size 54 EC :: blk gb 61 #[.map (some bm)] :: mpK bm m ad ids :: pre) ad g X) F (w.alloc (.cells EC 54)) := S.box rfl (heap_alloc_new w _) (below_alloc (Below.refl _ _) _)
  have l1 := map_ok (stt_drew S1) 2 rfl h1
  have l2 := map_ok (stt_drew (stt_drew S1)) 2 rfl h2
  have hgb1 : (w.alloc (.cells EC 54)).cell? ⟨gb, 0, none⟩ = some (.map (some bm)) := (blk_cell (S1.at_blk 1 rfl) 0).trans rfl
  have SP := stt_drew (stt_drew S1)
  rw [if_neg hid, decide_eq_false hid] at l1
  obtain ⟨c, hc⟩ : ∃ c, ad pa = c := ⟨_, rfl⟩
  have hpn : pa ≠ id := fun e => hid (e ▸ hpa)
  -- the box, the map's new entry, put
  have HN : ∀ (W : World) (n : Nat), W.heap.size = n → Stt w0 Z (GL (blk w.heap.size 54 EC :: blk gb 61 #[.map (some bm)] :: mpK bm m ad ids :: pre) ad g X) F W → (W.alloc (.cells #[.int .i64 id, .int .i64 ki, .string tx, .string tr, .slice none 0 0, .pointer none, .slice none 0 0] 80)).cell? ⟨gb, 0, none⟩ = some (.map (some bm)) ∧ (W.alloc (.cells #[.int .i64 id, .int .i64 ki, .string tx, .string tr, .slice none 0 0, .pointer none, .slice none 0 0] 80)).cell? ⟨w.heap.size, 1, none⟩ = some (.int .i64 id) ∧ ∃ W2, (Instr.mapUpdate 59 (.map (some bm)) (.int .i64 id) (.pointer (some ⟨n, 0, none⟩))).run Try.prog (W.alloc (.cells #[.int .i64 id, .int .i64 ki, .string tx, .string tr, .slice none 0 0, .pointer none, .slice none 0 0] 80)).drew = .ok () W2 ∧ W2.cell? ⟨w.heap.size, 3, none⟩ = some (.int .i64 af) ∧
      Calls Try.prog 31 #[.pointer (some ⟨c, 0, none⟩), .pointer (some ⟨n, 0, none⟩), .int .i64 af] W2 fun e w' => e = .returned (.tuple #[]) ∧ ∃ v' a, Stt w0 Z (GL (blk w.heap.size 54 EC :: blk gb 61 #[.map (some bm)] :: mpK bm (m + 1) (adPut ad id a) (ids ++ [id]) :: pre) (adPut ad id a) ((g.set jp ⟨hp.k.wKids (insAt hp.k.kids (putPos hp.k.kids af).toNat id), v'⟩) ++ [⟨⟨id, ki, tx, tr, some pa, []⟩, .slice none 0 0⟩]) X) F w' := by
    rintro W _ rfl SW
    have T1 := kn_new SW id ki tx tr hn
    have T2 := stt_drew T1
    obtain ⟨W2, hr, T3, _⟩ := map_put T2 2 rfl h1 hid hm2 W.heap.size
    refine ⟨(blk_cell (T1.at_blk 1 rfl) 0).trans rfl, by rw [blk_cell (T1.at_blk 0 rfl) 1, hEC]; rfl, W2, hr, ?_, ?_⟩
    · rw [blk_cell (T3.at_blk 0 rfl) 3, hEC]; rfl
    have hjl := (List.getElem?_eq_some_iff.1 ep).1
    have ex2 : (g ++ [hkNew id ki tx tr])[g.length]? = some (hkNew id ki tx tr) := by simp
    have ep2 : (g ++ [hkNew id ki tx tr])[jp]? = some hp := by rw [List.getElem?_append_left hjl]; exact ep
    have T4 : Stt w0 Z (GL (blk w.heap.size 54 EC :: blk gb 61 #[.map (some bm)] :: mpK bm (m + 1) (adPut ad id W.heap.size) (ids ++ [id]) :: pre) (adPut ad id W.heap.size) (g ++ [hkNew id ki tx tr]) X) F W2 := T3
    have hP := put_calls T4 ex2 ep2 (Nat.ne_of_gt hjl) (fun y hy => by
      obtain ⟨j, h, e1, e2⟩ := hids y hy
      exact ⟨j, h, by rw [List.getElem?_append_left (List.getElem?_eq_some_iff.1 e1).1]; exact e1, e2⟩) hlen af
    have e1 : pk (adPut ad id W.heap.size) hp.k.id = .pointer (some ⟨c, 0, none⟩) := by unfold pk; rw [hpi, adPut_old _ _ hpn, hc]
    have e2 : pk (adPut ad id W.heap.size) (hkNew id ki tx tr).k.id = .pointer (some ⟨W.heap.size, 0, none⟩) := by unfold pk hkNew; rw [adPut_new]
    rw [e1, e2] at hP
    refine hP.mono ?_
    rintro e w' ⟨v', rfl, S9⟩
    refine ⟨rfl, v', W.heap.size, ?_⟩
    rw [List.set_append_left _ _ hjl, List.set_append_right _ _ (by simp)] at S9
    simp only [List.length_set, Nat.sub_self, List.set_cons_zero] at S9
    rw [← hpi]
    exact S9
  rw [if_pos hpa, decide_eq_true hpa] at l2
  simp only [pk, hc] at l2
  generalize insAt hp.k.kids (putPos hp.k.kids af).toNat id = newkids at HN ⊢
  have HP := place_calls ad hp.k hp.v af _ (kn_blk SP ep) (kn_row SP ep) (fun y hy => by obtain ⟨jy, hy', e1, e2⟩ := hids y hy; rw [← e2, blk_cell (kn_blk SP e1) 0]; rfl)
  obtain ⟨R, hR⟩ : ∃ R, placeOf hp.k.kids af = R := ⟨_, rfl⟩
  rw [hR] at HP hspot
  rw [hpi] at HP
  simp only [pk, hc] at HP
  replace HP := Aside0.mk HP
  rw [hEC] at l1 l2 hgb1 SP HN HP
  replace SP := Aside0.mk (And.intro SP HN)
  clear HN hc S S1 h1 h2 hid hpa hEC EC hn hlen hids ep hpi hR
  have mixed : Try.prog.follows .mixedOrders = true := by kernel_rfl
  go_enter Try.func21, Try.ntmps21
  go_wp2
  go_region_o
  go_wp2
  go_region_o
  go_wp2_with (go_at_call 29; refine HP.out.mono ?_; rintro e_ w1 ⟨rfl, hB⟩; have S2 := SP.out.1.keep hB; have q0 := (blk_cell (S2.at_blk 0 rfl) 0).trans rfl; have q1 := (blk_cell (S2.at_blk 0 rfl) 1).trans rfl; have q4 := (blk_cell (S2.at_blk 0 rfl) 4).trans rfl; have q5 := (blk_cell (S2.at_blk 0 rfl) 5).trans rfl; have q6 := (blk_cell (S2.at_blk 0 rfl) 6).trans rfl; obtain ⟨qg2, qi2, W2, hmu, hW3, hput⟩ := SP.out.2 _ _ rfl S2; replace hput := Aside0.mk hput; clear S2 hB)
  go_region_law_o (refine step_mapput_run rfl 59 _ _ _ rfl _ _ _ (by simp [Act.eval, Act.put]) (by simp [Act.eval, Act.put]) (by simp [Act.eval, Act.put]) hmu ?_)
  all_goals (go_wp2_with (go_at_call 31; refine hput.out.mono ?_; rintro e_ w9 ⟨rfl, v', a9, S9⟩; replace S9 := Aside0.mk S9))
  all_goals (go_ret; exact ⟨rfl, v', a9, Stt.drop (l := GL (blk gb 61 #[.map (some bm)] :: mpK bm (m + 1) (adPut ad id a9) (ids ++ [id]) :: pre) _ _ X) S9.out⟩)
end Go.Proofs.Ytfmlpkeaiohknaa.Q
/-! A grove's edits in plain Lean. -/
set_option linter.unusedVariables false
set_option linter.unusedSimpArgs false
namespace Go.Proofs.Ytfmlpkeaiohknaa.Q
open Go Go.RowKit Go.Proofs.YtfmlpkeaiohknaaW.PrintWords Go.Proofs.YtfmlpkeaiohknaaW.SL
/-- An edit. -/
structure Ed where
  so : Int
  id : Int
  pa : Int
  af : Int
  ki : Int
  tx : ByteArray
  tr : ByteArray
def updK (g : List Kn) (i : Int) (f : Kn → Kn) : List Kn := g.map fun k => if k.id = i then f k else k
theorem updK_ids {g : List Kn} {i : Int} {f : Kn → Kn} (hf : ∀ k, (f k).id = k.id) : (updK g i f).map (·.id) = g.map (·.id) := by
  unfold updK
  rw [List.map_map]
  apply List.map_congr_left
  intro k _
  show (if k.id = i then f k else k).id = k.id
  split
  · exact hf k
  · rfl
theorem mem_updK {g : List Kn} {i : Int} {f : Kn → Kn} {k : Kn} : k ∈ updK g i f ↔ ∃ x ∈ g, (if x.id = i then f x else x) = k := by
  unfold updK; rw [List.mem_map]
theorem updK_ne {g : List Kn} {i : Int} {f : Kn → Kn} (h : i ∉ g.map (·.id)) : updK g i f = g := by
  unfold updK
  have : ∀ k ∈ g, (if k.id = i then f k else k) = k := fun k hk => if_neg (fun e => h (List.mem_map.2 ⟨k, hk, e⟩))
  rw [List.map_congr_left this]; simp
theorem gAt_updK {g : List Kn} {i j : Int} {f : Kn → Kn} (hf : ∀ k, (f k).id = k.id) : gAt (updK g i f) j = (gAt g j).map (fun k => if k.id = i then f k else k) := by
  induction g with
  | nil => rfl
  | cons x r ih =>
    unfold gAt updK at ih ⊢
    rw [List.map_cons, List.find?_cons, List.find?_cons]
    have e : (if x.id = i then f x else x).id = x.id := by split; exact hf x; rfl
    rw [e]
    cases decide (x.id = j) with
    | true => rfl
    | false => exact ih
theorem kns_set {g : List Hk} (hn : ((kns g).map (·.id)).Nodup) {j : Nat} {h h' : Hk} (hj : g[j]? = some h) {f : Kn → Kn} (he : h'.k = f h.k) : kns (g.set j h') = updK (kns g) h.k.id f := by
  induction g generalizing j with
  | nil => simp at hj
  | cons x r ih =>
    simp only [kns, List.map_cons, List.nodup_cons] at hn
    cases j with
    | zero =>
      have : x = h := by simpa using hj
      subst this
      show h'.k :: r.map (·.k) = updK (x.k :: r.map (·.k)) x.k.id f
      have h3 := updK_ne (g := r.map (·.k)) (i := x.k.id) (f := f) hn.1
      unfold updK at h3 ⊢
      rw [List.map_cons, if_pos rfl, h3, he]
    | succ j =>
      have hj2 : r[j]? = some h := by simpa using hj
      have h3 := ih hn.2 hj2
      show x.k :: kns (r.set j h') = updK (x.k :: kns r) h.k.id f
      rw [h3]
      unfold updK
      rw [List.map_cons, if_neg]
      intro e
      exact hn.1 (List.mem_map.2 ⟨h.k, List.mem_map.2 ⟨h, List.mem_of_getElem? hj2, rfl⟩, e.symm⟩)
/-- Does a name stand below another one, or is it that? -/
def Bel (g : List Kn) (i t : Int) : Prop := ∃ n, belowP g n i t = true
theorem belowP_mono {g : List Kn} {t : Int} : ∀ {n : Nat} {i : Int}, belowP g n i t = true → belowP g (n + 1) i t = true
  | 0, i, h => by simp [belowP] at h
  | n + 1, i, h => by
    unfold belowP at h ⊢
    split
    · rfl
    · rename_i hne
      rw [if_neg hne] at h
      split
      · rename_i hn; rw [hn] at h; exact h
      · rename_i p hp; rw [hp] at h; exact belowP_mono h
theorem belowP_le {g : List Kn} {t i : Int} {n m : Nat} (h : belowP g n i t = true) (hm : n ≤ m) : belowP g m i t = true := by
  induction hm with
  | refl => exact h
  | step _ ih => exact belowP_mono ih
theorem Bel.refl (g : List Kn) (t : Int) : Bel g t t := ⟨1, by unfold belowP; rw [if_pos rfl]⟩
theorem Bel.iff {g : List Kn} {i t : Int} : Bel g i t ↔ i = t ∨ ∃ p, (gAt g i).bind (·.par) = some p ∧ Bel g p t := by
  constructor
  · rintro ⟨n, hn⟩
    cases n with
    | zero => simp [belowP] at hn
    | succ n =>
      unfold belowP at hn
      by_cases e : i = t
      · exact .inl e
      · rw [if_neg e] at hn
        split at hn
        · cases hn
        · rename_i p hp; exact .inr ⟨p, hp, n, hn⟩
  · rintro (rfl | ⟨p, hp, n, hn⟩)
    · exact Bel.refl g i
    · refine ⟨n + 1, ?_⟩
      unfold belowP
      split
      · rfl
      · rw [hp]; exact hn
theorem belowP_Bel {g : List Kn} {i t : Int} {n0 : Nat} {Q : Bool → Prop} (h : ∀ n, n0 ≤ n → Q (belowP g n i t)) : (Bel g i t → Q true) ∧ (¬ Bel g i t → Q false) := by
  constructor
  · rintro ⟨n, hn⟩
    have := h (max n0 n) (Nat.le_max_left _ _)
    rwa [belowP_le hn (Nat.le_max_right _ _)] at this
  · intro hb
    have := h n0 (Nat.le_refl _)
    have e : belowP g n0 i t = false := by
      cases he : belowP g n0 i t with
      | false => rfl
      | true => exact (hb ⟨_, he⟩).elim
    rwa [e] at this
def Kn.ins (x : Ed) (k : Kn) : Kn := k.wKids (insAt k.kids (putPos k.kids x.af).toNat x.id)
def Kn.cut (i : Int) (k : Kn) : Kn := k.wKids (k.kids.filter fun y => decide (y ≠ i))
/-- Is there the spot that an edit names? -/
def SpotK (g : List Kn) (x : Ed) : Prop := ∃ p, gAt g x.pa = some p ∧ (x.af = -1 ∨ x.af ∈ p.kids)
def newK (g : List Kn) (x : Ed) : List Kn := updK g x.pa (Kn.ins x) ++ [⟨x.id, x.ki, x.tx, x.tr, some x.pa, []⟩]
def goneK (g : List Kn) (q : Int) (x : Ed) : List Kn := (updK g q (Kn.cut x.id)).filter fun k => decide (k.id ≠ x.id)
def textK (g : List Kn) (x : Ed) : List Kn := updK g x.id (fun k => k.wText x.tx x.tr)
def movedK (g : List Kn) (q : Int) (x : Ed) : List Kn := updK (updK (updK g q (Kn.cut x.id)) x.pa (Kn.ins x)) x.id (fun k => k.wPar (some x.pa))
open Classical in
/-- An edit of a grove; none: it can't be done. -/
noncomputable def doK (g : List Kn) (x : Ed) : Option (List Kn) :=
  if x.so = 1 then if gAt g x.id = none ∧ 0 ≤ x.id ∧ SpotK g x then some (newK g x) else none
  else if x.so = 2 then match gAt g x.id with
    | none => none
    | some k => match k.par with
      | none => none
      | some q => if k.kids = [] then some (goneK g q x) else none
  else if x.so = 3 then match gAt g x.id with
    | none => none
    | some _ => some (textK g x)
  else if x.so = 4 then match gAt g x.id with
    | none => none
    | some k => match k.par with
      | none => none
      | some q => if SpotK g x ∧ x.af ≠ x.id ∧ ¬ Bel g x.pa x.id then some (movedK g q x) else none
  else none
theorem ins_id (x : Ed) (k : Kn) : (Kn.ins x k).id = k.id := rfl
theorem cut_id (i : Int) (k : Kn) : (Kn.cut i k).id = k.id := rfl
theorem mem_insAt {l : List Int} {i : Nat} {x y : Int} : y ∈ insAt l i x ↔ y = x ∨ y ∈ l := by
  unfold insAt
  rw [List.mem_append, List.mem_cons]
  conv => rhs; rw [← List.take_append_drop i l, List.mem_append]
  constructor
  · rintro (h | h | h)
    · exact .inr (.inl h)
    · exact .inl h
    · exact .inr (.inr h)
  · rintro (h | h | h)
    · exact .inr (.inl h)
    · exact .inl h
    · exact .inr (.inr h)
theorem nodup_insAt {l : List Int} {i : Nat} {x : Int} (h : l.Nodup) (hx : x ∉ l) : (insAt l i x).Nodup := by
  unfold insAt
  have h2 : (l.take i ++ l.drop i).Nodup := by rw [List.take_append_drop]; exact h
  have hx2 : x ∉ l.take i ++ l.drop i := by rw [List.take_append_drop]; exact hx
  rw [List.nodup_append] at h2 ⊢
  rw [List.mem_append] at hx2
  refine ⟨h2.1, List.nodup_cons.2 ⟨fun e => hx2 (.inr e), h2.2.1⟩, fun a ha b hb => ?_⟩
  rcases List.mem_cons.1 hb with e | hb
  · intro e2; exact hx2 (.inl (by rw [← e, ← e2]; exact ha))
  · exact h2.2.2 a ha b hb
/-- A new knot keeps what holds of a grove. -/
theorem addK_inv {g : List Kn} {x : Ed} {f : Kn → Kn} (hf1 : ∀ k, (f k).id = k.id) (hf2 : ∀ k, (f k).par = k.par) (hf3 : ∀ k i, i ∈ (f k).kids ↔ i = x.id ∨ i ∈ k.kids) (hf4 : ∀ k : Kn, k.kids.Nodup → x.id ∉ k.kids → (f k).kids.Nodup)
    (I : Inv g) (hid : gAt g x.id = none) (h0 : 0 ≤ x.id) (h64 : in64 x.id) {p : Kn} (hp : gAt g x.pa = some p) : Inv (updK g x.pa f ++ [⟨x.id, x.ki, x.tx, x.tr, some x.pa, []⟩]) := by
  obtain ⟨hpm, hpi⟩ := gAt_mem hp
  have hni : x.id ∉ g.map (·.id) := gAt_none.1 hid
  have hpn : x.pa ≠ x.id := fun e => hni (by rw [← e, ← hpi]; exact List.mem_map.2 ⟨p, hpm, rfl⟩)
  have hkid : ∀ k ∈ g, x.id ∉ k.kids := fun k hk hm => by
    obtain ⟨y, hy, e, _⟩ := I.kids k hk _ hm
    exact hni (List.mem_map.2 ⟨y, hy, e⟩)
  have hpar : ∀ k ∈ g, k.par ≠ some x.id := fun k hk hm => by
    obtain ⟨q, hq, e, _⟩ := I.par k hk _ hm
    exact hni (List.mem_map.2 ⟨q, hq, e⟩)
  have hid2 : (updK g x.pa f).map (·.id) = g.map (·.id) := updK_ids hf1
  have hmem : ∀ k ∈ g, ∃ k' ∈ (updK g x.pa f ++ [⟨x.id, x.ki, x.tx, x.tr, some x.pa, []⟩]), k'.id = k.id ∧ k'.par = k.par ∧ ∀ i ∈ k.kids, i ∈ k'.kids := fun k hk => by
    refine ⟨if k.id = x.pa then f k else k, List.mem_append_left _ (mem_updK.2 ⟨k, hk, rfl⟩), ?_⟩
    split
    · exact ⟨hf1 k, hf2 k, fun i hi => (hf3 k i).2 (.inr hi)⟩
    · exact ⟨rfl, rfl, fun i hi => hi⟩
  have hnew : (⟨x.id, x.ki, x.tx, x.tr, some x.pa, []⟩ : Kn) ∈ (updK g x.pa f ++ [⟨x.id, x.ki, x.tx, x.tr, some x.pa, []⟩]) := List.mem_append_right _ (List.mem_singleton.2 rfl)
  refine ⟨?_, ?_, ?_, ?_, ?_, ?_, ?_⟩
  · rw [List.map_append, hid2, List.nodup_append]
    refine ⟨I.nodup, by simp, fun a ha b hb => ?_⟩
    rw [List.map_singleton, List.mem_singleton] at hb
    subst hb
    intro e
    rw [e] at ha
    exact hni ha
  · intro k hk i hi
    rcases List.mem_append.1 hk with hk | hk
    · obtain ⟨k0, hk0, rfl⟩ := mem_updK.1 hk
      by_cases e : k0.id = x.pa
      · rw [if_pos e] at hi ⊢
        rcases (hf3 k0 i).1 hi with hi | hi
        · subst hi; exact ⟨_, hnew, rfl, by show some x.pa = some (f k0).id; rw [hf1, e]⟩
        · obtain ⟨y, hy, e1, e2⟩ := I.kids k0 hk0 i hi
          obtain ⟨y', hy', f1, f2, _⟩ := hmem y hy
          exact ⟨y', hy', f1.trans e1, by rw [hf1]; exact f2.trans e2⟩
      · rw [if_neg e] at hi ⊢
        obtain ⟨y, hy, e1, e2⟩ := I.kids k0 hk0 i hi
        obtain ⟨y', hy', f1, f2, _⟩ := hmem y hy
        exact ⟨y', hy', f1.trans e1, f2.trans e2⟩
    · rw [List.mem_singleton.1 hk] at hi; cases hi
  · intro k hk q hq
    rcases List.mem_append.1 hk with hk | hk
    · obtain ⟨k0, hk0, rfl⟩ := mem_updK.1 hk
      have hq0 : k0.par = some q ∧ (if k0.id = x.pa then f k0 else k0).id = k0.id := by
        split at hq
        · rename_i e; rw [if_pos e]; exact ⟨(hf2 k0).symm.trans hq, hf1 k0⟩
        · rename_i e; rw [if_neg e]; exact ⟨hq, rfl⟩
      obtain ⟨y, hy, e1, e2⟩ := I.par k0 hk0 q hq0.1
      obtain ⟨y', hy', f1, f2, f3⟩ := hmem y hy
      exact ⟨y', hy', f1.trans e1, by rw [hq0.2]; exact f3 _ e2⟩
    · rw [List.mem_singleton.1 hk] at hq ⊢
      injection hq with hq
      subst hq
      refine ⟨if p.id = x.pa then f p else p, List.mem_append_left _ (mem_updK.2 ⟨p, hpm, rfl⟩), ?_⟩
      rw [if_pos hpi]
      exact ⟨(hf1 p).trans hpi, (hf3 p _).2 (.inl rfl)⟩
  · intro k hk
    rcases List.mem_append.1 hk with hk | hk
    · obtain ⟨k0, hk0, rfl⟩ := mem_updK.1 hk
      split
      · exact hf4 k0 (I.kdup k0 hk0) (hkid k0 hk0)
      · exact I.kdup k0 hk0
    · rw [List.mem_singleton.1 hk]; exact List.nodup_nil
  · obtain ⟨d, hd⟩ := I.rank
    refine ⟨fun i => if i = x.id then d x.pa + 1 else d i, fun k hk q hq => ?_⟩
    rcases List.mem_append.1 hk with hk | hk
    · obtain ⟨k0, hk0, rfl⟩ := mem_updK.1 hk
      have hq0 : k0.par = some q ∧ (if k0.id = x.pa then f k0 else k0).id = k0.id := by
        split at hq
        · rename_i e; rw [if_pos e]; exact ⟨(hf2 k0).symm.trans hq, hf1 k0⟩
        · rename_i e; rw [if_neg e]; exact ⟨hq, rfl⟩
      rw [hq0.2]
      have h1 : q ≠ x.id := fun e => hpar k0 hk0 (e ▸ hq0.1)
      have h2 : k0.id ≠ x.id := fun e => hni (e ▸ List.mem_map.2 ⟨k0, hk0, rfl⟩)
      show (if q = x.id then _ else _) < (if k0.id = x.id then _ else _)
      rw [if_neg h1, if_neg h2]
      exact hd k0 hk0 q hq0.1
    · rw [List.mem_singleton.1 hk] at hq ⊢
      injection hq with hq
      subst hq
      show (if x.pa = x.id then _ else _) < (if x.id = x.id then _ else _)
      rw [if_neg hpn, if_pos rfl]; exact Nat.lt_succ_self _
  · intro k hk
    rcases List.mem_append.1 hk with hk | hk
    · obtain ⟨k0, hk0, rfl⟩ := mem_updK.1 hk
      have := I.root k0 hk0
      split
      · rw [hf1, hf2]; exact this
      · exact this
    · rw [List.mem_singleton.1 hk]
      show some x.pa = none ↔ x.id = 0
      constructor
      · intro h; cases h
      · intro h
        -- nought is the root's name, and the root is there
        exfalso
        have hroot : ∀ n : Nat, ∀ k ∈ g, (I.rank.choose k.id) < n → ∃ r ∈ g, r.id = 0 := by
          intro n
          induction n with
          | zero => intro k _ h; omega
          | succ n ih =>
            intro k hk hlt
            cases hpk : k.par with
            | none => exact ⟨k, hk, (I.root k hk).1 hpk⟩
            | some q =>
              obtain ⟨y, hy, e1, _⟩ := I.par k hk q hpk
              have h3 := I.rank.choose_spec k hk q hpk
              exact ih y hy (by rw [e1]; omega)
        obtain ⟨r, hr, e⟩ := hroot _ p hpm (Nat.lt_succ_self _)
        exact hni (by rw [h, ← e]; exact List.mem_map.2 ⟨r, hr, rfl⟩)
  · intro k hk
    rcases List.mem_append.1 hk with hk | hk
    · obtain ⟨k0, hk0, rfl⟩ := mem_updK.1 hk
      have := I.in64 k0 hk0
      split
      · rw [hf1]; exact this
      · exact this
    · rw [List.mem_singleton.1 hk]; exact ⟨h0, h64⟩
theorem newK_inv {g : List Kn} {x : Ed} (I : Inv g) (hid : gAt g x.id = none) (h0 : 0 ≤ x.id) (h64 : in64 x.id) (hs : SpotK g x) : Inv (newK g x) := by
  obtain ⟨p, hp, _⟩ := hs
  exact addK_inv (ins_id x) (fun _ => rfl) (fun k i => mem_insAt) (fun k h1 h2 => nodup_insAt h1 h2) I hid h0 h64 hp
end Go.Proofs.Ytfmlpkeaiohknaa.Q
/-! (*grove).do: a knot moves. -/
set_option linter.unusedVariables false
set_option linter.unusedSimpArgs false
namespace Go.Proofs.Ytfmlpkeaiohknaa.Q
open Go Go.RowKit Go.Lib Go.Sort Go.Proofs.YtfmlpkeaiohknaaW.PrintWords Go.Proofs.YtfmlpkeaiohknaaW.PrintLast Go.Proofs.YtfmlpkeaiohknaaW.PrintMore Go.Proofs.YtfmlpkeaiohknaaW.SL
attribute [local go_sem] max2_int min2_int max_two min_two max_three min_three max_four min_four
theorem kns_cut {w0 w : World} {Z : Nat → Prop} {pre X : List Asr} {F : List FA} {ad : Int → Nat} {g : List Hk} (S : Stt w0 Z (GL pre ad g X) F w) {jx : Nat} {hx : Hk} (ex : g[jx]? = some hx) {l : List Int} (hids : ∀ y ∈ l, ∃ (j : Nat) (h : Hk), g[j]? = some h ∧ h.k.id = y) :
    (l.filter fun y => !decide (ad y = ad hx.k.id)) = l.filter fun y => decide (y ≠ hx.k.id) := by
  apply List.filter_congr
  intro y hy
  obtain ⟨j, h, e1, e2⟩ := hids y hy
  by_cases e : y = hx.k.id
  · rw [e]; simp
  · have : ¬ ad y = ad hx.k.id := fun e3 => e (by
      have := kn_inj S e1 ex (by rw [e2]; exact e3)
      subst this
      have := e1.symm.trans ex
      injection this with this
      rw [← e2, this])
    rw [decide_eq_false this, decide_eq_true e]; rfl
/-- out, and put: the knot stands elsewhere. -/
theorem move_calls {w0 w : World} {Z : Nat → Prop} {pre X : List Asr} {F : List FA} {ad : Int → Nat} {g : List Hk} {jx jq jp : Nat} {hx hq hp : Hk} (S : Stt w0 Z (GL pre ad g X) F w) (I : Inv (kns g)) (ex : g[jx]? = some hx) (eq : g[jq]? = some hq) (ep : g[jp]? = some hp) (hne : jx ≠ jq) (hnp : jx ≠ jp)
    (hpar : hx.k.par = some hq.k.id) (hin : hx.k.id ∈ hq.k.kids) (hids : ∀ h ∈ g, ∀ y ∈ h.k.kids, ∃ (j : Nat) (h : Hk), g[j]? = some h ∧ h.k.id = y) (hlen : ∀ h ∈ g, h.k.kids.length ≤ 1000000) (x : Ed) (hxi : hx.k.id = x.id) (hpi : hp.k.id = x.pa) :
    Calls Try.prog 32 #[pk ad x.id] w fun e w2 => e = .returned (.tuple #[]) ∧ ∃ g1, Stt w0 Z (GL pre ad g1 X) F w2 ∧ Calls Try.prog 31 #[pk ad x.pa, pk ad x.id, .int .i64 x.af] w2 fun e w' => e = .returned (.tuple #[]) ∧ ∃ g', kns g' = movedK (kns g) hq.k.id x ∧ Stt w0 Z (GL pre ad g' X) F w' := by
  rw [← hxi, ← hpi]
  refine (out_calls S ex eq hne hpar hin (fun y hy => hids hq (List.mem_of_getElem? eq) y hy)).mono ?_
  rintro e w2 ⟨v', rfl, S2⟩
  rw [kns_cut S ex (fun y hy => hids hq (List.mem_of_getElem? eq) y hy)] at S2
  refine ⟨rfl, _, S2, ?_⟩
  obtain ⟨hq2, hhq2⟩ : ∃ hq2 : Hk, hq2 = ⟨hq.k.wKids (hq.k.kids.filter fun y => decide (y ≠ hx.k.id)), v'⟩ := ⟨_, rfl⟩
  rw [← hhq2] at S2
  obtain ⟨hx2, hhx2⟩ : ∃ hx2 : Hk, hx2 = ⟨hx.k.wPar none, hx.v⟩ := ⟨_, rfl⟩
  rw [← hhx2] at S2
  have lx := (List.getElem?_eq_some_iff.1 ex).1
  have lq := (List.getElem?_eq_some_iff.1 eq).1
  have lp := (List.getElem?_eq_some_iff.1 ep).1
  have ex2 : ((g.set jq hq2).set jx hx2)[jx]? = some hx2 := List.getElem?_set_self (by simpa using lx)
  obtain ⟨hp2, hhp2⟩ : ∃ hp2 : Hk, hp2 = if jp = jq then hq2 else hp := ⟨_, rfl⟩
  have ep2 : ((g.set jq hq2).set jx hx2)[jp]? = some hp2 := by
    rw [List.getElem?_set_ne hnp]
    by_cases e : jp = jq
    · rw [hhp2, if_pos e, e]; exact List.getElem?_set_self lq
    · rw [hhp2, if_neg e, List.getElem?_set_ne (Ne.symm e)]; exact ep
  have hpq : jp = jq → hp = hq := fun e => by rw [e] at ep; exact Option.some.inj (ep.symm.trans eq)
  have hp2i : hp2.k.id = hp.k.id := by
    rw [hhp2]
    split
    · rename_i e; rw [hpq e, hhq2]; rfl
    · rfl
  have hp2k : ∀ y ∈ hp2.k.kids, y ∈ hp.k.kids := by
    rw [hhp2]
    split
    · rename_i e; rw [hpq e, hhq2]; intro y hy; exact (List.mem_filter.1 hy).1
    · exact fun y hy => hy
  have hp2l : hp2.k.kids.length ≤ hp.k.kids.length := by
    rw [hhp2]
    split
    · rename_i e; rw [hpq e, hhq2]; exact List.length_filter_le _ _
    · exact Nat.le_refl _
  have hx2i : hx2.k.id = hx.k.id := by rw [hhx2]; rfl
  have ids2 : ∀ y ∈ hp2.k.kids, ∃ (j : Nat) (h : Hk), ((g.set jq hq2).set jx hx2)[j]? = some h ∧ h.k.id = y := fun y hy => by
    obtain ⟨j, h, e1, e2⟩ := hids hp (List.mem_of_getElem? ep) y (hp2k y hy)
    have lj := (List.getElem?_eq_some_iff.1 e1).1
    by_cases e : j = jx
    · subst e
      have := Option.some.inj (e1.symm.trans ex)
      subst this
      exact ⟨j, hx2, ex2, hx2i.trans e2⟩
    · by_cases e3 : j = jq
      · subst e3
        have := Option.some.inj (e1.symm.trans eq)
        subst this
        exact ⟨j, hq2, by rw [List.getElem?_set_ne (Ne.symm e)]; exact List.getElem?_set_self lq, by rw [← e2, hhq2]; rfl⟩
      · exact ⟨j, h, by rw [List.getElem?_set_ne (Ne.symm e), List.getElem?_set_ne (Ne.symm e3)]; exact e1, e2⟩
  have hP := put_calls S2 ex2 ep2 hnp ids2 (Nat.le_trans hp2l (hlen hp (List.mem_of_getElem? ep))) x.af
  rw [hp2i, hx2i] at hP
  refine hP.mono ?_
  rintro e w' ⟨v2, rfl, S9⟩
  refine ⟨rfl, _, ?_, S9⟩
  -- the same, by names
  have n0 := I.nodup
  have s1 : kns (g.set jq hq2) = updK (kns g) hq.k.id (Kn.cut x.id) := kns_set n0 eq (by rw [hhq2, ← hxi]; rfl)
  have n1 : ((kns (g.set jq hq2)).map (·.id)).Nodup := by rw [s1, updK_ids (cut_id _)]; exact n0
  have ex1 : (g.set jq hq2)[jx]? = some hx := by rw [List.getElem?_set_ne (Ne.symm hne)]; exact ex
  have s2 : kns ((g.set jq hq2).set jx hx2) = updK (kns (g.set jq hq2)) hx.k.id (fun k => k.wPar none) := kns_set n1 ex1 (by rw [hhx2])
  have n2 : ((kns ((g.set jq hq2).set jx hx2)).map (·.id)).Nodup := by rw [s2, updK_ids (f := fun k => k.wPar none) (fun _ => rfl)]; exact n1
  have s3 : kns (((g.set jq hq2).set jx hx2).set jp ⟨hp2.k.wKids (insAt hp2.k.kids (putPos hp2.k.kids x.af).toNat hx.k.id), v2⟩) = updK (kns ((g.set jq hq2).set jx hx2)) hp2.k.id (Kn.ins x) := kns_set n2 ep2 (by rw [hxi]; rfl)
  have n3 := n2
  rw [← updK_ids (i := hp2.k.id) (ins_id x), ← s3] at n3
  have ex3 : (((g.set jq hq2).set jx hx2).set jp ⟨hp2.k.wKids (insAt hp2.k.kids (putPos hp2.k.kids x.af).toNat hx.k.id), v2⟩)[jx]? = some hx2 := by rw [List.getElem?_set_ne (Ne.symm hnp)]; exact ex2
  have s4 := kns_set n3 ex3 (h' := ⟨hx2.k.wPar (some hp.k.id), hx2.v⟩) (f := fun k => k.wPar (some hp.k.id)) rfl
  show kns (((((g.set jq hq2).set jx hx2).set jp _).set jx ⟨hx2.k.wPar (some hp.k.id), hx2.v⟩)) = _
  rw [s4, s3, s2, s1, hx2i, hp2i]
  unfold movedK
  rw [hxi, hpi]
  generalize kns g = ks
  unfold updK
  simp only [List.map_map]
  apply List.map_congr_left
  intro k _
  simp only [Function.comp_apply]
  have hnpa : x.pa ≠ x.id := by
    rw [← hpi, ← hxi]
    intro e
    exact hnp (kn_inj S ex ep (by rw [e]))
  by_cases c1 : k.id = hq.k.id
  · have d1 : (Kn.cut x.id k).id = k.id := rfl
    simp only [if_pos c1]
    by_cases c2 : (Kn.cut x.id k).id = x.id
    · simp only [if_pos c2]
      have c3 : ((Kn.cut x.id k).wPar none).id = x.id := c2
      have c4 : ¬ ((Kn.cut x.id k).wPar none).id = x.pa := fun e => hnpa (e.symm.trans c3)
      have c5 : ¬ (Kn.cut x.id k).id = x.pa := fun e => hnpa (e.symm.trans c2)
      simp only [if_neg c4, if_neg c5, if_pos c3, if_pos c2]
      rfl
    · simp only [if_neg c2]
  · simp only [if_neg c1]
    by_cases c2 : k.id = x.id
    · simp only [if_pos c2]
      have c3 : (k.wPar none).id = x.id := c2
      have c4 : ¬ (k.wPar none).id = x.pa := fun e => hnpa (e.symm.trans c3)
      have c5 : ¬ k.id = x.pa := fun e => hnpa (e.symm.trans c2)
      simp only [if_neg c4, if_neg c5, if_pos c3, if_pos c2]
      rfl
    · simp only [if_neg c2]
set_option maxHeartbeats 4000000 in
set_option maxRecDepth 100000 in
theorem do_move1 {w0 w : World} {Z : Nat → Prop} {pre X : List Asr} {F : List FA} {ad : Int → Nat} {g : List Hk} {gb bm m : Nat} {ids : List Int} (S : Stt w0 Z (GL (blk gb 61 #[.map (some bm)] :: mpK bm m ad ids :: pre) ad g X) F w) (I : Inv (kns g))
    (id pa af ki : Int) (tx tr : ByteArray) (h1 : in64 id) (h2 : in64 pa) (hid : id ∈ ids) (hpa : pa ∈ ids) {jx jq jp : Nat} {hx hq hp : Hk} (ex : g[jx]? = some hx) (eq : g[jq]? = some hq) (ep : g[jp]? = some hp) (hne : jx ≠ jq) (hnp : jx ≠ jp)
    (hpar : hx.k.par = some hq.k.id) (hin : hx.k.id ∈ hq.k.kids) (hids : ∀ h ∈ g, ∀ y ∈ h.k.kids, ∃ (j : Nat) (h : Hk), g[j]? = some h ∧ h.k.id = y) (hlen : ∀ h ∈ g, h.k.kids.length ≤ 1000000) (hxi : hx.k.id = id) (hpi : hp.k.id = pa)
    (hai : ¬ af = id) (hbl : ¬ Bel (kns g) pa id) (haf : af = -1) :
    Calls Try.prog 21 #[.pointer (some ⟨gb, 0, none⟩), .agg #[.int .i64 4, .int .i64 id, .int .i64 pa, .int .i64 af, .int .i64 ki, .string tx, .string tr]] w fun e w' => e = .returned (.bool true) ∧ ∃ g', kns g' = movedK (kns g) hq.k.id ⟨4, id, pa, af, ki, tx, tr⟩ ∧ Stt w0 Z (GL (blk gb 61 #[.map (some bm)] :: mpK bm m ad ids :: pre) ad g' X) F w' := by
  obtain ⟨EC, hEC⟩ : ∃ EC : Array Value, EC = #[.int .i64 4, .int .i64 id, .int .i64 pa, .int .i64 af, .int .i64 ki, .string tx, .string tr] := ⟨_, rfl⟩
  have S1 : Stt w0 Z (GL (blk w.heap.size 54 EC :: blk gb 61 #[.map (some bm)] :: mpK bm m ad ids :: pre) ad g X) F (w.alloc (.cells EC 54)) := S.box rfl (heap_alloc_new w _) (below_alloc (Below.refl _ _) _)
  have l1 := map_ok (stt_drew S1) 2 rfl h1
  have l2 := map_ok (stt_drew (stt_drew S1)) 2 rfl h2
  have hgb1 : (w.alloc (.cells EC 54)).cell? ⟨gb, 0, none⟩ = some (.map (some bm)) := (blk_cell (S1.at_blk 1 rfl) 0).trans rfl
  have SP := stt_drew (stt_drew S1)
  rw [if_pos hid, decide_eq_true hid] at l1
  obtain ⟨a, ha⟩ : ∃ a, ad id = a := ⟨_, rfl⟩
  obtain ⟨c, hc⟩ : ∃ c, ad pa = c := ⟨_, rfl⟩
  obtain ⟨aq, haq⟩ : ∃ aq, ad hq.k.id = aq := ⟨_, rfl⟩
  have HB : ∀ W, Stt w0 Z (GL (blk w.heap.size 54 EC :: blk gb 61 #[.map (some bm)] :: mpK bm m ad ids :: pre) ad g X) F W → W.cell? ⟨a, 5, none⟩ = some (.pointer (some ⟨aq, 0, none⟩)) := fun W SW => by rw [← ha, ← hxi]; exact (blk_cell (kn_blk SW ex) 5).trans (show (knB ad hx.k hx.v)[5]? = _ by show some (pp ad hx.k.par) = _; rw [hpar, ← haq]; rfl)
  have HBL : ∀ W, Stt w0 Z (GL (blk w.heap.size 54 EC :: blk gb 61 #[.map (some bm)] :: mpK bm m ad ids :: pre) ad g X) F W → Calls Try.prog 33 #[.pointer (some ⟨c, 0, none⟩), .pointer (some ⟨a, 0, none⟩)] W fun e w' => e = .returned (.bool false) ∧ w' = W := fun W SW => by
    obtain ⟨n0, hn0⟩ := below_calls SW ep ex I
    have h3 := (belowP_Bel (Q := fun b => Calls Try.prog 33 #[pk ad hp.k.id, pk ad hx.k.id] W fun e w' => e = .returned (.bool b) ∧ w' = W) hn0).2 (by rw [hpi, hxi]; exact hbl)
    unfold pk at h3
    rw [hpi, hxi, ha, hc] at h3
    exact h3
  have HM : ∀ W, Stt w0 Z (GL (blk w.heap.size 54 EC :: blk gb 61 #[.map (some bm)] :: mpK bm m ad ids :: pre) ad g X) F W → Calls Try.prog 32 #[.pointer (some ⟨a, 0, none⟩)] W fun e w2 => e = .returned (.tuple #[]) ∧ ∃ g1, Stt w0 Z (GL (blk w.heap.size 54 EC :: blk gb 61 #[.map (some bm)] :: mpK bm m ad ids :: pre) ad g1 X) F w2 ∧ Calls Try.prog 31 #[.pointer (some ⟨c, 0, none⟩), .pointer (some ⟨a, 0, none⟩), .int .i64 af] w2 fun e w' => e = .returned (.tuple #[]) ∧ ∃ g', kns g' = movedK (kns g) hq.k.id ⟨4, id, pa, af, ki, tx, tr⟩ ∧ Stt w0 Z (GL (blk w.heap.size 54 EC :: blk gb 61 #[.map (some bm)] :: mpK bm m ad ids :: pre) ad g' X) F w' := fun W SW => by
    have h3 := move_calls SW I ex eq ep hne hnp hpar hin hids hlen ⟨4, id, pa, af, ki, tx, tr⟩ hxi hpi
    simp only [pk, ha, hc] at h3
    exact h3
  simp only [pk, ha] at l1
  rw [if_pos hpa, decide_eq_true hpa] at l2
  simp only [pk, hc] at l2
  generalize movedK (kns g) hq.k.id ⟨4, id, pa, af, ki, tx, tr⟩ = newg at HM ⊢
  have hai2 : (af == id) = false := by simpa using hai
  subst haf
  have hx5 := HB _ S1
  rw [hEC] at l1 l2 hgb1 SP HBL HM hx5
  replace SP := Aside0.mk SP
  replace HBL := Aside0.mk HBL
  replace HM := Aside0.mk HM
  clear HB S S1 I hid hpa hxi hpi hpar hin hids hlen ex eq ep hne hnp ha hc haq hbl h1 h2 hEC EC
  have mixed : Try.prog.follows .mixedOrders = true := by kernel_rfl
  go_enter Try.func21, Try.ntmps21
  go_wp2
  go_region_o
  go_wp2
  go_region_o
  go_wp2_with (first | (go_at_call 33; refine (HBL.out _ SP.out).mono ?_; rintro e_ w3 ⟨rfl, rfl⟩) | (go_at_call 32; refine (HM.out _ SP.out).mono ?_; rintro e_ w4 ⟨rfl, g1, S4, hput⟩; have r3 := (blk_cell (S4.at_blk 0 rfl) 3).trans rfl; replace hput := Aside0.mk hput; clear S4) | (go_at_call 31; refine hput.out.mono ?_; rintro e_ w9 ⟨rfl, g9, hg9, S9⟩; replace S9 := Aside0.mk S9; replace hg9 := Aside0.mk hg9))
  go_ret
  exact ⟨rfl, g9, hg9.out, Stt.drop (l := GL (blk gb 61 #[.map (some bm)] :: mpK bm m ad ids :: pre) ad _ X) S9.out⟩
set_option maxHeartbeats 4000000 in
set_option maxRecDepth 100000 in
theorem do_move2 {w0 w : World} {Z : Nat → Prop} {pre X : List Asr} {F : List FA} {ad : Int → Nat} {g : List Hk} {gb bm m : Nat} {ids : List Int} (S : Stt w0 Z (GL (blk gb 61 #[.map (some bm)] :: mpK bm m ad ids :: pre) ad g X) F w) (I : Inv (kns g))
    (id pa af ki : Int) (tx tr : ByteArray) (h1 : in64 id) (h2 : in64 pa) (hid : id ∈ ids) (hpa : pa ∈ ids) {jx jq jp : Nat} {hx hq hp : Hk} (ex : g[jx]? = some hx) (eq : g[jq]? = some hq) (ep : g[jp]? = some hp) (hne : jx ≠ jq) (hnp : jx ≠ jp)
    (hpar : hx.k.par = some hq.k.id) (hin : hx.k.id ∈ hq.k.kids) (hids : ∀ h ∈ g, ∀ y ∈ h.k.kids, ∃ (j : Nat) (h : Hk), g[j]? = some h ∧ h.k.id = y) (hlen : ∀ h ∈ g, h.k.kids.length ≤ 1000000) (hxi : hx.k.id = id) (hpi : hp.k.id = pa)
    (hai : ¬ af = id) (hbl : ¬ Bel (kns g) pa id) (haf : ¬ af = -1) (hspot : 0 ≤ placeOf hp.k.kids af) :
    Calls Try.prog 21 #[.pointer (some ⟨gb, 0, none⟩), .agg #[.int .i64 4, .int .i64 id, .int .i64 pa, .int .i64 af, .int .i64 ki, .string tx, .string tr]] w fun e w' => e = .returned (.bool true) ∧ ∃ g', kns g' = movedK (kns g) hq.k.id ⟨4, id, pa, af, ki, tx, tr⟩ ∧ Stt w0 Z (GL (blk gb 61 #[.map (some bm)] :: mpK bm m ad ids :: pre) ad g' X) F w' := by
  obtain ⟨EC, hEC⟩ : ∃ EC : Array Value, EC = #[.int .i64 4, .int .i64 id, .int .i64 pa, .int .i64 af, .int .i64 ki, .string tx, .string tr] := ⟨_, rfl⟩
  have S1 : Stt w0 Z (GL (blk w.heap.size 54 EC :: blk gb 61 #[.map (some bm)] :: mpK bm m ad ids :: pre) ad g X) F (w.alloc (.cells EC 54)) := S.box rfl (heap_alloc_new w _) (below_alloc (Below.refl _ _) _)
  have l1 := map_ok (stt_drew S1) 2 rfl h1
  have l2 := map_ok (stt_drew (stt_drew S1)) 2 rfl h2
  have hgb1 : (w.alloc (.cells EC 54)).cell? ⟨gb, 0, none⟩ = some (.map (some bm)) := (blk_cell (S1.at_blk 1 rfl) 0).trans rfl
  have SP := stt_drew (stt_drew S1)
  rw [if_pos hid, decide_eq_true hid] at l1
  obtain ⟨a, ha⟩ : ∃ a, ad id = a := ⟨_, rfl⟩
  obtain ⟨c, hc⟩ : ∃ c, ad pa = c := ⟨_, rfl⟩
  obtain ⟨aq, haq⟩ : ∃ aq, ad hq.k.id = aq := ⟨_, rfl⟩
  have HB : ∀ W, Stt w0 Z (GL (blk w.heap.size 54 EC :: blk gb 61 #[.map (some bm)] :: mpK bm m ad ids :: pre) ad g X) F W → W.cell? ⟨a, 5, none⟩ = some (.pointer (some ⟨aq, 0, none⟩)) := fun W SW => by rw [← ha, ← hxi]; exact (blk_cell (kn_blk SW ex) 5).trans (show (knB ad hx.k hx.v)[5]? = _ by show some (pp ad hx.k.par) = _; rw [hpar, ← haq]; rfl)
  have HBL : ∀ W, Stt w0 Z (GL (blk w.heap.size 54 EC :: blk gb 61 #[.map (some bm)] :: mpK bm m ad ids :: pre) ad g X) F W → Calls Try.prog 33 #[.pointer (some ⟨c, 0, none⟩), .pointer (some ⟨a, 0, none⟩)] W fun e w' => e = .returned (.bool false) ∧ w' = W := fun W SW => by
    obtain ⟨n0, hn0⟩ := below_calls SW ep ex I
    have h3 := (belowP_Bel (Q := fun b => Calls Try.prog 33 #[pk ad hp.k.id, pk ad hx.k.id] W fun e w' => e = .returned (.bool b) ∧ w' = W) hn0).2 (by rw [hpi, hxi]; exact hbl)
    unfold pk at h3
    rw [hpi, hxi, ha, hc] at h3
    exact h3
  have HM : ∀ W, Stt w0 Z (GL (blk w.heap.size 54 EC :: blk gb 61 #[.map (some bm)] :: mpK bm m ad ids :: pre) ad g X) F W → Calls Try.prog 32 #[.pointer (some ⟨a, 0, none⟩)] W fun e w2 => e = .returned (.tuple #[]) ∧ ∃ g1, Stt w0 Z (GL (blk w.heap.size 54 EC :: blk gb 61 #[.map (some bm)] :: mpK bm m ad ids :: pre) ad g1 X) F w2 ∧ Calls Try.prog 31 #[.pointer (some ⟨c, 0, none⟩), .pointer (some ⟨a, 0, none⟩), .int .i64 af] w2 fun e w' => e = .returned (.tuple #[]) ∧ ∃ g', kns g' = movedK (kns g) hq.k.id ⟨4, id, pa, af, ki, tx, tr⟩ ∧ Stt w0 Z (GL (blk w.heap.size 54 EC :: blk gb 61 #[.map (some bm)] :: mpK bm m ad ids :: pre) ad g' X) F w' := fun W SW => by
    have h3 := move_calls SW I ex eq ep hne hnp hpar hin hids hlen ⟨4, id, pa, af, ki, tx, tr⟩ hxi hpi
    simp only [pk, ha, hc] at h3
    exact h3
  simp only [pk, ha] at l1
  rw [if_pos hpa, decide_eq_true hpa] at l2
  simp only [pk, hc] at l2
  generalize movedK (kns g) hq.k.id ⟨4, id, pa, af, ki, tx, tr⟩ = newg at HM ⊢
  have hai2 : (af == id) = false := by simpa using hai
  have HP := place_calls ad hp.k hp.v af _ (kn_blk SP ep) (kn_row SP ep) (fun y hy => by obtain ⟨jy, hy', e1, e2⟩ := hids hp (List.mem_of_getElem? ep) y hy; rw [← e2, blk_cell (kn_blk SP e1) 0]; rfl)
  obtain ⟨R, hR⟩ : ∃ R, placeOf hp.k.kids af = R := ⟨_, rfl⟩
  rw [hR] at HP hspot
  have hs2 : decide (0 ≤ R) = true := decide_eq_true hspot
  rw [hpi] at HP
  simp only [pk, hc] at HP
  replace HP := Aside0.mk HP
  rw [hEC] at l1 l2 hgb1 SP HBL HM HP HB
  replace SP := Aside0.mk SP
  replace HBL := Aside0.mk HBL
  replace HM := Aside0.mk HM
  replace HB := Aside0.mk HB
  clear hR
  clear S S1 I hid hpa hxi hpi hpar hin hids hlen ex eq ep hne hnp ha hc haq hbl h1 h2 hEC EC
  have mixed : Try.prog.follows .mixedOrders = true := by kernel_rfl
  go_enter Try.func21, Try.ntmps21
  go_wp2
  go_region_o
  go_wp2
  go_region_o
  go_wp2_with (first | (go_at_call 29; refine HP.out.mono ?_; rintro e_ w1 ⟨rfl, hB⟩; have S2 := SP.out.keep hB; have q0 := (blk_cell (S2.at_blk 0 rfl) 0).trans rfl; have q1 := (blk_cell (S2.at_blk 0 rfl) 1).trans rfl; have q3 := (blk_cell (S2.at_blk 0 rfl) 3).trans rfl; have hx5 := HB.out w1 S2; replace S2 := Aside0.mk S2; clear hB) | (go_at_call 33; refine (HBL.out _ S2.out).mono ?_; rintro e_ w3 ⟨rfl, rfl⟩) | (go_at_call 32; refine (HM.out _ S2.out).mono ?_; rintro e_ w4 ⟨rfl, g1, S4, hput⟩; have r3 := (blk_cell (S4.at_blk 0 rfl) 3).trans rfl; replace hput := Aside0.mk hput; clear S4) | (go_at_call 31; refine hput.out.mono ?_; rintro e_ w9 ⟨rfl, g9, hg9, S9⟩; replace S9 := Aside0.mk S9; replace hg9 := Aside0.mk hg9))
  go_ret
  exact ⟨rfl, g9, hg9.out, Stt.drop (l := GL (blk gb 61 #[.map (some bm)] :: mpK bm m ad ids :: pre) ad _ X) S9.out⟩
end Go.Proofs.Ytfmlpkeaiohknaa.Q
/-! (*grove).do, joined. -/
set_option linter.unusedVariables false
set_option linter.unusedSimpArgs false
namespace Go.Proofs.Ytfmlpkeaiohknaa.Q
open Go Go.RowKit Go.Lib Go.Sort Go.Proofs.YtfmlpkeaiohknaaW.PrintWords Go.Proofs.YtfmlpkeaiohknaaW.SL
theorem nodup_len {α : Type} [DecidableEq α] : ∀ {l m : List α}, l.Nodup → (∀ x ∈ l, x ∈ m) → l.length ≤ m.length
  | [], m, _, _ => Nat.zero_le _
  | a :: l, m, h, hs => by
    rw [List.nodup_cons] at h
    have ha := hs a List.mem_cons_self
    have h2 := nodup_len (l := l) (m := m.erase a) h.2 (fun x hx => (List.mem_erase_of_ne (fun e => h.1 (by rw [← e]; exact hx))).2 (hs x (List.mem_cons_of_mem _ hx)))
    rw [List.length_erase_of_mem ha] at h2
    have := List.length_pos_of_mem ha
    rw [List.length_cons]; omega
theorem Inv.kids_len {ks : List Kn} (I : Inv ks) {k : Kn} (hk : k ∈ ks) : k.kids.length ≤ ks.length := by
  have := nodup_len (m := ks.map (·.id)) (I.kdup k hk) (fun i hi => by obtain ⟨y, hy, e, _⟩ := I.kids k hk i hi; exact List.mem_map.2 ⟨y, hy, e⟩)
  rwa [List.length_map] at this
theorem updK_filter {g : List Kn} {i : Int} {f : Kn → Kn} (hf : ∀ k, (f k).id = k.id) : ((updK g i f).filter fun k => decide (k.id ≠ i)) = g.filter fun k => decide (k.id ≠ i) := by
  induction g with
  | nil => rfl
  | cons x r ih =>
    show List.filter _ ((if x.id = i then f x else x) :: updK r i f) = _
    by_cases e : x.id = i
    · rw [if_pos e, List.filter_cons_of_neg, List.filter_cons_of_neg, ih]
      · simpa using e
      · simp [hf, e]
    · rw [if_neg e, List.filter_cons_of_pos, List.filter_cons_of_pos, ih]
      · simpa using e
      · simpa using e
theorem erase_filter : ∀ {ks : List Kn} {j : Nat} {k : Kn}, (ks.map (·.id)).Nodup → ks[j]? = some k → ks.eraseIdx j = ks.filter fun y => decide (y.id ≠ k.id)
  | [], j, k, _, h => by simp at h
  | x :: r, 0, k, hn, h => by
    have : x = k := by simpa using h
    subst this
    rw [List.map_cons, List.nodup_cons] at hn
    rw [List.filter_cons_of_neg (by simp), List.eraseIdx_zero, List.tail_cons]
    refine (List.filter_eq_self.2 (fun y hy => ?_)).symm
    simp only [decide_eq_true_eq]
    exact fun e => hn.1 (List.mem_map.2 ⟨y, hy, e⟩)
  | x :: r, j + 1, k, hn, h => by
    rw [List.map_cons, List.nodup_cons] at hn
    have h2 : r[j]? = some k := by simpa using h
    rw [List.eraseIdx_cons_succ, erase_filter hn.2 h2, List.filter_cons_of_pos]
    simp only [decide_eq_true_eq]
    exact fun e => hn.1 (List.mem_map.2 ⟨k, List.mem_of_getElem? h2, e.symm⟩)
theorem map_eraseIdx' {α β : Type} (f : α → β) : ∀ (l : List α) (j : Nat), (l.eraseIdx j).map f = (l.map f).eraseIdx j
  | [], j => rfl
  | a :: l, 0 => rfl
  | a :: l, j + 1 => by rw [List.eraseIdx_cons_succ, List.map_cons, map_eraseIdx' f l j]; rfl
theorem gvA_erase (ad : Int → Nat) : ∀ {g : List Hk} {j : Nat} {h : Hk}, g[j]? = some h → (gvA ad g).Perm (hkA ad h ++ gvA ad (g.eraseIdx j))
  | [], j, h, hj => by simp at hj
  | x :: r, 0, h, hj => by
    have : x = h := by simpa using hj
    subst this
    exact List.Perm.refl _
  | x :: r, j + 1, h, hj => by
    have h2 : r[j]? = some h := by simpa using hj
    have ih := gvA_erase ad h2
    show (hkA ad x ++ gvA ad r).Perm (hkA ad h ++ (hkA ad x ++ gvA ad (r.eraseIdx j)))
    refine (List.Perm.append_left _ ih).trans ?_
    rw [← List.append_assoc, ← List.append_assoc]
    exact List.Perm.append_right _ List.perm_append_comm
theorem kn_drop {w0 w : World} {Z : Nat → Prop} {pre X : List Asr} {F : List FA} {ad : Int → Nat} {g : List Hk} (S : Stt w0 Z (GL pre ad g X) F w) {j : Nat} {h : Hk} (hj : g[j]? = some h) : Stt w0 Z (GL pre ad (g.eraseIdx j) X) F w := by
  have hp : (GL pre ad g X).Perm (blk (ad h.k.id) 80 (knB ad h.k h.v) :: knR ad h.k h.v :: GL pre ad (g.eraseIdx j) X) := by
    unfold GL
    refine (List.Perm.append_left pre (List.Perm.append_right X (gvA_erase ad hj))).trans ?_
    rw [List.append_assoc, ← List.append_assoc]
    have h1 : ∀ (a b : Asr) (l m : List Asr), (l ++ [a, b] ++ m).Perm (a :: b :: (l ++ m)) := fun a b l m => (List.perm_append_comm (l₁ := l) (l₂ := [a, b])).append_right m
    have h2 := h1 (blk (ad h.k.id) 80 (knB ad h.k h.v)) (knR ad h.k h.v) pre (gvA ad (g.eraseIdx j) ++ X)
    exact h2
  exact (S.perm hp).drop.drop
/-- A grove as it lies: its map, its knots. -/
def Grove (w0 : World) (Z : Nat → Prop) (F : List FA) (gb bm : Nat) (pre X : List Asr) (N : Nat) (ad : Int → Nat) (ks : List Kn) (w : World) : Prop :=
  ∃ g ids m, kns g = ks ∧ m ≤ N ∧ (∀ i, i ∈ ids ↔ i ∈ ks.map (·.id)) ∧ Stt w0 Z (GL (blk gb 61 #[.map (some bm)] :: mpK bm m ad ids :: pre) ad g X) F w
theorem movedK_ids (g : List Kn) (q : Int) (x : Ed) : (movedK g q x).map (·.id) = g.map (·.id) := by
  unfold movedK
  rw [updK_ids (f := fun k => k.wPar (some x.pa)) (fun _ => rfl), updK_ids (ins_id x), updK_ids (cut_id x.id)]
theorem textK_ids (g : List Kn) (x : Ed) : (textK g x).map (·.id) = g.map (·.id) := updK_ids (fun _ => rfl)
theorem newK_ids (g : List Kn) (x : Ed) : (newK g x).map (·.id) = g.map (·.id) ++ [x.id] := by
  unfold newK
  rw [List.map_append, updK_ids (ins_id x)]; rfl
theorem goneK_ids (g : List Kn) (q : Int) (x : Ed) : (goneK g q x).map (·.id) = (g.map (·.id)).filter fun i => decide (i ≠ x.id) := by
  unfold goneK
  rw [← updK_ids (g := g) (i := q) (cut_id x.id)]
  generalize updK g q (Kn.cut x.id) = r
  induction r with
  | nil => rfl
  | cons y r ih =>
    by_cases e : y.id = x.id
    · rw [List.filter_cons_of_neg (by simpa using e), List.map_cons, List.filter_cons_of_neg (by simpa using e), ih]
    · rw [List.filter_cons_of_pos (by simpa using e), List.map_cons, List.map_cons, List.filter_cons_of_pos (by simpa using e), ih]
def edV (x : Ed) : Value := .agg #[.int .i64 x.so, .int .i64 x.id, .int .i64 x.pa, .int .i64 x.af, .int .i64 x.ki, .string x.tx, .string x.tr]
section
variable {w0 w : World} {Z : Nat → Prop} {F : List FA} {gb bm N : Nat} {pre X : List Asr} {ad : Int → Nat} {ks : List Kn}
/-- (*grove).do -/
theorem do_calls (H : Grove w0 Z F gb bm pre X N ad ks w) (I : Inv ks) (hN : N < maxLen) (hl : ks.length ≤ 1000000) (x : Ed) (h1 : in64 x.id) (h2 : in64 x.pa) :
    Calls Try.prog 21 #[.pointer (some ⟨gb, 0, none⟩), edV x] w fun e w' => e = .returned (.bool (doK ks x).isSome) ∧ ∃ ad', (∀ k ∈ ks, ad' k.id = ad k.id) ∧ Grove w0 Z F gb bm pre X (N + 1) ad' ((doK ks x).getD ks) w' := by
  obtain ⟨g, ids, m, rfl, hm, hids, S⟩ := H
  obtain ⟨so, id, pa, af, ki, tx, tr⟩ := x
  have hlen : ∀ h ∈ g, h.k.kids.length ≤ 1000000 := fun h hh => Nat.le_trans (I.kids_len (List.mem_map.2 ⟨h, hh, rfl⟩)) hl
  have hkid : ∀ h ∈ g, ∀ y ∈ h.k.kids, ∃ (j : Nat) (h : Hk), g[j]? = some h ∧ h.k.id = y := fun h hh y hy => by
    obtain ⟨k, hk, e, _⟩ := I.kids h.k (List.mem_map.2 ⟨h, hh, rfl⟩) y hy
    obtain ⟨j, h2, e1, e2⟩ := kns_at hk
    exact ⟨j, h2, e1, by rw [e2]; exact e⟩
  have hat : ∀ i, i ∈ ids → ∃ (j : Nat) (h : Hk), g[j]? = some h ∧ h.k.id = i ∧ gAt (kns g) i = some h.k := fun i hi => by
    obtain ⟨k, hk, e⟩ := List.mem_map.1 ((hids i).1 hi)
    obtain ⟨j, h2, e1, e2⟩ := kns_at hk
    exact ⟨j, h2, e1, by rw [e2]; exact e, by rw [e2, ← e]; exact gAt_of I.nodup hk⟩
  have hno : ∀ i, i ∉ ids → gAt (kns g) i = none := fun i hi => gAt_none.2 (fun h => hi ((hids i).2 h))
  -- the parent that is named, and the spot
  have hP : pa ∉ ids ∨ (pa ∈ ids ∧ af = -1 ∧ ∃ (jp : Nat) (hp : Hk), g[jp]? = some hp ∧ hp.k.id = pa ∧ gAt (kns g) pa = some hp.k) ∨ (pa ∈ ids ∧ ¬ af = -1 ∧ ∃ (jp : Nat) (hp : Hk), g[jp]? = some hp ∧ hp.k.id = pa ∧ gAt (kns g) pa = some hp.k) := by
    by_cases a : pa ∈ ids
    · by_cases b : af = -1
      · exact .inr (.inl ⟨a, b, hat pa a⟩)
      · exact .inr (.inr ⟨a, b, hat pa a⟩)
    · exact .inl a
  have done0 : ∀ {e : Ending} {w' : World} {r : Option (List Kn)}, r = none → (e = .returned (.bool false) ∧ Stt w0 Z (GL (blk gb 61 #[.map (some bm)] :: mpK bm m ad ids :: pre) ad g X) F w') →
      e = .returned (.bool r.isSome) ∧ ∃ ad', (∀ k ∈ kns g, ad' k.id = ad k.id) ∧ Grove w0 Z F gb bm pre X (N + 1) ad' (r.getD (kns g)) w' := by
    rintro e w' r rfl ⟨rfl, S'⟩
    exact ⟨rfl, ad, fun _ _ => rfl, g, ids, m, rfl, by omega, hids, S'⟩
  have done1 : ∀ {e : Ending} {w' : World} {r : Option (List Kn)} {ks' : List Kn}, r = some ks' → ks'.map (·.id) = (kns g).map (·.id) → (e = .returned (.bool true) ∧ ∃ g', kns g' = ks' ∧ Stt w0 Z (GL (blk gb 61 #[.map (some bm)] :: mpK bm m ad ids :: pre) ad g' X) F w') →
      e = .returned (.bool r.isSome) ∧ ∃ ad', (∀ k ∈ kns g, ad' k.id = ad k.id) ∧ Grove w0 Z F gb bm pre X (N + 1) ad' (r.getD (kns g)) w' := by
    rintro e w' r ks' rfl hk ⟨rfl, g', hg', S'⟩
    refine ⟨rfl, ad, fun _ _ => rfl, g', ids, m, hg', by omega, fun i => ?_, S'⟩
    show i ∈ ids ↔ i ∈ ks'.map (·.id)
    rw [hk]; exact hids i
  have hself : ∀ (k : Kn), k ∈ kns g → k.par ≠ some k.id := fun k hk e => by
    obtain ⟨d, hd⟩ := I.rank
    exact Nat.lt_irrefl _ (hd k hk _ e)
  have hparq : ∀ {jx : Nat} {hx : Hk} {q : Int}, g[jx]? = some hx → hx.k.par = some q → ∃ (jq : Nat) (hq : Hk), g[jq]? = some hq ∧ hq.k.id = q ∧ jx ≠ jq ∧ hx.k.id ∈ hq.k.kids := by
    intro jx hx q ex hq
    obtain ⟨y, hy, e1, e2⟩ := I.par hx.k (kns_mem ex) q hq
    obtain ⟨jq, hq', f1, f2⟩ := kns_at hy
    refine ⟨jq, hq', f1, by rw [f2]; exact e1, ?_, by rw [f2]; exact e2⟩
    rintro rfl
    have := Option.some.inj (ex.symm.trans f1)
    rw [← this] at f2
    exact hself hx.k (kns_mem ex) (by rw [hq, ← e1, f2])
  show Calls Try.prog 21 #[.pointer (some ⟨gb, 0, none⟩), .agg #[.int .i64 so, .int .i64 id, .int .i64 pa, .int .i64 af, .int .i64 ki, .string tx, .string tr]] w _
  by_cases s1 : so = 1
  · subst s1
    by_cases hid : id ∈ ids
    · have hD : doK (kns g) ⟨1, id, pa, af, ki, tx, tr⟩ = none := by
        obtain ⟨j, h, _, _, e⟩ := hat id hid
        unfold doK
        rw [if_pos rfl, if_neg]
        rintro ⟨h0, _⟩
        rw [e] at h0; cases h0
      rcases hP with hpa | ⟨hpa, haf, jp, hp, ep, hpi, _⟩ | ⟨hpa, haf, jp, hp, ep, hpi, _⟩
      · exact (do_not1K0 S id pa af ki tx tr h1 h2 hid hpa).mono (fun _ _ h => done0 hD h)
      · exact (do_not1K1 S id pa af ki tx tr h1 h2 hid hpa haf).mono (fun _ _ h => done0 hD h)
      · exact (do_not1K2 S id pa af ki tx tr h1 h2 hid hpa haf ep hpi (hkid hp (List.mem_of_getElem? ep))).mono (fun _ _ h => done0 hD h)
    · by_cases hneg : id < 0
      · have hD : doK (kns g) ⟨1, id, pa, af, ki, tx, tr⟩ = none := by
          unfold doK
          rw [if_pos rfl, if_neg]
          rintro ⟨_, h0, _⟩
          exact absurd h0 (by show ¬ 0 ≤ id; omega)
        rcases hP with hpa | ⟨hpa, haf, jp, hp, ep, hpi, _⟩ | ⟨hpa, haf, jp, hp, ep, hpi, _⟩
        · exact (do_not1Z0 S id pa af ki tx tr h1 h2 hid hneg hpa).mono (fun _ _ h => done0 hD h)
        · exact (do_not1Z1 S id pa af ki tx tr h1 h2 hid hneg hpa haf).mono (fun _ _ h => done0 hD h)
        · exact (do_not1Z2 S id pa af ki tx tr h1 h2 hid hneg hpa haf ep hpi (hkid hp (List.mem_of_getElem? ep))).mono (fun _ _ h => done0 hD h)
      · have hn : ∀ x ∈ g, x.k.id ≠ id ∧ (∀ p, x.k.par = some p → p ≠ id) ∧ ∀ i ∈ x.k.kids, i ≠ id := fun x hx => by
          have hxm : x.k ∈ kns g := List.mem_map.2 ⟨x, hx, rfl⟩
          refine ⟨fun e => hid ((hids id).2 (List.mem_map.2 ⟨x.k, hxm, e⟩)), fun p hp e => ?_, fun i hi e => ?_⟩
          · obtain ⟨y, hy, e1, _⟩ := I.par x.k hxm p hp
            exact hid ((hids id).2 (List.mem_map.2 ⟨y, hy, e1.trans e⟩))
          · obtain ⟨y, hy, e1, _⟩ := I.kids x.k hxm i hi
            exact hid ((hids id).2 (List.mem_map.2 ⟨y, hy, e1.trans e⟩))
        have hDone : SpotK (kns g) ⟨1, id, pa, af, ki, tx, tr⟩ → doK (kns g) ⟨1, id, pa, af, ki, tx, tr⟩ = some (newK (kns g) ⟨1, id, pa, af, ki, tx, tr⟩) := fun hs => by
          unfold doK
          rw [if_pos rfl, if_pos ⟨hno id hid, by show 0 ≤ id; omega, hs⟩]
        have hNot : ¬ SpotK (kns g) ⟨1, id, pa, af, ki, tx, tr⟩ → doK (kns g) ⟨1, id, pa, af, ki, tx, tr⟩ = none := fun hs => by
          unfold doK
          rw [if_pos rfl, if_neg (fun h => hs h.2.2)]
        have fin : ∀ {e : Ending} {w' : World} {jp : Nat} {hp : Hk}, g[jp]? = some hp → hp.k.id = pa → SpotK (kns g) ⟨1, id, pa, af, ki, tx, tr⟩ → (e = .returned (.bool true) ∧ ∃ v' a, Stt w0 Z (GL (blk gb 61 #[.map (some bm)] :: mpK bm (m + 1) (adPut ad id a) (ids ++ [id]) :: pre) (adPut ad id a) ((g.set jp ⟨hp.k.wKids (insAt hp.k.kids (putPos hp.k.kids af).toNat id), v'⟩) ++ [⟨⟨id, ki, tx, tr, some pa, []⟩, .slice none 0 0⟩]) X) F w') →
            e = .returned (.bool (doK (kns g) ⟨1, id, pa, af, ki, tx, tr⟩).isSome) ∧ ∃ ad', (∀ k ∈ kns g, ad' k.id = ad k.id) ∧ Grove w0 Z F gb bm pre X (N + 1) ad' ((doK (kns g) ⟨1, id, pa, af, ki, tx, tr⟩).getD (kns g)) w' := by
          rintro e w' jp hp ep hpi hs ⟨rfl, v', a, S'⟩
          rw [hDone hs]
          refine ⟨rfl, adPut ad id a, fun k hk => adPut_old _ _ (fun e => hid ((hids id).2 (List.mem_map.2 ⟨k, hk, e⟩))), _, _, m + 1, ?_, by omega, fun i => ?_, S'⟩
          · show kns (_ ++ _) = newK _ _
            unfold newK
            rw [← hpi, ← kns_set I.nodup ep (h' := ⟨hp.k.wKids (insAt hp.k.kids (putPos hp.k.kids af).toNat id), v'⟩) (f := Kn.ins ⟨1, id, hp.k.id, af, ki, tx, tr⟩) rfl]
            simp [kns]
          · show i ∈ ids ++ [id] ↔ i ∈ (newK (kns g) ⟨1, id, pa, af, ki, tx, tr⟩).map (·.id)
            rw [newK_ids, List.mem_append, List.mem_append, hids i]
        rcases hP with hpa | ⟨hpa, haf, jp, hp, ep, hpi, hga⟩ | ⟨hpa, haf, jp, hp, ep, hpi, hga⟩
        · refine (do_not1N0 S id pa af ki tx tr h1 h2 hid hneg hpa).mono (fun _ _ h => done0 (hNot ?_) h)
          rintro ⟨p, hp, _⟩
          rw [show gAt (kns g) pa = none from hno pa hpa] at hp; cases hp
        · exact (do_new1 S id pa af ki tx tr h1 h2 (by omega) hid hneg hpa ep hpi (hkid hp (List.mem_of_getElem? ep)) (hlen hp (List.mem_of_getElem? ep)) hn haf).mono (fun _ _ h => fin ep hpi ⟨hp.k, hga, .inl haf⟩ h)
        · by_cases hsp : 0 ≤ placeOf hp.k.kids af
          · exact (do_new2 S id pa af ki tx tr h1 h2 (by omega) hid hneg hpa ep hpi (hkid hp (List.mem_of_getElem? ep)) (hlen hp (List.mem_of_getElem? ep)) hn haf hsp).mono (fun _ _ h => fin ep hpi ⟨hp.k, hga, .inr ((placeOf_nn _ _).1 hsp)⟩ h)
          · refine (do_not1N2 S id pa af ki tx tr h1 h2 hid hneg hpa haf ep hpi (hkid hp (List.mem_of_getElem? ep)) hsp).mono (fun _ _ h => done0 (hNot ?_) h)
            rintro ⟨p, hp', h3⟩
            rw [show gAt (kns g) pa = some hp.k from hga] at hp'
            injection hp' with hp'
            subst hp'
            rcases h3 with h3 | h3
            · exact haf h3
            · exact hsp ((placeOf_nn _ _).2 h3)
  by_cases s2 : so = 2
  · subst s2
    by_cases hid : id ∈ ids
    · obtain ⟨jx, hx, ex, hxi, hga⟩ := hat id hid
      cases hpar : hx.k.par with
      | none =>
        have hD : doK (kns g) ⟨2, id, pa, af, ki, tx, tr⟩ = none := by
          unfold doK
          rw [if_neg (by simp), if_pos rfl]
          simp only [hga, hpar]
        rcases hP with hpa | ⟨hpa, haf, jp, hp, ep, hpi, _⟩ | ⟨hpa, haf, jp, hp, ep, hpi, _⟩
        · exact (do_stay00 S id pa af ki tx tr h1 h2 hid ex hxi hpar hpa).mono (fun _ _ h => done0 hD h)
        · exact (do_stay01 S id pa af ki tx tr h1 h2 hid ex hxi hpar hpa haf).mono (fun _ _ h => done0 hD h)
        · exact (do_stay02 S id pa af ki tx tr h1 h2 hid ex hxi hpar hpa haf ep hpi (hkid hp (List.mem_of_getElem? ep))).mono (fun _ _ h => done0 hD h)
      | some q =>
        obtain ⟨jq, hq, eq, hqi, hne, hin⟩ := hparq ex hpar
        by_cases hk0 : hx.k.kids = []
        · have hD : doK (kns g) ⟨2, id, pa, af, ki, tx, tr⟩ = some (goneK (kns g) q ⟨2, id, pa, af, ki, tx, tr⟩) := by
            unfold doK
            rw [if_neg (by simp), if_pos rfl]
            simp only [hga, hpar, hk0, if_true]
          have hids2 := hkid hq (List.mem_of_getElem? eq)
          have fin : ∀ {e : Ending} {w' : World}, (∃ v', e = .returned (.bool true) ∧ Stt w0 Z (GL (blk gb 61 #[.map (some bm)] :: mpK bm m ad (ids.filter (· ≠ id)) :: pre) ad ((g.set jq ⟨hq.k.wKids (hq.k.kids.filter fun y => !decide (ad y = ad hx.k.id)), v'⟩).set jx ⟨hx.k.wPar none, hx.v⟩) X) F w') →
              e = .returned (.bool (doK (kns g) ⟨2, id, pa, af, ki, tx, tr⟩).isSome) ∧ ∃ ad', (∀ k ∈ kns g, ad' k.id = ad k.id) ∧ Grove w0 Z F gb bm pre X (N + 1) ad' ((doK (kns g) ⟨2, id, pa, af, ki, tx, tr⟩).getD (kns g)) w' := by
            rintro e w' ⟨v', rfl, S'⟩
            rw [hD]
            rw [kns_cut S ex hids2] at S'
            have ex1 : (g.set jq (⟨hq.k.wKids (hq.k.kids.filter fun y => decide (y ≠ hx.k.id)), v'⟩ : Hk))[jx]? = some hx := by rw [List.getElem?_set_ne (Ne.symm hne)]; exact ex
            have ex2 : ((g.set jq (⟨hq.k.wKids (hq.k.kids.filter fun y => decide (y ≠ hx.k.id)), v'⟩ : Hk)).set jx ⟨hx.k.wPar none, hx.v⟩)[jx]? = some ⟨hx.k.wPar none, hx.v⟩ := List.getElem?_set_self (List.getElem?_eq_some_iff.1 ex1).1
            have S2 := kn_drop S' ex2
            have k1 := kns_set I.nodup eq (h' := ⟨hq.k.wKids (hq.k.kids.filter fun y => decide (y ≠ hx.k.id)), v'⟩) (f := Kn.cut hx.k.id) rfl
            have n1 : ((kns (g.set jq (⟨hq.k.wKids (hq.k.kids.filter fun y => decide (y ≠ hx.k.id)), v'⟩ : Hk))).map (·.id)).Nodup := by rw [k1, updK_ids (cut_id _)]; exact I.nodup
            have k2 := kns_set n1 ex1 (h' := ⟨hx.k.wPar none, hx.v⟩) (f := fun k => k.wPar none) rfl
            have n2 := n1
            rw [← updK_ids (i := hx.k.id) (f := fun k => k.wPar none) (fun _ => rfl), ← k2] at n2
            refine ⟨rfl, ad, fun _ _ => rfl, _, _, m, ?_, by omega, fun i => ?_, S2⟩
            · show kns (List.eraseIdx _ jx) = goneK (kns g) q ⟨2, id, pa, af, ki, tx, tr⟩
              have k3 : kns (List.eraseIdx ((g.set jq (⟨hq.k.wKids (hq.k.kids.filter fun y => decide (y ≠ hx.k.id)), v'⟩ : Hk)).set jx ⟨hx.k.wPar none, hx.v⟩) jx) = (kns ((g.set jq (⟨hq.k.wKids (hq.k.kids.filter fun y => decide (y ≠ hx.k.id)), v'⟩ : Hk)).set jx ⟨hx.k.wPar none, hx.v⟩)).eraseIdx jx := map_eraseIdx' _ _ _
              have k4 := erase_filter n2 (j := jx) (k := hx.k.wPar none) (by show (List.map _ _)[jx]? = _; rw [List.getElem?_map, ex2]; rfl)
              rw [k3, k4, k2, k1]
              have e5 : (hx.k.wPar none).id = hx.k.id := rfl
              rw [e5, updK_filter (f := fun k => k.wPar none) (fun _ => rfl)]
              unfold goneK
              rw [hxi, hqi]
            · show i ∈ ids.filter (· ≠ id) ↔ i ∈ (goneK (kns g) q ⟨2, id, pa, af, ki, tx, tr⟩).map (·.id)
              rw [goneK_ids, List.mem_filter, List.mem_filter, hids i]
          rw [← hqi] at hpar
          rcases hP with hpa | ⟨hpa, haf, jp, hp, ep, hpi, _⟩ | ⟨hpa, haf, jp, hp, ep, hpi, _⟩
          · exact (do_gone0 S id pa af ki tx tr h1 h2 hid hpa ex eq hne hxi hk0 hpar hin hids2).mono (fun _ _ h => fin h)
          · exact (do_gone1 S id pa af ki tx tr h1 h2 hid hpa haf ex eq hne hxi hk0 hpar hin hids2).mono (fun _ _ h => fin h)
          · exact (do_gone2 S id pa af ki tx tr h1 h2 hid hpa haf ep hpi (hkid hp (List.mem_of_getElem? ep)) ex eq hne hxi hk0 hpar hin hids2).mono (fun _ _ h => fin h)
        · have hD : doK (kns g) ⟨2, id, pa, af, ki, tx, tr⟩ = none := by
            unfold doK
            rw [if_neg (by simp), if_pos rfl]
            simp only [hga, hpar, hk0, if_false]
          have hk1 : 0 < hx.k.kids.length := List.length_pos_iff.2 hk0
          rcases hP with hpa | ⟨hpa, haf, jp, hp, ep, hpi, _⟩ | ⟨hpa, haf, jp, hp, ep, hpi, _⟩
          · exact (do_stay10 S id pa af ki tx tr h1 h2 hid ex hxi hpar hk1 hpa).mono (fun _ _ h => done0 hD h)
          · exact (do_stay11 S id pa af ki tx tr h1 h2 hid ex hxi hpar hk1 hpa haf).mono (fun _ _ h => done0 hD h)
          · exact (do_stay12 S id pa af ki tx tr h1 h2 hid ex hxi hpar hk1 hpa haf ep hpi (hkid hp (List.mem_of_getElem? ep))).mono (fun _ _ h => done0 hD h)
    · have hD : doK (kns g) ⟨2, id, pa, af, ki, tx, tr⟩ = none := by
        unfold doK
        rw [if_neg (by simp), if_pos rfl]
        simp only [hno id hid]
      rcases hP with hpa | ⟨hpa, haf, jp, hp, ep, hpi, _⟩ | ⟨hpa, haf, jp, hp, ep, hpi, _⟩
      · exact (do_none20 S id pa af ki tx tr h1 h2 hid hpa).mono (fun _ _ h => done0 hD h)
      · exact (do_none21 S id pa af ki tx tr h1 h2 hid hpa haf).mono (fun _ _ h => done0 hD h)
      · exact (do_none22 S id pa af ki tx tr h1 h2 hid hpa haf ep hpi (hkid hp (List.mem_of_getElem? ep))).mono (fun _ _ h => done0 hD h)
  by_cases s3 : so = 3
  · subst s3
    by_cases hid : id ∈ ids
    · obtain ⟨jx, hx, ex, hxi, hga⟩ := hat id hid
      have hD : doK (kns g) ⟨3, id, pa, af, ki, tx, tr⟩ = some (textK (kns g) ⟨3, id, pa, af, ki, tx, tr⟩) := by
        unfold doK
        rw [if_neg (by simp), if_neg (by simp), if_pos rfl]
        simp only [hga]
      have fin : ∀ {e : Ending} {w' : World}, (e = .returned (.bool true) ∧ Stt w0 Z (GL (blk gb 61 #[.map (some bm)] :: mpK bm m ad ids :: pre) ad (g.set jx ⟨hx.k.wText tx tr, hx.v⟩) X) F w') → (e = .returned (.bool true) ∧ ∃ g', kns g' = textK (kns g) ⟨3, id, pa, af, ki, tx, tr⟩ ∧ Stt w0 Z (GL (blk gb 61 #[.map (some bm)] :: mpK bm m ad ids :: pre) ad g' X) F w') := by
        rintro e w' ⟨rfl, S'⟩
        refine ⟨rfl, _, ?_, S'⟩
        rw [kns_set I.nodup ex (h' := ⟨hx.k.wText tx tr, hx.v⟩) (f := fun k => k.wText tx tr) rfl, hxi]
        rfl
      rcases hP with hpa | ⟨hpa, haf, jp, hp, ep, hpi, _⟩ | ⟨hpa, haf, jp, hp, ep, hpi, _⟩
      · exact (do_text0 S id pa af ki tx tr h1 h2 hid hpa ex hxi).mono (fun _ _ h => done1 hD (textK_ids _ _) (fin h))
      · exact (do_text1 S id pa af ki tx tr h1 h2 hid hpa haf ex hxi).mono (fun _ _ h => done1 hD (textK_ids _ _) (fin h))
      · exact (do_text2 S id pa af ki tx tr h1 h2 hid hpa haf ep hpi (hkid hp (List.mem_of_getElem? ep)) ex hxi).mono (fun _ _ h => done1 hD (textK_ids _ _) (fin h))
    · have hD : doK (kns g) ⟨3, id, pa, af, ki, tx, tr⟩ = none := by
        unfold doK
        rw [if_neg (by simp), if_neg (by simp), if_pos rfl]
        simp only [hno id hid]
      rcases hP with hpa | ⟨hpa, haf, jp, hp, ep, hpi, _⟩ | ⟨hpa, haf, jp, hp, ep, hpi, _⟩
      · exact (do_none30 S id pa af ki tx tr h1 h2 hid hpa).mono (fun _ _ h => done0 hD h)
      · exact (do_none31 S id pa af ki tx tr h1 h2 hid hpa haf).mono (fun _ _ h => done0 hD h)
      · exact (do_none32 S id pa af ki tx tr h1 h2 hid hpa haf ep hpi (hkid hp (List.mem_of_getElem? ep))).mono (fun _ _ h => done0 hD h)
  by_cases s4 : so = 4
  · subst s4
    by_cases hid : id ∈ ids
    · obtain ⟨jx, hx, ex, hxi, hga⟩ := hat id hid
      have h0id : 0 ≤ id := by rw [← hxi]; exact (I.in64 _ (kns_mem ex)).1
      cases hpar : hx.k.par with
      | none =>
        have hD : doK (kns g) ⟨4, id, pa, af, ki, tx, tr⟩ = none := by
          unfold doK
          rw [if_neg (by simp), if_neg (by simp), if_neg (by simp), if_pos rfl]
          simp only [hga, hpar]
        rcases hP with hpa | ⟨hpa, haf, jp, hp, ep, hpi, _⟩ | ⟨hpa, haf, jp, hp, ep, hpi, _⟩
        · exact (do_stay4_00 S id pa af ki tx tr h1 h2 hid ex hxi hpar hpa).mono (fun _ _ h => done0 hD h)
        · exact (do_stay4_01 S id pa af ki tx tr h1 h2 hid ex hxi hpar hpa haf).mono (fun _ _ h => done0 hD h)
        · exact (do_stay4_02 S id pa af ki tx tr h1 h2 hid ex hxi hpar hpa haf ep hpi (hkid hp (List.mem_of_getElem? ep))).mono (fun _ _ h => done0 hD h)
      | some q =>
        obtain ⟨jq, hq, eq, hqi, hne, hin⟩ := hparq ex hpar
        have hDone : SpotK (kns g) ⟨4, id, pa, af, ki, tx, tr⟩ → ¬ af = id → ¬ Bel (kns g) pa id → doK (kns g) ⟨4, id, pa, af, ki, tx, tr⟩ = some (movedK (kns g) hq.k.id ⟨4, id, pa, af, ki, tx, tr⟩) := fun a b c => by
          unfold doK
          rw [if_neg (by simp), if_neg (by simp), if_neg (by simp), if_pos rfl]
          simp only [hga, hpar]
          rw [if_pos ⟨a, b, c⟩, hqi]
        have hNot : ¬ (SpotK (kns g) ⟨4, id, pa, af, ki, tx, tr⟩ ∧ af ≠ id ∧ ¬ Bel (kns g) pa id) → doK (kns g) ⟨4, id, pa, af, ki, tx, tr⟩ = none := fun a => by
          unfold doK
          rw [if_neg (by simp), if_neg (by simp), if_neg (by simp), if_pos rfl]
          simp only [hga, hpar]
          rw [if_neg a]
        have hpar2 : hx.k.par = some hq.k.id := by rw [hpar, hqi]
        have hbig : Bel (kns g) pa id → ∀ n0 : Nat, ∃ n, n0 ≤ n ∧ belowP (kns g) n pa id = true := by
          rintro ⟨n, hn⟩ n0
          exact ⟨max n0 n, Nat.le_max_left _ _, belowP_le hn (Nat.le_max_right _ _)⟩
        rcases hP with hpa | ⟨hpa, haf, jp, hp, ep, hpi, hgp⟩ | ⟨hpa, haf, jp, hp, ep, hpi, hgp⟩
        · refine (do_not4N0 S id pa af ki tx tr h1 h2 hid ex hxi hpar hpa).mono (fun _ _ h => done0 (hNot ?_) h)
          rintro ⟨⟨p, hp, _⟩, _⟩
          rw [show gAt (kns g) pa = none from hno pa hpa] at hp; cases hp
        · have hai : ¬ af = id := by omega
          by_cases hb : Bel (kns g) pa id
          · exact (do_not4B1 S id pa af ki tx tr h1 h2 hid ex hxi hpar hpa haf ep hpi (hkid hp (List.mem_of_getElem? ep)) hai I (hbig hb)).mono (fun _ _ h => done0 (hNot (fun h => h.2.2 hb)) h)
          · have hnp : jx ≠ jp := by
              rintro rfl
              have := Option.some.inj (ex.symm.trans ep)
              subst this
              exact hb (by rw [← hpi, hxi]; exact Bel.refl _ _)
            exact (do_move1 S I id pa af ki tx tr h1 h2 hid hpa ex eq ep hne hnp hpar2 hin hkid hlen hxi hpi hai hb haf).mono (fun _ _ h => done1 (hDone ⟨hp.k, hgp, .inl haf⟩ hai hb) (movedK_ids _ _ _) h)
        · by_cases hsp : 0 ≤ placeOf hp.k.kids af
          · by_cases hai : af = id
            · exact (do_not4A2 S id pa af ki tx tr h1 h2 hid ex hxi hpar hpa haf ep hpi (hkid hp (List.mem_of_getElem? ep)) hsp hai).mono (fun _ _ h => done0 (hNot (fun h => h.2.1 hai)) h)
            · by_cases hb : Bel (kns g) pa id
              · exact (do_not4B2 S id pa af ki tx tr h1 h2 hid ex hxi hpar hpa haf ep hpi (hkid hp (List.mem_of_getElem? ep)) hsp hai I (hbig hb)).mono (fun _ _ h => done0 (hNot (fun h => h.2.2 hb)) h)
              · have hnp : jx ≠ jp := by
                  rintro rfl
                  have := Option.some.inj (ex.symm.trans ep)
                  subst this
                  exact hb (by rw [← hpi, hxi]; exact Bel.refl _ _)
                exact (do_move2 S I id pa af ki tx tr h1 h2 hid hpa ex eq ep hne hnp hpar2 hin hkid hlen hxi hpi hai hb haf hsp).mono (fun _ _ h => done1 (hDone ⟨hp.k, hgp, .inr ((placeOf_nn _ _).1 hsp)⟩ hai hb) (movedK_ids _ _ _) h)
          · refine (do_not4N2 S id pa af ki tx tr h1 h2 hid ex hxi hpar hpa haf ep hpi (hkid hp (List.mem_of_getElem? ep)) hsp).mono (fun _ _ h => done0 (hNot ?_) h)
            rintro ⟨⟨p, hp', h3⟩, _⟩
            rw [show gAt (kns g) pa = some hp.k from hgp] at hp'
            injection hp' with hp'
            subst hp'
            rcases h3 with h3 | h3
            · exact haf h3
            · exact hsp ((placeOf_nn _ _).2 h3)
    · have hD : doK (kns g) ⟨4, id, pa, af, ki, tx, tr⟩ = none := by
        unfold doK
        rw [if_neg (by simp), if_neg (by simp), if_neg (by simp), if_pos rfl]
        simp only [hno id hid]
      rcases hP with hpa | ⟨hpa, haf, jp, hp, ep, hpi, _⟩ | ⟨hpa, haf, jp, hp, ep, hpi, _⟩
      · exact (do_none40 S id pa af ki tx tr h1 h2 hid hpa).mono (fun _ _ h => done0 hD h)
      · exact (do_none41 S id pa af ki tx tr h1 h2 hid hpa haf).mono (fun _ _ h => done0 hD h)
      · exact (do_none42 S id pa af ki tx tr h1 h2 hid hpa haf ep hpi (hkid hp (List.mem_of_getElem? ep))).mono (fun _ _ h => done0 hD h)
  have hD : doK (kns g) ⟨so, id, pa, af, ki, tx, tr⟩ = none := by
    unfold doK
    rw [if_neg s1, if_neg s2, if_neg s3, if_neg s4]
  rcases hP with hpa | ⟨hpa, haf, jp, hp, ep, hpi, _⟩ | ⟨hpa, haf, jp, hp, ep, hpi, _⟩
  · exact (do_nosort0 S so id pa af ki tx tr h1 h2 s1 s2 s3 s4 hpa).mono (fun _ _ h => done0 hD h)
  · exact (do_nosort1 S so id pa af ki tx tr h1 h2 s1 s2 s3 s4 hpa haf).mono (fun _ _ h => done0 hD h)
  · exact (do_nosort2 S so id pa af ki tx tr h1 h2 s1 s2 s3 s4 hpa haf ep hpi (hkid hp (List.mem_of_getElem? ep))).mono (fun _ _ h => done0 hD h)
end
end Go.Proofs.Ytfmlpkeaiohknaa.Q
/-! A grove's edits keep what holds of it. -/
set_option linter.unusedVariables false
set_option linter.unusedSimpArgs false
namespace Go.Proofs.Ytfmlpkeaiohknaa.Q
open Go Go.RowKit Go.Proofs.YtfmlpkeaiohknaaW.PrintWords Go.Proofs.YtfmlpkeaiohknaaW.SL
theorem Inv.kid_of {g : List Kn} (I : Inv g) {a y k : Kn} (ha : a ∈ g) (hk : k ∈ g) (h : k.id ∈ a.kids) : k.par = some a.id := by
  obtain ⟨z, hz, e1, e2⟩ := I.kids a ha _ h
  rw [nodup_id I.nodup hz hk e1] at e2
  exact e2
theorem textK_inv {g : List Kn} {x : Ed} (I : Inv g) : Inv (textK g x) := by
  have hi : (textK g x).map (·.id) = g.map (·.id) := updK_ids (fun _ => rfl)
  have hm : ∀ k', k' ∈ textK g x → ∃ k ∈ g, k'.id = k.id ∧ k'.par = k.par ∧ k'.kids = k.kids := fun k' h => by
    obtain ⟨k, hk, rfl⟩ := mem_updK.1 h
    refine ⟨k, hk, ?_⟩
    split
    · exact ⟨rfl, rfl, rfl⟩
    · exact ⟨rfl, rfl, rfl⟩
  have hb : ∀ k ∈ g, ∃ k' ∈ textK g x, k'.id = k.id ∧ k'.par = k.par ∧ k'.kids = k.kids := fun k hk => by
    refine ⟨_, mem_updK.2 ⟨k, hk, rfl⟩, ?_⟩
    split
    · exact ⟨rfl, rfl, rfl⟩
    · exact ⟨rfl, rfl, rfl⟩
  refine ⟨by rw [hi]; exact I.nodup, ?_, ?_, ?_, ?_, ?_, ?_⟩
  · intro k' hk' i hi'
    obtain ⟨k, hk, e1, e2, e3⟩ := hm k' hk'
    rw [e3] at hi'
    obtain ⟨y, hy, f1, f2⟩ := I.kids k hk i hi'
    obtain ⟨y', hy', g1, g2, g3⟩ := hb y hy
    exact ⟨y', hy', g1.trans f1, by rw [g2, f2, e1]⟩
  · intro k' hk' p hp
    obtain ⟨k, hk, e1, e2, e3⟩ := hm k' hk'
    rw [e2] at hp
    obtain ⟨y, hy, f1, f2⟩ := I.par k hk p hp
    obtain ⟨y', hy', g1, g2, g3⟩ := hb y hy
    exact ⟨y', hy', g1.trans f1, by rw [g3, e1]; exact f2⟩
  · intro k' hk'
    obtain ⟨k, hk, e1, e2, e3⟩ := hm k' hk'
    rw [e3]; exact I.kdup k hk
  · obtain ⟨d, hd⟩ := I.rank
    refine ⟨d, fun k' hk' p hp => ?_⟩
    obtain ⟨k, hk, e1, e2, e3⟩ := hm k' hk'
    rw [e1]; rw [e2] at hp; exact hd k hk p hp
  · intro k' hk'
    obtain ⟨k, hk, e1, e2, e3⟩ := hm k' hk'
    rw [e1, e2]; exact I.root k hk
  · intro k' hk'
    obtain ⟨k, hk, e1, e2, e3⟩ := hm k' hk'
    rw [e1]; exact I.in64 k hk
theorem goneK_inv {g : List Kn} {x : Ed} {k : Kn} {q : Int} (I : Inv g) (hk : gAt g x.id = some k) (hq : k.par = some q) (h0 : k.kids = []) : Inv (goneK g q x) := by
  obtain ⟨hkm, hki⟩ := gAt_mem hk
  have hm : ∀ k', k' ∈ goneK g q x → ∃ a ∈ g, a.id ≠ x.id ∧ k'.id = a.id ∧ k'.par = a.par ∧ (∀ i, i ∈ k'.kids ↔ i ∈ a.kids ∧ i ≠ x.id) ∧ (a.kids.Nodup → k'.kids.Nodup) := fun k' h => by
    obtain ⟨h1, h2⟩ := List.mem_filter.1 h
    obtain ⟨a, ha, e⟩ := mem_updK.1 h1
    refine ⟨a, ha, ?_⟩
    by_cases c : a.id = q
    · rw [if_pos c] at e
      subst e
      refine ⟨of_decide_eq_true (show decide (a.id ≠ x.id) = true from h2), rfl, rfl, fun i => ?_, fun hn => hn.filter _⟩
      show i ∈ a.kids.filter _ ↔ _
      rw [List.mem_filter]; simp
    · rw [if_neg c] at e
      subst e
      refine ⟨by simpa using h2, rfl, rfl, fun i => ⟨fun hi => ⟨hi, fun e => ?_⟩, fun h => h.1⟩, fun hn => hn⟩
      have := I.kid_of (y := k) ha hkm (by rw [hki, ← e]; exact hi)
      rw [hq] at this
      injection this with this
      exact c this.symm
  have hb : ∀ a ∈ g, a.id ≠ x.id → ∃ k' ∈ goneK g q x, k'.id = a.id ∧ k'.par = a.par ∧ ∀ i, i ∈ a.kids → i ≠ x.id → i ∈ k'.kids := fun a ha hn => by
    refine ⟨if a.id = q then Kn.cut x.id a else a, List.mem_filter.2 ⟨mem_updK.2 ⟨a, ha, rfl⟩, ?_⟩, ?_⟩
    · split
      · exact decide_eq_true (show (Kn.cut x.id a).id ≠ x.id from hn)
      · exact decide_eq_true hn
    · split
      · exact ⟨rfl, rfl, fun i h1 h2 => List.mem_filter.2 ⟨h1, by simpa using h2⟩⟩
      · exact ⟨rfl, rfl, fun i h1 h2 => h1⟩
  refine ⟨?_, ?_, ?_, ?_, ?_, ?_, ?_⟩
  · have h1 : (goneK g q x).map (·.id) = ((updK g q (Kn.cut x.id)).filter fun k => decide (k.id ≠ x.id)).map (·.id) := rfl
    have h2 := (List.filter_sublist (l := updK g q (Kn.cut x.id)) (p := fun k => decide (k.id ≠ x.id))).map (·.id)
    rw [updK_ids (cut_id x.id)] at h2
    exact h2.nodup I.nodup
  · intro k' hk' i hi
    obtain ⟨a, ha, hn, e1, e2, e3, _⟩ := hm k' hk'
    obtain ⟨hi1, hi2⟩ := (e3 i).1 hi
    obtain ⟨y, hy, f1, f2⟩ := I.kids a ha i hi1
    obtain ⟨y', hy', g1, g2, _⟩ := hb y hy (by rw [f1]; exact hi2)
    exact ⟨y', hy', g1.trans f1, by rw [g2, f2, e1]⟩
  · intro k' hk' p hp
    obtain ⟨a, ha, hn, e1, e2, e3, _⟩ := hm k' hk'
    rw [e2] at hp
    obtain ⟨y, hy, f1, f2⟩ := I.par a ha p hp
    have hyn : y.id ≠ x.id := fun e => by
      rw [nodup_id I.nodup hy hkm (e.trans hki.symm), h0] at f2
      cases f2
    obtain ⟨y', hy', g1, g2, g3⟩ := hb y hy hyn
    exact ⟨y', hy', g1.trans f1, by rw [e1]; exact g3 _ f2 hn⟩
  · intro k' hk'
    obtain ⟨a, ha, hn, e1, e2, e3, e4⟩ := hm k' hk'
    exact e4 (I.kdup a ha)
  · obtain ⟨d, hd⟩ := I.rank
    refine ⟨d, fun k' hk' p hp => ?_⟩
    obtain ⟨a, ha, hn, e1, e2, e3, _⟩ := hm k' hk'
    rw [e1]; rw [e2] at hp; exact hd a ha p hp
  · intro k' hk'
    obtain ⟨a, ha, hn, e1, e2, e3, _⟩ := hm k' hk'
    rw [e1, e2]; exact I.root a ha
  · intro k' hk'
    obtain ⟨a, ha, hn, e1, e2, e3, _⟩ := hm k' hk'
    rw [e1]; exact I.in64 a ha
theorem movedK_eq (g : List Kn) (q : Int) (x : Ed) : movedK g q x = g.map fun a =>
    let b := if a.id = q then Kn.cut x.id a else a
    let c := if a.id = x.pa then Kn.ins x b else b
    if a.id = x.id then c.wPar (some x.pa) else c := by
  unfold movedK updK
  rw [List.map_map, List.map_map]
  apply List.map_congr_left
  intro a _
  simp only [Function.comp_apply]
  have e1 : (if a.id = q then Kn.cut x.id a else a).id = a.id := by split <;> rfl
  rw [e1]
  have e2 : ∀ b : Kn, b.id = a.id → (if a.id = x.pa then Kn.ins x b else b).id = a.id := fun b hb => by split <;> exact hb
  rw [e2 _ e1]
theorem movedK_inv {g : List Kn} {x : Ed} {k : Kn} {q : Int} (I : Inv g) (hk : gAt g x.id = some k) (hq : k.par = some q) (hs : SpotK g x) (hb : ¬ Bel g x.pa x.id) : Inv (movedK g q x) := by
  obtain ⟨hkm, hki⟩ := gAt_mem hk
  obtain ⟨p, hp, _⟩ := hs
  obtain ⟨hpm, hpi⟩ := gAt_mem hp
  have hpn : x.pa ≠ x.id := fun e => hb (by rw [e]; exact Bel.refl _ _)
  have hc : ∀ a ∈ g, a.id ≠ q → x.id ∉ a.kids := fun a ha hn hi => by
    have := I.kid_of (y := k) ha hkm (by rw [hki]; exact hi)
    rw [hq] at this
    injection this with this
    exact hn this.symm
  obtain ⟨M, hM⟩ : ∃ M : Kn → Kn, ∀ a, M a = (let b := if a.id = q then Kn.cut x.id a else a
    let c := if a.id = x.pa then Kn.ins x b else b
    if a.id = x.id then c.wPar (some x.pa) else c) := ⟨_, fun _ => rfl⟩
  have hmv : movedK g q x = g.map M := by rw [movedK_eq]; exact List.map_congr_left (fun a _ => (hM a).symm)
  have mid : ∀ a, (M a).id = a.id := fun a => by
    rw [hM]
    dsimp only
    split <;> split <;> split <;> rfl
  have mpar : ∀ a, (M a).par = if a.id = x.id then some x.pa else a.par := fun a => by
    rw [hM]
    dsimp only
    split <;> split <;> split <;> rfl
  have hbk : ∀ a ∈ g, ∀ i, i ∈ (if a.id = q then Kn.cut x.id a else a).kids ↔ i ∈ a.kids ∧ i ≠ x.id := fun a ha i => by
    split
    · show i ∈ a.kids.filter _ ↔ _
      rw [List.mem_filter]; simp
    · rename_i e
      exact ⟨fun h => ⟨h, fun e2 => hc a ha e (by rw [← e2]; exact h)⟩, fun h => h.1⟩
  have hbn : ∀ a ∈ g, (if a.id = q then Kn.cut x.id a else a).kids.Nodup := fun a ha => by
    split
    · exact (I.kdup a ha).filter _
    · exact I.kdup a ha
  have mkids : ∀ a ∈ g, ∀ i, i ∈ (M a).kids ↔ (a.id = x.pa ∧ i = x.id) ∨ (i ∈ a.kids ∧ i ≠ x.id) := fun a ha i => by
    have e : (M a).kids = (if a.id = x.pa then Kn.ins x (if a.id = q then Kn.cut x.id a else a) else (if a.id = q then Kn.cut x.id a else a)).kids := by
      rw [hM]; dsimp only
      split <;> rfl
    rw [e]
    by_cases c : a.id = x.pa
    · rw [if_pos c]
      show i ∈ insAt _ _ _ ↔ _
      rw [mem_insAt, hbk a ha]
      simp [c]
    · rw [if_neg c, hbk a ha]
      simp [c]
  have mnd : ∀ a ∈ g, (M a).kids.Nodup := fun a ha => by
    have e : (M a).kids = (if a.id = x.pa then Kn.ins x (if a.id = q then Kn.cut x.id a else a) else (if a.id = q then Kn.cut x.id a else a)).kids := by
      rw [hM]; dsimp only
      split <;> rfl
    rw [e]
    by_cases c : a.id = x.pa
    · rw [if_pos c]
      exact nodup_insAt (hbn a ha) (fun h => ((hbk a ha _).1 h).2 rfl)
    · rw [if_neg c]; exact hbn a ha
  have hmem : ∀ k', k' ∈ movedK g q x ↔ ∃ a ∈ g, M a = k' := fun k' => by rw [hmv, List.mem_map]
  refine ⟨?_, ?_, ?_, ?_, ?_, ?_, ?_⟩
  · rw [hmv, List.map_map]
    have : (fun a => (M a).id) = fun a : Kn => a.id := funext mid
    show (g.map (fun a => (M a).id)).Nodup
    rw [this]; exact I.nodup
  · intro k' hk' i hi
    obtain ⟨a, ha, rfl⟩ := (hmem k').1 hk'
    rcases (mkids a ha i).1 hi with ⟨c1, c2⟩ | ⟨c1, c2⟩
    · refine ⟨M k, (hmem _).2 ⟨k, hkm, rfl⟩, by rw [mid, hki, c2], ?_⟩
      rw [mpar, if_pos hki, mid, c1]
    · obtain ⟨y, hy, f1, f2⟩ := I.kids a ha i c1
      refine ⟨M y, (hmem _).2 ⟨y, hy, rfl⟩, by rw [mid, f1], ?_⟩
      rw [mpar, if_neg (by rw [f1]; exact c2), mid, f2]
  · intro k' hk' r hr
    obtain ⟨a, ha, rfl⟩ := (hmem k').1 hk'
    rw [mpar] at hr
    by_cases c : a.id = x.id
    · rw [if_pos c] at hr
      injection hr with hr
      subst hr
      refine ⟨M p, (hmem _).2 ⟨p, hpm, rfl⟩, by rw [mid, hpi], ?_⟩
      rw [mkids p hpm, mid]
      exact .inl ⟨hpi, c⟩
    · rw [if_neg c] at hr
      obtain ⟨y, hy, f1, f2⟩ := I.par a ha r hr
      refine ⟨M y, (hmem _).2 ⟨y, hy, rfl⟩, by rw [mid, f1], ?_⟩
      rw [mkids y hy, mid]
      exact .inr ⟨f2, c⟩
  · intro k' hk'
    obtain ⟨a, ha, rfl⟩ := (hmem k').1 hk'
    exact mnd a ha
  · obtain ⟨d, hd⟩ := I.rank
    refine ⟨fun i => open Classical in if Bel g i x.id then d i + d x.pa + 1 else d i, fun k' hk' r hr => ?_⟩
    obtain ⟨a, ha, rfl⟩ := (hmem k').1 hk'
    rw [mpar] at hr
    rw [mid]
    dsimp only
    by_cases c : a.id = x.id
    · rw [if_pos c] at hr
      injection hr with hr
      subst hr
      rw [if_neg hb, if_pos (by rw [c]; exact Bel.refl _ _)]
      omega
    · rw [if_neg c] at hr
      have h3 := hd a ha r hr
      have h4 : Bel g a.id x.id ↔ Bel g r x.id := by
        rw [Bel.iff (i := a.id)]
        constructor
        · rintro (h | ⟨s, hs, hB⟩)
          · exact (c h).elim
          · rw [gAt_of I.nodup ha, Option.bind_some, hr] at hs
            injection hs with hs
            rw [hs]; exact hB
        · intro h
          exact .inr ⟨r, by rw [gAt_of I.nodup ha, Option.bind_some, hr], h⟩
      by_cases h5 : Bel g r x.id
      · rw [if_pos h5, if_pos (h4.2 h5)]; omega
      · rw [if_neg h5, if_neg (fun h => h5 (h4.1 h))]; omega
  · intro k' hk'
    obtain ⟨a, ha, rfl⟩ := (hmem k').1 hk'
    rw [mpar, mid]
    by_cases c : a.id = x.id
    · rw [if_pos c]
      have := I.root k hkm
      rw [hq] at this
      constructor
      · intro h; cases h
      · intro h
        have h2 := this.2 (by rw [hki, ← c]; exact h)
        cases h2
    · rw [if_neg c]; exact I.root a ha
  · intro k' hk'
    obtain ⟨a, ha, rfl⟩ := (hmem k').1 hk'
    rw [mid]; exact I.in64 a ha
theorem doK_inv {g g' : List Kn} {x : Ed} (I : Inv g) (h64 : in64 x.id) (h : doK g x = some g') : Inv g' := by
  unfold doK at h
  split at h
  · split at h
    · rename_i c; injection h with h; subst h; exact newK_inv I c.1 c.2.1 h64 c.2.2
    · cases h
  split at h
  · split at h
    · cases h
    · rename_i k hk
      split at h
      · cases h
      · rename_i q hq
        split at h
        · rename_i c; injection h with h; subst h; exact goneK_inv I hk hq c
        · cases h
  split at h
  · split at h
    · cases h
    · injection h with h; subst h; exact textK_inv I
  split at h
  · split at h
    · cases h
    · rename_i k hk
      split at h
      · cases h
      · rename_i q hq
        split at h
        · rename_i c; injection h with h; subst h; exact movedK_inv I hk hq c.1 c.2.2
        · cases h
  · cases h
theorem doK_len {g g' : List Kn} {x : Ed} (h : doK g x = some g') : g'.length ≤ g.length + 1 := by
  unfold doK at h
  split at h
  · split at h
    · injection h with h; subst h; simp [newK, updK]
    · cases h
  split at h
  · split at h
    · cases h
    · split at h
      · cases h
      · split at h
        · injection h with h; subst h
          unfold goneK
          refine Nat.le_trans (List.length_filter_le _ _) ?_
          simp [updK]
        · cases h
  split at h
  · split at h
    · cases h
    · injection h with h; subst h; simp [textK, updK]
  split at h
  · split at h
    · cases h
    · split at h
      · cases h
      · split at h
        · injection h with h; subst h; simp [movedK, updK]
        · cases h
  · cases h
end Go.Proofs.Ytfmlpkeaiohknaa.Q
/-! A row of the call's own with all that its elements hold, as one assertion. -/
set_option linter.unusedVariables false
namespace Go.Proofs.YtfmlpkeaiohknaaW.SL
open Go Go.RowKit Go.Proofs.YtfmlpkeaiohknaaW.PrintWords
/-- A row of the call's own, with what its elements hold. -/
def rowOf {α : Type} (d : Kd α) (e B : Nat) (v : Value) (xs : List α) : Asr :=
  ⟨fun w f => (∀ k, f k → k < w.heap.size) ∧ d.R e w B f v xs,
   fun h hs => ⟨fun k hk => by
     have hl := h.1 k hk
     have he := hs k hk
     rw [Array.getElem?_eq_getElem hl] at he
     exact (Array.getElem?_eq_some_iff.1 he).1, Kd.R_move h.2 hs⟩,
   fun h k hk => h.1 k hk⟩
section
variable {w0 w w' : World} {Z : Nat → Prop} {l L : List Asr} {F : List FA} {α : Type} {d : Kd α} {e B i : Nat} {v : Value} {xs : List α}
theorem Stt.rowOf_at (S : Stt w0 Z L F w) (hi : L[i]? = some (rowOf d e B v xs)) : ∃ f : Nat → Prop, (∀ k, f k → w0.heap.size ≤ k ∧ ¬ Z k ∧ k < w.heap.size) ∧ d.R e w B f v xs := by
  obtain ⟨f, hf, hd⟩ := S.st.hs
  obtain ⟨fa, ha, hsub, _⟩ := hf.at hi
  exact ⟨fa, fun k hk => ⟨(hd k (hsub k hk)).1, (hd k (hsub k hk)).2, ha.1 k hk⟩, ha.2⟩
theorem Stt.rowOf_new (S : Stt w0 Z L F w) {ok : Nat → Prop} (hb : Below w.heap.size w w') (h : d.R e w' w.heap.size ok v xs) (hB : B ≤ w.heap.size) : Stt w0 Z (rowOf d e B v xs :: L) F w' :=
  S.more (a := rowOf d e B v xs) (f := fun k => w.heap.size ≤ k ∧ k < w'.heap.size) hb ⟨fun k hk => hk.2, Kd.R_mono (Kd.R_lower (Kd.R_bound h) hB) (fun k hk => ⟨hk.2.1, hk.2.2.1⟩)⟩ (fun k hk => hk.1)
theorem Stt.drew (S : Stt w0 Z L F w) : Stt w0 Z L F w.drew := S.keep ⟨rfl, rfl, rfl, Nat.le_refl _, fun _ _ => rfl⟩
/-- An append of an element that holds another row of the call's own. -/
theorem Stt.rowOf_app {β : Type} {d' : Kd β} {e' : Nat} {ve : Value} {ys : List β} (S : Stt w0 Z (rowOf d' e' B ve ys :: rowOf d e B v xs :: L) F w) :
    ∃ ok okp : Nat → Prop, (∀ k, okp k → ok k ∧ some k ≠ v.ownBlock) ∧ (∀ k, w.heap.size ≤ k → ok k) ∧ d.R e w B ok v xs ∧ d'.R e' w B okp ve ys ∧ ∀ (v1 : Value) (w1 : World) (xs1 : List α), d.R e w1 B ok v1 xs1 → w.grownBy w1 v.ownBlock → Stt w0 Z (rowOf d e B v1 xs1 :: L) F w1 := by
  obtain ⟨f, ⟨f2, fr, he, hd, ha, f1, f3, he2, hd2, hb, hr⟩, hz⟩ := S.st.hs
  refine ⟨fun k => f1 k ∨ f2 k ∨ w.heap.size ≤ k, f2, fun k hk => ⟨.inr (.inl hk), fun e => hd k hk ((he2 k).2 (.inl (hb.2.1 k e.symm)))⟩, fun k hk => .inr (.inr hk), Kd.R_mono hb.2 (fun k hk => .inl hk), ha.2, fun v1 w1 xs1 h1 hg => ?_⟩
  have hle := S.below.size
  have hv : ∀ k, v.ownBlock = some k → w0.heap.size ≤ k ∧ ¬ Z k := fun k hk => hz k ((he k).2 (.inr ((he2 k).2 (.inl (hb.2.1 k hk)))))
  have hkeep : ∀ k, k < w.heap.size → v.ownBlock ≠ some k → w1.heap[k]? = w.heap[k]? := fun k hk hn => hg.block k hk (fun e => hn e.symm)
  refine ⟨⟨S.below.trans ⟨hg.os, hg.tape, hg.output, hg.size, fun k hk => hkeep k (by omega) (fun e => by have := (hv k e).1; omega)⟩, fun k hk => Nat.lt_of_lt_of_le (S.st.zlt k hk) hg.size, fun k => ((f1 k ∨ f2 k ∨ w.heap.size ≤ k) ∧ k < w1.heap.size) ∨ f3 k, ⟨_, f3, fun k => Iff.rfl, fun k h1 h3 => ?_, ⟨fun k hk => hk.2, Kd.R_mono (Kd.R_bound h1) (fun k hk => ⟨hk.1, hk.2.2.1⟩)⟩, hr.loc (fun k hk => hkeep k (hr.lt k hk) (fun e => hd2 k (hb.2.1 k e) hk))⟩, fun k hk => ?_⟩, fun a ha' => a.step (S.fr a ha') (fun k hk hl => hkeep k hl (fun e => (hv k e).2 hk)) (fun _ h => h), S.old⟩
  · rcases h1.1 with h | h | h
    · exact hd2 k h h3
    · exact hd k h ((he2 k).2 (.inr h3))
    · have := hr.lt k h3; omega
  · rcases hk with ⟨h | h | h, _⟩ | h
    · exact hz k ((he k).2 (.inr ((he2 k).2 (.inl h))))
    · exact hz k ((he k).2 (.inl h))
    · exact ⟨by omega, fun hz' => by have := S.st.zlt k hz'; omega⟩
    · exact hz k ((he k).2 (.inr ((he2 k).2 (.inr h))))
end
end Go.Proofs.YtfmlpkeaiohknaaW.SL
/-! (*knot).node: the tree from a knot on. -/
set_option linter.unusedVariables false
set_option linter.unusedSimpArgs false
namespace Go.Proofs.Ytfmlpkeaiohknaa.Q
open Go Go.RowKit Go.Lib Go.Sort Go.Proofs.YtfmlpkeaiohknaaW.PrintWords Go.Proofs.YtfmlpkeaiohknaaW.PrintLast Go.Proofs.YtfmlpkeaiohknaaW.PrintMore Go.Proofs.YtfmlpkeaiohknaaW.SL
attribute [local go_sem] max2_int min2_int max_two min_two max_three min_three max_four min_four
/-- The tree from a name on. -/
def treeK (ks : List Kn) : Nat → Int → S24
  | 0, _ => z24
  | n + 1, i => match gAt ks i with
    | none => z24
    | some k => ⟨k.kind, k.text, k.trail, k.kids.map (treeK ks n)⟩
theorem kn_cells {w0 w : World} {Z : Nat → Prop} {pre X : List Asr} {F : List FA} {ad : Int → Nat} {g : List Hk} {j : Nat} {h : Hk} (S : Stt w0 Z (GL pre ad g X) F w) (hj : g[j]? = some h) :
    w.cell? ⟨ad h.k.id, 1, none⟩ = some (.int .i64 h.k.kind) ∧ w.cell? ⟨ad h.k.id, 2, none⟩ = some (.string h.k.text) ∧ w.cell? ⟨ad h.k.id, 3, none⟩ = some (.string h.k.trail) ∧ w.cell? ⟨ad h.k.id, 4, none⟩ = some (.slice none 0 0) ∧ w.cell? ⟨ad h.k.id, 6, none⟩ = some h.v :=
  ⟨(blk_cell (kn_blk S hj) 1).trans rfl, (blk_cell (kn_blk S hj) 2).trans rfl, (blk_cell (kn_blk S hj) 3).trans rfl, (blk_cell (kn_blk S hj) 4).trans rfl, (blk_cell (kn_blk S hj) 6).trans rfl⟩
theorem kids_cell {w : World} {ad : Int → Nat} {v : Value} {l : List Int} (h : w.ownsRow 0 58 1 v l.length (l.map (pk ad))) : ∃ A c, v = .slice A l.length c ∧ ∀ (i : Nat) (y : Int), l[i]? = some y → ∃ g, A = some ⟨g, 0, none⟩ ∧ i < c ∧ w.cell? ⟨g, i, none⟩ = some (pk ad y) := by
  obtain ⟨_, ⟨rfl, he⟩ | ⟨g, cap, cur, rfl, hb, hg, hnc, hcs, _, ht⟩⟩ := h
  · refine ⟨none, 0, ?_, fun i y hi => ?_⟩
    · rename_i hl; simp_all
    · simp_all
  · refine ⟨_, cap, rfl, fun i y hi => ⟨g, rfl, ?_, ?_⟩⟩
    · have := (List.getElem?_eq_some_iff.1 hi).1; omega
    · exact Go.Proofs.Ytfmlpkeaiohknaa.Q.own_at hg ht i (pk ad y) (by rw [List.getElem?_map, hi]; rfl)
set_option maxHeartbeats 8000000 in
set_option maxRecDepth 100000 in
theorem node_walk {ad : Int → Nat} {w : World} (k : Kn) (v : Value) (n : Nat) (ks : List Kn) (hlen : k.kids.length ≤ 1000000) (hone : ∀ t : S24, t ∈ k.kids.map (treeK ks n) → True)
    (HG : ∀ W, Below w.heap.size w W → (W.cell? ⟨ad k.id, 1, none⟩ = some (.int .i64 k.kind) ∧ W.cell? ⟨ad k.id, 2, none⟩ = some (.string k.text) ∧ W.cell? ⟨ad k.id, 3, none⟩ = some (.string k.trail) ∧ W.cell? ⟨ad k.id, 4, none⟩ = some (.slice none 0 0) ∧ W.cell? ⟨ad k.id, 6, none⟩ = some v) ∧ W.ownsRow 0 58 1 v k.kids.length (k.kids.map (pk ad)))
    (HC : ∀ y ∈ k.kids, ∀ W, Below w.heap.size w W → Calls Try.prog 22 #[pk ad y] W fun e w' => ∃ v3, e = .returned (.agg #[.int .i64 (treeK ks n y).f0, .string (treeK ks n y).f1, .string (treeK ks n y).f2, v3]) ∧ Kd.R k24 24 w' W.heap.size (fun _ => True) v3 (treeK ks n y).f3 ∧ Below W.heap.size W w') :
    Calls Try.prog 22 #[pk ad k.id] w fun e w' => ∃ v3, e = .returned (.agg #[.int .i64 k.kind, .string k.text, .string k.trail, v3]) ∧ Kd.R k24 24 w' w.heap.size (fun _ => True) v3 (k.kids.map (treeK ks n)) ∧ Below w.heap.size w w' := by
  have hlt : ad k.id < w.heap.size := World.block_lt_of_cell? w _ (HG w (Below.refl _ _)).1.1
  obtain ⟨A, c, hv, _⟩ := kids_cell (HG w (Below.refl _ _)).2
  obtain ⟨nk, hnk⟩ : ∃ nk, k.kids.length = nk := ⟨_, rfl⟩
  have HK : ∀ W, Below w.heap.size w W → ∀ (i : Nat) (y : Int), k.kids[i]? = some y → ∃ g, A = some ⟨g, 0, none⟩ ∧ i < c ∧ W.cell? ⟨g, i, none⟩ = some (pk ad y) := fun W hW => by
    obtain ⟨A2, c2, hv2, h2⟩ := kids_cell (HG W hW).2
    rw [hv] at hv2
    injection hv2 with e1 e2 e3
    subst e1; subst e3
    exact h2
  have HF : ∀ W, Below w.heap.size w W → W.cell? ⟨ad k.id, 1, none⟩ = some (.int .i64 k.kind) ∧ W.cell? ⟨ad k.id, 2, none⟩ = some (.string k.text) ∧ W.cell? ⟨ad k.id, 3, none⟩ = some (.string k.trail) ∧ W.cell? ⟨ad k.id, 4, none⟩ = some (.slice none 0 0) ∧ W.cell? ⟨ad k.id, 6, none⟩ = some (.slice A nk c) := fun W hW => by
    have := (HG W hW).1
    rw [hv, hnk] at this
    exact this
  obtain ⟨a, ha⟩ : ∃ a, ad k.id = a := ⟨_, rfl⟩
  have S : Stt w (fun k => k < w.heap.size) [] [] w := Stt.start w (by simp)
  unfold pk at ⊢
  rw [ha] at hlt HF ⊢
  have hnk6 : nk ≤ 1000000 := by omega
  have hn0 : decide ((0 : Int) ≤ (nk : Int)) = true := decide_eq_true (by omega)
  replace HF := Aside0.mk HF
  replace HK := Aside0.mk HK
  replace HC := Aside0.mk HC
  replace hlt := Aside0.mk hlt
  replace hnk6 := Aside0.mk hnk6
  have HL := Aside0.mk hnk
  clear HG hv hnk ha hlen hone
  obtain ⟨ts, hts⟩ : ∃ ts, ts = k.kids.map (treeK ks n) := ⟨_, rfl⟩
  rw [← hts]
  have htl : ts.length = nk := by rw [hts, List.length_map]; exact HL.out
  replace hts := Aside0.mk hts
  replace htl := Aside0.mk htl
  have hu24 := Try.underlying24
  go_enter Try.func22, Try.ntmps22
  go_wp2_with (first | ((with_reducible refine gate_dst (N := 2) rfl ?_); go_must ((refine box_event ?hg (N := 2) ?hd (cs := #[.int .i64 0, .string (⟨#[]⟩ : ByteArray), .string (⟨#[]⟩ : ByteArray), .slice none 0 0]) (t := 24) ?hr ?_; (case hd => rfl); (case hg => rfl); (case hr => first | (go_simp; done) | (go_simp; rfl)); intro g2 hg_ w1 hbox hb; replace S := S.box hg_ hbox hb; clear hbox hb hg_; obtain ⟨k1, k2, k3, k4, k6⟩ := HF.out _ S.below))) | ((with_reducible refine gate_dst (N := 3) rfl ?_); go_must ((refine box_event ?hg (N := 3) ?hd (cs := #[.int .i64 0, .string (⟨#[]⟩ : ByteArray), .string (⟨#[]⟩ : ByteArray), .slice none 0 0]) (t := 24) ?hr ?_; (case hd => rfl); (case hg => rfl); (case hr => first | (go_simp; done) | (go_simp; rfl)); intro g3 hg_ w2 hbox hb; replace S := S.box hg_ hbox hb; clear hbox hb hg_; obtain ⟨⟨p0, p1, p2, p3⟩, p4, p5, p6, p7⟩ := box4 (S.at_blk 0 rfl); have hne := Nat.ne_of_gt (Nat.lt_of_lt_of_le hlt.out (S.st.blk_ge (i := 0) rfl).1); have hne2 := Ne.symm hne; clear k1 k2 k3 k4 k6; obtain ⟨k1, k2, k3, k4, k6⟩ := HF.out _ S.below))) | ((with_reducible refine gate_dst (N := 15) rfl ?_); go_must ((replace S := S.set4 (.int .i64 k.kind) (.string k.text) (.string k.trail) (.slice none 0 0); refine Kd.R_make0 k24 _ 24 rfl (N := 15) rfl 22 _ _ rfl (nk : Int) rfl rfl Try.underlying22 (.agg #[(.int .i64 0), (.string ⟨#[]⟩), (.string ⟨#[]⟩), (.slice none 0 0)]) 64 info24 rfl (by decide) (by omega) z24 (ok := fun _ => True) (okp := fun _ => True) (k24_mkM _ _ _ z24 (Kd.R_nil _ _ _ _ _)) (fun _ hk => hk) trivial (by omega) (by have := hnk6.out; omega) (Below.refl _ _) (Nat.le_refl _) ?_; intro v3 w3 ho hb hg_ hnew_; clear hg_ hnew_; obtain ⟨A3, c3, e3⟩ := Kd.R_slice ho; rw [List.length_nil] at e3; subst e3; replace S := S.rowOf_new (B := w.heap.size) hb ho S.below.size; clear ho hb k1 k2 k3 k4 k6 p0 p1 p2 p3 p4 p5 p6 p7; obtain ⟨⟨p0, p1, p2, p3⟩, p4, p5, p6, p7⟩ := box4 (S.at_blk 1 rfl); obtain ⟨k1, k2, k3, k4, k6⟩ := HF.out _ S.below))))
  have S2 := S.of (S.st.set (i := 1) rfl 3 (.slice A3 0 c3))
  replace S := Aside0.mk S2
  clear S2 k1 k2 k3 k4 k6 p0 p1 p2 p3 p4 p5 p6 p7
  go_loopg [22] (nk + 1) (fun kq v22 W => ∃ (i : Nat) (v : Value), v22 = .int .i64 (i : Int) ∧ Aside0 (i ≤ nk ∧ kq = nk - i + 1) ∧ Aside0 (Stt w (fun k => k < w.heap.size) [rowOf k24 24 w.heap.size v (ts.take i), blk g3 24 #[.int .i64 k.kind, .string k.text, .string k.trail, v], blk g2 24 #[.int .i64 0, .string (⟨#[]⟩ : ByteArray), .string (⟨#[]⟩ : ByteArray), .slice none 0 0]] [] W))
  case atStart => exact ⟨0, .slice A3 0 c3, rfl, ⟨Nat.zero_le _, rfl⟩, ⟨by rw [List.take_zero]; exact S.out⟩⟩
  case round =>
    clear S
    obtain ⟨i, v, rfl, hi, SW⟩ := hrel
    obtain ⟨fr, hfr, hR⟩ := SW.out.rowOf_at (i := 0) rfl
    obtain ⟨Av, cv, ev⟩ := Kd.R_slice hR
    rw [List.length_take, htl.out, Nat.min_eq_left hi.out.1] at ev
    subst ev
    clear hR
    by_cases hlt2 : i < nk
    · have hy := List.getElem?_eq_getElem (l := k.kids) (i := i) (by rw [HL.out]; exact hlt2)
      obtain ⟨y, hyy⟩ : ∃ y, k.kids[i]'(by rw [HL.out]; exact hlt2) = y := ⟨_, rfl⟩
      rw [hyy] at hy
      have hym := List.mem_of_getElem? hy
      obtain ⟨gk, rfl, hic, hkc⟩ := HK.out wr SW.out.below i y hy
      have i1 : decide ((i : Int) < (nk : Int)) = true := decide_eq_true (by omega)
      have i2 : decide ((0 : Int) ≤ (i : Int)) = true := decide_eq_true (by omega)
      have i3 : (0 : Int) ≤ (i : Int) := by omega
      have i4 : (i : Int) < (nk : Int) := by omega
      unfold pk at hkc
      obtain ⟨⟨p0, p1, p2, p3⟩, p4, p5, p6, p7⟩ := box4 (SW.out.at_blk 1 rfl)
      have hty : ts[i]? = some (treeK ks n y) := by rw [hts.out, List.getElem?_map, hy]; rfl
      have hT := Aside0.mk (⟨hlt2, hym, hty⟩ : _ ∧ _ ∧ _)
      have hHC := Aside0.mk (HC.out y hym)
      clear hlt2 hym hty hy hyy fr hfr
      obtain ⟨⟨t0, t1, t2, t3⟩, hty⟩ : ∃ t, treeK ks n y = t := ⟨_, rfl⟩
      rw [hty] at hT hHC
      clear hty
      dsimp only at hHC
      unfold pk at hHC
      go_wp2
      go_region_law
        (first
          | (refine goes_ (N := some 29) Try.func22 (by kernel_rfl) rfl #[.pointer (some ⟨ad y, 0, none⟩)] (by rfl) rfl rfl (by simp [Act.eval, Act.put]) ?_; refine (hHC.out _ (SW.out.drew).below).mono ?_; rintro e_ w5 ⟨vk, rfl, hRk, hb⟩; refine ⟨_, rfl, ?_⟩; obtain ⟨Ak, ck, ek⟩ := Kd.R_slice hRk; subst ek; have S5 := (SW.out.drew).rowOf_new (B := w.heap.size) hb hRk (SW.out.drew).below.size; obtain ⟨⟨q0, q1, q2, q3⟩, q4, q5, q6, q7⟩ := box4 (S5.at_blk 2 rfl); have nw1 : g3 < w5.heap.size := World.block_lt_of_cell? w5 _ q3; have q3a := (World.cell?_alloc_lt (w := w5) (.cells #[.int .i64 t0, .string t1, .string t2, .slice Ak t3.length ck] 24) ⟨g3, 3, none⟩ nw1).trans q3; replace S5 := Aside0.mk S5; clear hb hRk)
          | (obtain ⟨ok, okp, ho1, ho2, ho3, ho4, ho5⟩ := S5.out.rowOf_app; refine Kd.R_append_step k24 (w0 := w) w.heap.size (by rfl) (.tmp 27) (.tmp 30) 22 24 (.agg #[(.int .i64 0), (.string ⟨#[]⟩), (.string ⟨#[]⟩), (.slice none 0 0)]) 64 (by rfl) Try.underlying22 info24 rfl (by decide) (by omega) (.slice Av i cv) (ts.take i) (⟨t0, t1, t2, t3⟩ : S24) [.int .i64 t0, .string t1, .string t2, .slice Ak t3.length ck] ok okp (by simp [Act.eval, Act.put]) (by simp [Act.eval, Act.put]) (k24_mkM _ _ _ (⟨t0, t1, t2, t3⟩ : S24) ho4) ho1 ho2 ho3 S5.out.below S5.out.below.size (by have := hi.out.1; have := hnk6.out; rw [List.length_take]; omega) ?_; intro v6 w6 hR6 _ hg6 _; have S6 := ho5 v6 w6 _ hR6 hg6; obtain ⟨A6, c6, e6⟩ := Kd.R_slice hR6; rw [List.length_append, List.length_take, htl.out, Nat.min_eq_left hi.out.1] at e6; subst e6; obtain ⟨⟨r0, r1, r2, r3⟩, r4, r5, r6, r7⟩ := box4 (S6.at_blk 1 rfl); replace S6 := Aside0.mk S6; clear ho1 ho2 ho3 ho4 ho5 hR6 hg6))
      all_goals (
        have S7 := Aside0.mk (S6.out.of (S6.out.st.set (i := 1) rfl 3 (.slice A6 (i + 1) c6)))
        have hwi : wrap64 ((i : Int) + 1) = ((i + 1 : Nat) : Int) := by have := hi.out.1; have := hnk6.out; unfold wrap64; omega
        have HWI := Aside0.mk hwi
        clear hwi p0 p1 p2 p3 p4 p5 p6 p7
        go_wp2
        go_roundg (nk - i)
        case rel => exact ⟨i + 1, .slice A6 (i + 1) c6, by first | (rw [HWI.out]; done) | (simp [HWI.out]; done) | (simp; rw [HWI.out]; rfl), ⟨by have := hT.out.1; omega, by have := hT.out.1; omega⟩, ⟨by rw [List.take_add_one, hT.out.2.2]; exact S7.out⟩⟩
        case measure => have := hi.out; have := hT.out.1; omega)
    · have hik : i = nk := by have := hi.out.1; omega
      subst hik
      have i1 : decide ((i : Int) < (i : Int)) = false := decide_eq_false (by omega)
      obtain ⟨⟨p0, p1, p2, p3⟩, p4, p5, p6, p7⟩ := box4 (SW.out.at_blk 1 rfl)
      obtain ⟨⟨r0, r1, r2, r3⟩, r4, r5, r6, r7⟩ := box4 (SW.out.at_blk 2 rfl)
      have hn23 := Aside0.mk (blk_ne SW.out (i := 1) (j := 2) rfl rfl (by decide))
      have hn1 := hn23.out
      have hn2 := Ne.symm hn23.out
      clear hlt2 fr hfr
      go_wp2
      have S8 := SW.out.set4At 2 rfl (.int .i64 k.kind) (.string k.text) (.string k.trail) (.slice Av i cv)
      refine bodyPost_ret (results_cell_row rfl _ _ g2 24 #[.int .i64 k.kind, .string k.text, .string k.trail, .slice Av i cv] (0, 0) _ rfl (S8.at_blk 2 rfl) Try.underlying24 rfl (by kernel_rfl)) rfl ?_
      obtain ⟨f8, _, hR8⟩ := S8.rowOf_at (i := 0) rfl
      rw [← htl.out, List.take_length] at hR8
      exact ⟨_, rfl, by rw [htl.out] at hR8; exact Kd.R_mono hR8 (fun _ _ => trivial), S8.below⟩
/-- (*knot).node -/
theorem node_calls {w0 w : World} {Z : Nat → Prop} {pre X : List Asr} {F : List FA} {ad : Int → Nat} {g : List Hk} (S : Stt w0 Z (GL pre ad g X) F w) (I : Inv (kns g)) (hl : ∀ h ∈ g, h.k.kids.length ≤ 1000000) :
    ∃ n0, ∀ n, n0 ≤ n → ∀ (j : Nat) (h : Hk), g[j]? = some h → Calls Try.prog 22 #[pk ad h.k.id] w fun e w' => ∃ v3, e = .returned (.agg #[.int .i64 (treeK (kns g) n h.k.id).f0, .string (treeK (kns g) n h.k.id).f1, .string (treeK (kns g) n h.k.id).f2, v3]) ∧ Kd.R k24 24 w' w.heap.size (fun _ => True) v3 (treeK (kns g) n h.k.id).f3 ∧ Below w.heap.size w w' := by
  obtain ⟨d, hd⟩ := I.rank
  obtain ⟨M, hM⟩ : ∃ M, ∀ h ∈ g, d h.k.id ≤ M := by
    clear hd hl S I
    induction g with
    | nil => exact ⟨0, fun h hh => by cases hh⟩
    | cons x r ih =>
      obtain ⟨M, hM⟩ := ih
      refine ⟨max M (d x.k.id), fun h hh => ?_⟩
      rcases List.mem_cons.1 hh with e | hh
      · rw [e]; exact Nat.le_max_right _ _
      · exact Nat.le_trans (hM h hh) (Nat.le_max_left _ _)
  have key : ∀ (m n : Nat), m ≤ n → ∀ (j : Nat) (h : Hk), g[j]? = some h → M + 1 - d h.k.id ≤ m → ∀ W, Below w.heap.size w W → Stt w0 Z (GL pre ad g X) F W → Calls Try.prog 22 #[pk ad h.k.id] W fun e w' => ∃ v3, e = .returned (.agg #[.int .i64 (treeK (kns g) n h.k.id).f0, .string (treeK (kns g) n h.k.id).f1, .string (treeK (kns g) n h.k.id).f2, v3]) ∧ Kd.R k24 24 w' W.heap.size (fun _ => True) v3 (treeK (kns g) n h.k.id).f3 ∧ Below W.heap.size W w' := by
    intro m
    induction m with
    | zero =>
      intro n _ j h hj hm
      have := hM h (List.mem_of_getElem? hj)
      omega
    | succ m ih =>
      intro n hn j h hj hm W hW SW
      obtain ⟨n, rfl⟩ : ∃ n', n = n' + 1 := ⟨n - 1, by omega⟩
      have e : treeK (kns g) (n + 1) h.k.id = ⟨h.k.kind, h.k.text, h.k.trail, h.k.kids.map (treeK (kns g) n)⟩ := by
        rw [treeK, gAt_of I.nodup (kns_mem hj)]
      rw [e]
      refine node_walk h.k h.v n (kns g) (hl h (List.mem_of_getElem? hj)) (fun _ _ => trivial) (fun W' hW' => ?_) (fun y hy W' hW' => ?_)
      · have S' := SW.keep hW'
        exact ⟨kn_cells S' hj, kn_row S' hj⟩
      · have S' := SW.keep hW'
        obtain ⟨z, hz, e1, e2⟩ := I.kids h.k (kns_mem hj) y hy
        obtain ⟨jz, hz', f1, f2⟩ := kns_at hz
        have h3 := hd z hz _ e2
        have h4 := hM h (List.mem_of_getElem? hj)
        have := ih n (by omega) jz hz' f1 (by rw [f2]; omega) W' (hW.trans ⟨hW'.os, hW'.tape, hW'.output, hW'.size, fun k hk => hW'.block k (Nat.lt_of_lt_of_le hk hW.size)⟩) S'
        rw [f2, e1] at this
        exact this
  exact ⟨M + 1, fun n hn j h hj => key (M + 1) n hn j h hj (by omega) w (Below.refl _ _) S⟩
end Go.Proofs.Ytfmlpkeaiohknaa.Q
/-! shape.Of, called: the plan's rows are kept from then on. -/
set_option linter.unusedVariables false
set_option linter.unusedSimpArgs false
namespace Go.Proofs.Ytfmlpkeaiohknaa.Q
open Go Go.RowKit Go.Lib Go.Sort Go.Proofs.YtfmlpkeaiohknaaW.PrintWords Go.Proofs.YtfmlpkeaiohknaaW.PrintLast Go.Proofs.YtfmlpkeaiohknaaW.PrintMore Go.Proofs.YtfmlpkeaiohknaaW.SL
/-- Where the rows of a plan lie. -/
structure A8 where
  an : Option Addr
  cn : Nat
  ap : Option Addr
  cp : Nat
  az : Option Addr
  cz : Nat
  ak : Option Addr
  ck : Nat
def A8.u (q : A8) (s : PS) : Array Value := #[.slice q.an s.N.length q.cn, .slice q.ap s.P.length q.cp, .slice q.az s.Z.length q.cz, .slice q.ak s.K.length q.ck]
def A8.F (q : A8) (s : PS) : List FA := [rdV k24 q.an q.cn s.N, rdV (Kd.int .i64) q.ap q.cp s.P, rdV (Kd.int .i64) q.az q.cz s.Z, rdV (Kd.slice 3 (Kd.int .i64)) q.ak q.ck s.K]
def nodeV (x : S24) (A : Option Addr) (c : Nat) : Value := .agg #[.int .i64 x.f0, .string x.f1, .string x.f2, .slice A x.f3.length c]
theorem of_calls {w0 w : World} {Z : Nat → Prop} {l : List Asr} {F : List FA} (S : Stt w0 Z l F w) (x : S24) {A : Option Addr} {c : Nat} (hx : nsz x ≤ 1000000) (hr : Kd.C k24 w A x.f3.length x.f3) (hc : x.f3.length ≤ c) :
    Calls Try.prog 27 #[nodeV x A c] w fun e w' => ∃ q : A8, e = .returned (.agg (q.u (ofP x))) ∧ Below w.heap.size w w' ∧ Stt w0 (fun k => Z k ∨ (w.heap.size ≤ k ∧ k < w'.heap.size)) l (q.F (ofP x) ++ F) w' := by
  have h : shape_Of.f x.f0 x.f1 x.f2 x.f3 = some ((ofP x).N, (ofP x).P, (ofP x).Z, (ofP x).K) := by
    unfold shape_Of.f
    cases x
    exact if_pos (by simpa only using hx)
  refine (shape_Of.calls x.f0 x.f1 x.f2 A c x.f3 _ _ _ _ w hr hc h).mono ?_
  rintro e w' ⟨v0, v1, v2, v3, rfl, h0, h1, h2, h3, hb⟩
  obtain ⟨an, cn, rfl, f0⟩ := rd_N h0 (fun k hk => hk.1)
  obtain ⟨ap, cp, rfl, f1⟩ := rd_R h1
  obtain ⟨az, cz, rfl, f2⟩ := rd_R h2
  obtain ⟨ak, ck, rfl, f3⟩ := rd_S h3
  refine ⟨⟨an, cn, ap, cp, az, cz, ak, ck⟩, rfl, hb, S.call hb ?_⟩
  intro a ha
  unfold A8.F at ha
  simp only [List.mem_cons, List.not_mem_nil, or_false] at ha
  rcases ha with rfl | rfl | rfl | rfl
  · exact f0
  · exact f1
  · exact f2
  · exact f3
/-- The grove of a plan's first places. -/
def groveP (N : List S24) (P : List Int) : Nat → List Kn
  | 0 => []
  | i + 1 =>
    let n := N.getD i z24
    if i = 0 then groveP N P i ++ [⟨(i : Int), n.f0, n.f1, n.f2, none, []⟩]
    else updK (groveP N P i) (P.getD i 0) (fun k => k.wKids (k.kids ++ [(i : Int)])) ++ [⟨(i : Int), n.f0, n.f1, n.f2, some (P.getD i 0), []⟩]
theorem groveP_ids (N : List S24) (P : List Int) : ∀ i, (groveP N P i).map (·.id) = (List.range i).map (fun j : Nat => (j : Int))
  | 0 => rfl
  | i + 1 => by
    have ih := groveP_ids N P i
    rw [groveP, List.range_succ, List.map_append, ← ih]
    split
    · rw [List.map_append]; rfl
    · rw [List.map_append, updK_ids (f := fun k => k.wKids (k.kids ++ [(i : Int)])) (fun _ => rfl)]; rfl
theorem mem_groveP {N : List S24} {P : List Int} {i : Nat} {y : Int} : y ∈ (groveP N P i).map (·.id) ↔ 0 ≤ y ∧ y < (i : Int) := by
  rw [groveP_ids, List.mem_map]
  constructor
  · rintro ⟨j, hj, rfl⟩
    have := List.mem_range.1 hj
    omega
  · rintro ⟨h1, h2⟩
    exact ⟨y.toNat, List.mem_range.2 (by omega), by omega⟩
theorem in64_nat {i : Nat} (h : i ≤ 1000000) : in64 (i : Int) := by unfold in64; omega
theorem groveP_inv {N : List S24} {P : List Int} {n : Nat} (hn : n ≤ 1000000) (hP : ∀ j, 0 < j → j < n → 0 ≤ P.getD j 0 ∧ P.getD j 0 < (j : Int)) : ∀ i, 0 < i → i ≤ n → Inv (groveP N P i)
  | 0, h, _ => absurd h (by decide)
  | 1, _, _ => by
    have e : groveP N P 1 = [⟨((0 : Nat) : Int), (N.getD 0 z24).f0, (N.getD 0 z24).f1, (N.getD 0 z24).f2, none, []⟩] := rfl
    rw [e]
    refine ⟨by simp, ?_, ?_, ?_, ⟨fun _ => 0, ?_⟩, ?_, ?_⟩
    · intro k hk i hi; rw [List.mem_singleton.1 hk] at hi; cases hi
    · intro k hk p hp; rw [List.mem_singleton.1 hk] at hp; cases hp
    · intro k hk; rw [List.mem_singleton.1 hk]; exact List.nodup_nil
    · intro k hk p hp; rw [List.mem_singleton.1 hk] at hp; cases hp
    · intro k hk; rw [List.mem_singleton.1 hk]; simp
    · intro k hk; rw [List.mem_singleton.1 hk]; exact ⟨Int.le_refl _, by unfold in64; simp⟩
  | i + 2, _, h2 => by
    have ih := groveP_inv (N := N) hn hP (i + 1) (Nat.succ_pos _) (by omega)
    obtain ⟨p1, p2⟩ := hP (i + 1) (by omega) (by omega)
    rw [groveP]
    rw [if_neg (by omega)]
    obtain ⟨pk, hpk⟩ : ∃ pk, gAt (groveP N P (i + 1)) (P.getD (i + 1) 0) = some pk := by
      cases h : gAt (groveP N P (i + 1)) (P.getD (i + 1) 0) with
      | some k => exact ⟨k, rfl⟩
      | none => exact absurd (mem_groveP.2 ⟨p1, p2⟩) (gAt_none.1 h)
    exact addK_inv (x := ⟨1, ((i + 1 : Nat) : Int), P.getD (i + 1) 0, 0, (N.getD (i + 1) z24).f0, (N.getD (i + 1) z24).f1, (N.getD (i + 1) z24).f2⟩) (f := fun k => k.wKids (k.kids ++ [((i + 1 : Nat) : Int)])) (fun _ => rfl) (fun _ => rfl) (fun k y => by show y ∈ k.kids ++ [_] ↔ _; simp [or_comm]) (fun k h3 h4 => by
      show (k.kids ++ [_]).Nodup
      rw [List.nodup_append]
      exact ⟨h3, by simp, fun a ha b hb => by rw [List.mem_singleton.1 hb]; intro e; exact h4 (e ▸ ha)⟩) ih (gAt_none.2 (fun h => Int.lt_irrefl _ (mem_groveP.1 h).2)) (by show (0 : Int) ≤ ((i + 1 : Nat) : Int); omega) (in64_nat (by omega)) hpk
theorem kn_push {w0 w : World} {Z : Nat → Prop} {pre X : List Asr} {F : List FA} {ad : Int → Nat} {g : List Hk} {a : Nat} (id ki : Int) (tx tr : ByteArray) (S : Stt w0 Z (blk a 80 #[.int .i64 id, .int .i64 ki, .string tx, .string tr, .slice none 0 0, .pointer none, .slice none 0 0] :: GL pre ad g X) F w)
    (hn : ∀ x ∈ g, x.k.id ≠ id ∧ (∀ p, x.k.par = some p → p ≠ id) ∧ ∀ i ∈ x.k.kids, i ≠ id) :
    Stt w0 Z (GL pre (adPut ad id a) (g ++ [hkNew id ki tx tr]) X) F w := by
  have S2 := S.with (S.st.row_nil 58 1)
  have e : gvA (adPut ad id a) g = gvA ad g := gvA_ad (fun x hx => ⟨adPut_old _ _ (hn x hx).1, fun p hp => adPut_old _ _ ((hn x hx).2.1 p hp), fun i hi => adPut_old _ _ ((hn x hx).2.2 i hi)⟩)
  refine S2.perm ?_
  unfold GL
  rw [gvA_app, e]
  have e2 : gvA (adPut ad id a) [hkNew id ki tx tr] = [blk a 80 #[.int .i64 id, .int .i64 ki, .string tx, .string tr, .slice none 0 0, .pointer none, .slice none 0 0], row (.slice none 0 0) 58 1 0 []] := by
    show hkA _ _ ++ [] = _
    unfold hkA knB knR hkNew
    simp only [adPut_new]
    rfl
  rw [e2]
  refine (List.Perm.swap _ _ _).trans ?_
  have h1 : ∀ (a b : Asr) (l1 l2 l3 : List Asr), (a :: b :: (l1 ++ (l2 ++ l3))).Perm (l1 ++ ((l2 ++ [a, b]) ++ l3)) := fun a b l1 l2 l3 => by
    rw [List.append_assoc]
    refine List.Perm.trans (l₂ := l1 ++ (a :: b :: (l2 ++ l3))) ?_ (List.Perm.append_left _ ?_)
    · exact (List.perm_append_comm (l₁ := [a, b]) (l₂ := l1)).append_right (l2 ++ l3) |>.trans (by simp)  |> fun h => by simpa using h
    · exact (by simpa using (List.perm_append_comm (l₁ := [a, b]) (l₂ := l2)).append_right l3)
  exact h1 _ _ _ _ _
theorem wpl_mapput {P : Program} {ops : Array Oper} {o : Oper} {rest : List Oper} {a : Act} {Q : Exit → Act → World → Prop} {w : World} (hg : o.guard = none) (t : TypeId) (m k x : Operand) (hop : o.op = Op.mapUpdate t m k x)
    (vm vk vx : Value) (hm : a.eval m = vm) (hk : a.eval k = vk) (hx : a.eval x = vx) {w' : World} (hr : (Instr.mapUpdate t vm vk vx).run P w = .ok () w') (h : wpList P ops Q rest (a.put o.dst (.tuple #[])) w') : wpList P ops Q (o :: rest) a w :=
  wpl hg (fun K hK => step_mapput_run hg t m k x hop vm vk vx hm hk hx hr (hK _ _ h))
end Go.Proofs.Ytfmlpkeaiohknaa.Q
/-! A grove beside other blocks: what is done to these leaves it as it is. -/
set_option linter.unusedVariables false
set_option linter.unusedSimpArgs false
namespace Go.Proofs.Ytfmlpkeaiohknaa.Q
open Go Go.RowKit Go.Lib Go.Sort Go.Proofs.YtfmlpkeaiohknaaW.PrintWords Go.Proofs.YtfmlpkeaiohknaaW.SL
section
variable {w0 w w' : World} {Z Z' : Nat → Prop} {F F' : List FA} {gb bm N N' : Nat} {pre X X' : List Asr} {ad : Int → Nat} {ks : List Kn}
theorem Grove.onX (H : Grove w0 Z F gb bm pre X N ad ks w) (h : ∀ L, Stt w0 Z (L ++ X) F w → Stt w0 Z' (L ++ X') F' w') : Grove w0 Z' F' gb bm pre X' N ad ks w' := by
  obtain ⟨g, ids, m, e, hm, hi, S⟩ := H
  refine ⟨g, ids, m, e, hm, hi, ?_⟩
  unfold GL at S ⊢
  rw [← List.append_assoc] at S ⊢
  exact h _ S
theorem Grove.getX {P : Prop} (H : Grove w0 Z F gb bm pre X N ad ks w) (h : ∀ L, Stt w0 Z (L ++ X) F w → P) : P := by
  obtain ⟨g, ids, m, e, hm, hi, S⟩ := H
  unfold GL at S
  rw [← List.append_assoc] at S
  exact h _ S
theorem Grove.keep (H : Grove w0 Z F gb bm pre X N ad ks w) (hb : Below w.heap.size w w') : Grove w0 Z F gb bm pre X N ad ks w' := H.onX fun L S => S.keep hb
theorem Grove.drew (H : Grove w0 Z F gb bm pre X N ad ks w) : Grove w0 Z F gb bm pre X N ad ks w.drew := H.keep ⟨rfl, rfl, rfl, Nat.le_refl _, fun _ _ => rfl⟩
theorem Grove.up (H : Grove w0 Z F gb bm pre X N ad ks w) (h : N ≤ N') : Grove w0 Z F gb bm pre X N' ad ks w := by
  obtain ⟨g, ids, m, e, hm, hi, S⟩ := H
  exact ⟨g, ids, m, e, Nat.le_trans hm h, hi, S⟩
theorem Grove.below (H : Grove w0 Z F gb bm pre X N ad ks w) : Below w0.heap.size w0 w := H.getX fun L S => S.below
theorem perm_in (L X : List Asr) (a : Asr) : (a :: (L ++ X)).Perm (L ++ a :: X) := (List.perm_middle (l₁ := L)).symm
theorem Grove.box {g t : Nat} {cs : Array Value} (H : Grove w0 Z F gb bm pre X N ad ks w) (hg : g = w.heap.size) (hx : w'.heap[g]? = some (.cells cs t (0, 0))) (hb : Below w.heap.size w w') : Grove w0 Z F gb bm pre (blk g t cs :: X) N ad ks w' :=
  H.onX fun L S => (S.box hg hx hb).perm (perm_in L X _)
theorem Grove.add {a : Asr} (H : Grove w0 Z F gb bm pre X N ad ks w) (h : ∀ L, Stt w0 Z L F w → Stt w0 Z (a :: L) F w') : Grove w0 Z F gb bm pre (a :: X) N ad ks w' :=
  H.onX fun L S => (h _ S).perm (perm_in L X _)
theorem Grove.drop {a : Asr} (H : Grove w0 Z F gb bm pre (a :: X) N ad ks w) : Grove w0 Z F gb bm pre X N ad ks w :=
  H.onX fun L S => (S.perm (perm_in L X a).symm).drop
theorem Grove.permX (H : Grove w0 Z F gb bm pre X N ad ks w) (h : X.Perm X') : Grove w0 Z F gb bm pre X' N ad ks w := H.onX fun L S => S.perm (List.Perm.append_left L h)
theorem Grove.blkAt {k g t : Nat} {cs : Array Value} (H : Grove w0 Z F gb bm pre X N ad ks w) (h : X[k]? = some (blk g t cs)) : w.heap[g]? = some (.cells cs t (0, 0)) :=
  H.getX fun L S => S.at_blk (L.length + k) (by rw [List.getElem?_append_right (by omega), Nat.add_sub_cancel_left]; exact h)
theorem Grove.rowAt {k e size n : Nat} {v : Value} {xs : List Value} (H : Grove w0 Z F gb bm pre X N ad ks w) (h : X[k]? = some (row v e size n xs)) : w.ownsRow 0 e size v n xs :=
  H.getX fun L S => S.rowAt (L.length + k) (by rw [List.getElem?_append_right (by omega), Nat.add_sub_cancel_left]; exact h)
theorem Grove.setAt {k g t : Nat} {cs : Array Value} (H : Grove w0 Z F gb bm pre X N ad ks w) (h : X[k]? = some (blk g t cs)) (o : Nat) (u : Value) : Grove w0 Z F gb bm pre (X.set k (blk g t (cs.setIfInBounds o u))) N ad ks (w.setCell ⟨g, o, none⟩ u) :=
  H.onX fun L S => by
    have h2 : (L ++ X)[L.length + k]? = some (blk g t cs) := by rw [List.getElem?_append_right (by omega), Nat.add_sub_cancel_left]; exact h
    have := S.of (S.st.set h2 o u)
    rwa [List.set_append_right _ _ (by omega), Nat.add_sub_cancel_left] at this
theorem Grove.facts (H : Grove w0 Z F gb bm pre X N ad ks w) {P : Prop} (h : ∀ L, Stt w0 Z L F w → P) : P := H.getX fun L S => h _ S
/-- The grove's own block. -/
theorem Grove.gbCell (H : Grove w0 Z F gb bm pre X N ad ks w) : w.cell? ⟨gb, 0, none⟩ = some (.map (some bm)) := by
  obtain ⟨g, ids, m, e, hm, hi, S⟩ := H
  exact (blk_cell (S.at_blk 0 rfl) 0).trans rfl
/-- A name's knot, looked up. -/
theorem Grove.at_ (H : Grove w0 Z F gb bm pre X N ad ks w) {x : Int} (hx : in64 x) (h : x ∈ ks.map (·.id)) : (Instr.lookup 59 (.map (some bm)) (.int .i64 x) false).run Try.prog w = .ok (.pointer (some ⟨ad x, 0, none⟩)) w := by
  obtain ⟨g, ids, m, e, hm, hi, S⟩ := H
  have h1 := map_at S 1 rfl hx
  rw [if_pos ((hi x).2 h)] at h1
  exact h1
/-- (*knot).place -/
theorem Grove.placeC (H : Grove w0 Z F gb bm pre X N ad ks w) (I : Inv ks) {k : Kn} (hk : k ∈ ks) (i : Int) : Calls Try.prog 29 #[pk ad k.id, .int .i64 i] w fun e w' => e = .returned (.int .i64 (placeOf k.kids i)) ∧ Below w.heap.size w w' := by
  obtain ⟨g, ids, m, rfl, hm, hi, S⟩ := H
  obtain ⟨j, h, e1, rfl⟩ := kns_at hk
  exact place_calls ad h.k h.v i _ (kn_blk S e1) (kn_row S e1) (fun y hy => by
    obtain ⟨z, hz, f1, _⟩ := I.kids h.k hk y hy
    obtain ⟨jz, hz', g1, g2⟩ := kns_at hz
    rw [← f1, ← g2, blk_cell (kn_blk S g1) 0]; rfl)
/-- (*knot).node -/
theorem Grove.nodeC (H : Grove w0 Z F gb bm pre X N ad ks w) (I : Inv ks) (hl : ks.length ≤ 1000000) : ∃ n0, ∀ n, n0 ≤ n → ∀ k ∈ ks, Calls Try.prog 22 #[pk ad k.id] w fun e w' => ∃ v3, e = .returned (.agg #[.int .i64 (treeK ks n k.id).f0, .string (treeK ks n k.id).f1, .string (treeK ks n k.id).f2, v3]) ∧ Kd.R k24 24 w' w.heap.size (fun _ => True) v3 (treeK ks n k.id).f3 ∧ Below w.heap.size w w' := by
  obtain ⟨g, ids, m, rfl, hm, hi, S⟩ := H
  obtain ⟨n0, h0⟩ := node_calls S I (fun h hh => Nat.le_trans (I.kids_len (List.mem_map.2 ⟨h, hh, rfl⟩)) hl)
  refine ⟨n0, fun n hn k hk => ?_⟩
  obtain ⟨j, h, e1, rfl⟩ := kns_at hk
  exact h0 n hn j h e1
end
theorem treeK_stable {ks : List Kn} (I : Inv ks) : ∃ n0, ∀ n m, n0 ≤ n → n0 ≤ m → ∀ k ∈ ks, treeK ks n k.id = treeK ks m k.id := by
  obtain ⟨d, hd⟩ := I.rank
  obtain ⟨M, hM⟩ : ∃ M, ∀ h ∈ ks, d h.id ≤ M := by
    clear hd I
    induction ks with
    | nil => exact ⟨0, fun h hh => by cases hh⟩
    | cons x r ih =>
      obtain ⟨M, hM⟩ := ih
      refine ⟨max M (d x.id), fun h hh => ?_⟩
      rcases List.mem_cons.1 hh with e | hh
      · rw [e]; exact Nat.le_max_right _ _
      · exact Nat.le_trans (hM h hh) (Nat.le_max_left _ _)
  have key : ∀ n m k, k ∈ ks → M + 1 - d k.id ≤ n → M + 1 - d k.id ≤ m → treeK ks n k.id = treeK ks m k.id := by
    intro n
    induction n with
    | zero => intro m k hk h1 _; have := hM k hk; omega
    | succ n ih =>
      intro m k hk h1 h2
      obtain ⟨m, rfl⟩ : ∃ m', m = m' + 1 := ⟨m - 1, by have := hM k hk; omega⟩
      rw [treeK, treeK, gAt_of I.nodup hk]
      dsimp only
      congr 1
      apply List.map_congr_left
      intro y hy
      obtain ⟨z, hz, e1, e2⟩ := I.kids k hk y hy
      have h3 := hd z hz _ e2
      have h4 := hM k hk
      rw [← e1]
      exact ih m z hz (by omega) (by omega)
  exact ⟨M + 1, fun n m h1 h2 k hk => key n m k hk (by omega) (by omega)⟩
noncomputable def stableN (ks : List Kn) : Nat := Classical.epsilon fun n0 => ∀ n m, n0 ≤ n → n0 ≤ m → ∀ k ∈ ks, treeK ks n k.id = treeK ks m k.id
theorem stableN_spec {ks : List Kn} (I : Inv ks) : ∀ n m, stableN ks ≤ n → stableN ks ≤ m → ∀ k ∈ ks, treeK ks n k.id = treeK ks m k.id := Classical.epsilon_spec (treeK_stable I)
/-- The tree from a name on. -/
noncomputable def treeOf (ks : List Kn) (i : Int) : S24 := treeK ks (stableN ks) i
theorem treeOf_eq {ks : List Kn} (I : Inv ks) {k : Kn} (hk : k ∈ ks) : treeOf ks k.id = ⟨k.kind, k.text, k.trail, k.kids.map (treeOf ks)⟩ := by
  have h1 := stableN_spec I (stableN ks) (stableN ks + 1) (Nat.le_refl _) (Nat.le_succ _) k hk
  unfold treeOf
  rw [h1, treeK, gAt_of I.nodup hk]
theorem Grove.nodeT {w0 w : World} {Z : Nat → Prop} {F : List FA} {gb bm N : Nat} {pre X : List Asr} {ad : Int → Nat} {ks : List Kn} (H : Grove w0 Z F gb bm pre X N ad ks w) (I : Inv ks) (hl : ks.length ≤ 1000000) {k : Kn} (hk : k ∈ ks) : Calls Try.prog 22 #[pk ad k.id] w fun e w' => ∃ v3, e = .returned (.agg #[.int .i64 (treeOf ks k.id).f0, .string (treeOf ks k.id).f1, .string (treeOf ks k.id).f2, v3]) ∧ Kd.R k24 24 w' w.heap.size (fun _ => True) v3 (treeOf ks k.id).f3 ∧ Below w.heap.size w w' := by
  obtain ⟨n0, h0⟩ := H.nodeC I hl
  have h1 := h0 (max n0 (stableN ks)) (Nat.le_max_left _ _) k hk
  rw [stableN_spec I (max n0 (stableN ks)) (stableN ks) (Nat.le_max_right _ _) (Nat.le_refl _) k hk] at h1
  exact h1
theorem Grove.set4X {w0 w : World} {Z : Nat → Prop} {F : List FA} {gb bm N g t : Nat} {pre X : List Asr} {ad : Int → Nat} {ks : List Kn} {c0 c1 c2 c3 : Value} (H : Grove w0 Z F gb bm pre X N ad ks w) (k : Nat) (hk : X[k]? = some (blk g t #[c0, c1, c2, c3])) (u0 u1 u2 u3 : Value) :
    Grove w0 Z F gb bm pre (X.set k (blk g t #[u0, u1, u2, u3])) N ad ks ((((w.setCell ⟨g, 0, none⟩ u0).setCell ⟨g, 1, none⟩ u1).setCell ⟨g, 2, none⟩ u2).setCell ⟨g, 3, none⟩ u3) := by
  have hl := (List.getElem?_eq_some_iff.1 hk).1
  have H1 := H.setAt hk 0 u0
  have H2 := H1.setAt (k := k) (List.getElem?_set_self hl) 1 u1
  have H3 := H2.setAt (k := k) (List.getElem?_set_self (by simpa using hl)) 2 u2
  have H4 := H3.setAt (k := k) (List.getElem?_set_self (by simpa using hl)) 3 u3
  simp only [List.set_set] at H4
  exact H4
theorem Grove.set7 {w0 w : World} {Z : Nat → Prop} {F : List FA} {gb bm N g t : Nat} {pre X : List Asr} {ad : Int → Nat} {ks : List Kn} {c0 c1 c2 c3 c4 c5 c6 : Value} (H : Grove w0 Z F gb bm pre (blk g t #[c0, c1, c2, c3, c4, c5, c6] :: X) N ad ks w) (u0 u1 u2 u3 u4 u5 u6 : Value) :
    Grove w0 Z F gb bm pre (blk g t #[u0, u1, u2, u3, u4, u5, u6] :: X) N ad ks (((((((w.setCell ⟨g, 0, none⟩ u0).setCell ⟨g, 1, none⟩ u1).setCell ⟨g, 2, none⟩ u2).setCell ⟨g, 3, none⟩ u3).setCell ⟨g, 4, none⟩ u4).setCell ⟨g, 5, none⟩ u5).setCell ⟨g, 6, none⟩ u6) :=
  by
  have H1 : Grove w0 Z F gb bm pre (blk g t #[u0, c1, c2, c3, c4, c5, c6] :: X) N ad ks (w.setCell ⟨g, 0, none⟩ u0) := H.setAt (k := 0) rfl 0 u0
  have H2 : Grove w0 Z F gb bm pre (blk g t #[u0, u1, c2, c3, c4, c5, c6] :: X) N ad ks ((w.setCell ⟨g, 0, none⟩ u0).setCell ⟨g, 1, none⟩ u1) := H1.setAt (k := 0) rfl 1 u1
  have H3 : Grove w0 Z F gb bm pre (blk g t #[u0, u1, u2, c3, c4, c5, c6] :: X) N ad ks (((w.setCell ⟨g, 0, none⟩ u0).setCell ⟨g, 1, none⟩ u1).setCell ⟨g, 2, none⟩ u2) := H2.setAt (k := 0) rfl 2 u2
  have H4 : Grove w0 Z F gb bm pre (blk g t #[u0, u1, u2, u3, c4, c5, c6] :: X) N ad ks ((((w.setCell ⟨g, 0, none⟩ u0).setCell ⟨g, 1, none⟩ u1).setCell ⟨g, 2, none⟩ u2).setCell ⟨g, 3, none⟩ u3) := H3.setAt (k := 0) rfl 3 u3
  have H5 : Grove w0 Z F gb bm pre (blk g t #[u0, u1, u2, u3, u4, c5, c6] :: X) N ad ks (((((w.setCell ⟨g, 0, none⟩ u0).setCell ⟨g, 1, none⟩ u1).setCell ⟨g, 2, none⟩ u2).setCell ⟨g, 3, none⟩ u3).setCell ⟨g, 4, none⟩ u4) := H4.setAt (k := 0) rfl 4 u4
  have H6 : Grove w0 Z F gb bm pre (blk g t #[u0, u1, u2, u3, u4, u5, c6] :: X) N ad ks ((((((w.setCell ⟨g, 0, none⟩ u0).setCell ⟨g, 1, none⟩ u1).setCell ⟨g, 2, none⟩ u2).setCell ⟨g, 3, none⟩ u3).setCell ⟨g, 4, none⟩ u4).setCell ⟨g, 5, none⟩ u5) := H5.setAt (k := 0) rfl 5 u5
  have H7 : Grove w0 Z F gb bm pre (blk g t #[u0, u1, u2, u3, u4, u5, u6] :: X) N ad ks (((((((w.setCell ⟨g, 0, none⟩ u0).setCell ⟨g, 1, none⟩ u1).setCell ⟨g, 2, none⟩ u2).setCell ⟨g, 3, none⟩ u3).setCell ⟨g, 4, none⟩ u4).setCell ⟨g, 5, none⟩ u5).setCell ⟨g, 6, none⟩ u6) := H6.setAt (k := 0) rfl 6 u6
  exact H7
theorem box7 {w : World} {g t : Nat} {c0 c1 c2 c3 c4 c5 c6 : Value} (h : w.heap[g]? = some (.cells #[c0, c1, c2, c3, c4, c5, c6] t (0, 0))) :
    (w.cell? ⟨g, 0, none⟩ = some c0 ∧ w.cell? ⟨g, 1, none⟩ = some c1 ∧ w.cell? ⟨g, 2, none⟩ = some c2 ∧ w.cell? ⟨g, 3, none⟩ = some c3 ∧ w.cell? ⟨g, 4, none⟩ = some c4 ∧ w.cell? ⟨g, 5, none⟩ = some c5 ∧ w.cell? ⟨g, 6, none⟩ = some c6) ∧
    w.frozen? ⟨g, 0, none⟩ = false ∧ w.frozen? ⟨g, 1, none⟩ = false ∧ w.frozen? ⟨g, 2, none⟩ = false ∧ w.frozen? ⟨g, 3, none⟩ = false ∧ w.frozen? ⟨g, 4, none⟩ = false ∧ w.frozen? ⟨g, 5, none⟩ = false ∧ w.frozen? ⟨g, 6, none⟩ = false :=
  ⟨⟨(blk_cell h 0).trans rfl, (blk_cell h 1).trans rfl, (blk_cell h 2).trans rfl, (blk_cell h 3).trans rfl, (blk_cell h 4).trans rfl, (blk_cell h 5).trans rfl, (blk_cell h 6).trans rfl⟩, blk_frozen h 0, blk_frozen h 1, blk_frozen h 2, blk_frozen h 3, blk_frozen h 4, blk_frozen h 5, blk_frozen h 6⟩
def edOf (x : S54) : Ed := ⟨x.f0, x.f1, x.f2, x.f3, x.f4, x.f5, x.f6⟩
/-- Edits, one by one, from the i-th on: the first that can't be done, or the grove behind them. -/
noncomputable def runK : List Kn → List S54 → Nat → (Nat ⊕ List Kn)
  | ks, [], _ => .inr ks
  | ks, x :: r, i => match doK ks (edOf x) with
    | none => .inl i
    | some ks' => runK ks' r (i + 1)
end Go.Proofs.Ytfmlpkeaiohknaa.Q
/-! Sets of whole numbers (map[int]bool), in the blocks' logic; a set that is gone through. -/
set_option linter.unusedVariables false
set_option linter.unusedSimpArgs false
namespace Go.Proofs.Ytfmlpkeaiohknaa.Q
open Go Go.RowKit Go.Proofs.YtfmlpkeaiohknaaW.PrintWords Go.Proofs.YtfmlpkeaiohknaaW.SL Go.Maps
def bE : Value → Option (DataW Unit × List MemPlace)
  | .bool b => some (.lit (.bool b), [])
  | _ => none
theorem bE_at {v : Value} {ps : List MemPlace} {b : Bool} (h : bE v = some (.lit (.bool b), ps)) : v = .bool b := by
  unfold bE at h
  split at h
  · injection h with h; injection h with h _; injection h with h; injection h with h; rw [h]
  · cases h
structure SetD (D : DataW Unit) (K : Int → Bool) : Prop where
  tidy : Tidy D
  has : ∀ i, Maps.has D (LI i) = K i
  at_ : ∀ i, K i = true → D.atKey (LI i) (.lit (.bool false)) = .lit (.bool true)
theorem SetD.nil : SetD (.map []) (fun _ => false) := ⟨tidy_empty, fun i => by simp [Maps.has], fun i h => by cases h⟩
theorem SetD.put {D : DataW Unit} {K : Int → Bool} (h : SetD D K) (x : Int) : SetD (D.put (LI x) (.lit (.bool true))) (fun i => K i || decide (i = x)) := by
  refine ⟨h.tidy.put (isKeyI x) _, fun i => ?_, fun i hi => ?_⟩
  · by_cases hix : i = x
    · subst hix; rw [has_put_same h.tidy.isMap (isKeyI i)]; simp
    · rw [has_put_other (fun e => hix (by injection e)), h.has]; simp [hix]
  · by_cases hix : i = x
    · subst hix; rw [atKey_put_same h.tidy.isMap (isKeyI i)]
    · rw [atKey_put_other (fun e => hix (by injection e))]
      exact h.at_ i (by simpa [hix] using hi)
/-- Block b is a set. -/
def mpS (b m : Nat) (K : Int → Bool) : Asr :=
  ⟨fun w f => (∀ j, f j ↔ j = b) ∧ ∃ D, w.ownsMap Try.prog 3 bE b m D ∧ SetD D K,
   fun h hs => ⟨h.1, by obtain ⟨D, ⟨es, clock, hb, r⟩, q⟩ := h.2; exact ⟨D, ⟨es, clock, (hs _ ((h.1 _).2 rfl)).trans hb, r⟩, q⟩⟩,
   fun h j hj => by rw [(h.1 j).1 hj]; obtain ⟨D, hm, _⟩ := h.2; exact hm.lt⟩
/-- Block b is a set that is gone through; block r says what is still to come: those of left. -/
def rgS (b r m : Nat) (K left : Int → Bool) (cnt : Nat) : Asr :=
  ⟨fun w f => (∀ j, f j ↔ (j = b ∨ j = r)) ∧ ∃ D lf, w.ranges Try.prog 3 bE b r m D lf cnt ∧ SetD D K ∧ ∀ i, lf (LI i) = left i,
   fun h hs => ⟨h.1, by obtain ⟨D, lf, ⟨es, clock, since, seen, c0, hb, F, hm, hD, hr, rest⟩, q⟩ := h.2; exact ⟨D, lf, ⟨es, clock, since, seen, c0, (hs _ ((h.1 _).2 (.inl rfl))).trans hb, F, hm, hD, (hs _ ((h.1 _).2 (.inr rfl))).trans hr, rest⟩, q⟩⟩,
   fun h j hj => by obtain ⟨D, lf, hm, _⟩ := h.2; rcases (h.1 j).1 hj with e | e; rw [e]; exact hm.owns.lt; rw [e]; exact hm.lt⟩
section
variable {w0 w w' : World} {Z : Nat → Prop} {L : List Asr} {F : List FA} {i b m r cnt : Nat} {K left : Int → Bool}
theorem set_at (S : Stt w0 Z L F w) (hi : L[i]? = some (mpS b m K)) : ∃ D, w.ownsMap Try.prog 3 bE b m D ∧ SetD D K := by
  obtain ⟨f, hf, _⟩ := S.st.hs
  obtain ⟨fa, ha, _⟩ := hf.at hi
  exact ha.2
theorem false0 (w : World) : (zeroValue 4).run Try.prog w = .ok (.bool false) w := by
  simp
theorem set_get (S : Stt w0 Z L F w) (i : Nat) (hi : L[i]? = some (mpS b m K)) {x : Int} (hx : in64 x) : (Instr.lookup 74 (.map (some b)) (.int .i64 x) false).run Try.prog w = .ok (.bool (K x)) w := by
  obtain ⟨D, hm, hN⟩ := set_at S hi
  obtain ⟨v, ps, hr, hv⟩ := hm.lookup keyed3 Try.underlying74 (false0 w) (zd := .lit (.bool false)) (zp := []) rfl (keyI hx)
  rw [hr]
  cases h : K x with
  | true => rw [hN.at_ x h] at hv; rw [bE_at hv]
  | false =>
    have hn : Maps.has D (LI x) = false := by rw [hN.has, h]
    rw [atKey_of_not_has hn] at hv
    rw [bE_at hv]
theorem set_put (S : Stt w0 Z L F w) (i : Nat) (hi : L[i]? = some (mpS b m K)) {x : Int} (hx : in64 x) (hm2 : m < maxLen) :
    ∃ w', (Instr.mapUpdate 74 (.map (some b)) (.int .i64 x) (.bool true)).run Try.prog w = .ok () w' ∧ Stt w0 Z (L.set i (mpS b (m + 1) (fun j => K j || decide (j = x)))) F w' ∧ w.mapTurned w' b := by
  obtain ⟨D, hm, hN⟩ := set_at S hi
  obtain ⟨w', hr, ho, ht⟩ := hm.store keyed3 Try.underlying74 hm2 (keyI hx) (val := .bool true) rfl
  exact ⟨w', hr, S.of (S.st.upd hi (fun f hf => ⟨f, ⟨hf.1, _, ho, hN.put x⟩, fun j hj => .inl hj, (Chg.of_grown ht.grown).mono (fun j hj => (hf.1 j).2 (by injection hj with hj; exact hj.symm))⟩)), ht⟩
theorem set_new (S : Stt w0 Z L F w) : Stt w0 Z (mpS w.heap.size 0 (fun _ => false) :: L) F (w.alloc (.map #[] 0)) :=
  S.more (a := mpS w.heap.size 0 (fun _ => false)) (f := fun j => j = w.heap.size) (below_alloc (Below.refl _ _) _) ⟨fun _ => Iff.rfl, _, World.ownsMap_made w Try.prog 3 bE, SetD.nil⟩ (fun j hj => Nat.le_of_eq hj.symm)
/-- range: the set is gone through from now on. -/
theorem set_range (S : Stt w0 Z L F w) (i : Nat) (hi : L[i]? = some (mpS b m K)) :
    ∃ w' cnt, (Instr.range 74 (.map (some b))).run Try.prog w = .ok (.pointer (some ⟨w.heap.size, 0, none⟩)) w' ∧ Stt w0 Z (L.set i (rgS b w.heap.size m K K cnt)) F w' ∧ w.heap.size < w'.heap.size ∧ cnt ≤ m := by
  obtain ⟨D, hm, hN⟩ := set_at S hi
  have hcm : Maps.size D ≤ m := by
    obtain ⟨es, clock, hb, F, hs, rfl⟩ := hm
    simpa [Maps.size, length_sorted] using hs
  obtain ⟨w', hr, hrg, hg, hsz⟩ := hm.range keyed3 Try.underlying74
  refine ⟨w', Maps.size D, hr, S.of (S.st.upd hi (fun f hf => ⟨fun j => j = b ∨ j = w.heap.size, ⟨fun j => Iff.rfl, D, _, hrg, hN, hN.has⟩, fun j hj => ?_, (Chg.of_grown hg).mono (fun j hj => by cases hj)⟩)), by omega, hcm⟩
  rcases hj with hj | hj
  · exact .inl ((hf.1 j).2 hj)
  · exact .inr (by omega)
/-- next: none is left, or one comes. -/
theorem set_next (S : Stt w0 Z L F w) (i : Nat) (hi : L[i]? = some (rgS b r m K left cnt)) (ty : TypeId) :
    ((∀ x, left x = false) ∧ (Instr.next (.pointer (some ⟨r, 0, none⟩)) false ty).run Try.prog w = .ok (.tuple #[.bool false]) w) ∨
    ∃ x w' cnt', left x = true ∧ in64 x ∧ (Instr.next (.pointer (some ⟨r, 0, none⟩)) false ty).run Try.prog w = .ok (.tuple #[.bool true, .int .i64 x, .bool true]) w' ∧ (Instr.entry (.pointer (some ⟨r, 0, none⟩))).run Try.prog w' = .ok (.tuple #[.int .i64 x, .bool true]) w' ∧
      cnt' < cnt ∧ Stt w0 Z (L.set i (rgS b r m K (fun j => left j && !decide (j = x)) cnt')) F w' ∧ w'.heap.size = w.heap.size := by
  obtain ⟨f, hf, _⟩ := S.st.hs
  obtain ⟨fa, ha, _⟩ := hf.at hi
  obtain ⟨h1, D, lf, hrg, hN, hlf⟩ := ha
  rcases hrg.next keyed3 ty with ⟨_, hl, hr⟩ | ⟨key, v, kl, y, w', cnt', hkey, hlk, hv, hat, hrun, hrg', hlt, hgr, hsz, hen⟩
  · exact .inl ⟨fun x => by rw [← hlf, hl], hr⟩
  · obtain ⟨x, rfl, rfl, hwx⟩ := Maps.keyOf_int_inv Try.underlying3 hkey
    have hx : left x = true := by rw [← hlf]; exact hlk
    have h64 : in64 x := by
      simp [Lit.wf, IntKind.min, IntKind.max, IntKind.signed, IntKind.bits] at hwx
      unfold in64; omega
    -- its value is true
    have hK : K x = true := by
      rw [← hN.has]
      obtain ⟨es, clock, since, seen, c0, hb, Ft, hs, hD, hr, hold, hc, hl1, hl2, _⟩ := hrg
      obtain ⟨z, hz, he⟩ := hl2 _ hlk
      rw [hD]
      exact List.any_eq_true.2 ⟨Go.WideElems.rg Try.prog 3 bE z, mem_sorted.2 (List.mem_map.2 ⟨z, hz, rfl⟩), by rw [he]; exact WideAt.sameKey_self (isKeyI x)⟩
    have hv2 : v = .bool true := by
      have h3 := hat (.lit (.bool false))
      rw [hN.at_ x hK] at h3
      obtain ⟨y1, y2⟩ := y
      dsimp only at h3
      subst h3
      exact bE_at hv
    subst hv2
    refine .inr ⟨x, w', cnt', hx, h64, hrun, hen, hlt, S.of (S.st.upd hi (fun f hf => ⟨f, ⟨hf.1, D, _, hrg', hN, fun j => ?_⟩, fun j hj => .inl hj, (Chg.of_grown hgr).mono (fun j hj => (hf.1 j).2 (.inr (by injection hj with hj; exact hj.symm)))⟩)), hsz⟩
    show (lf (LI j) && !(LI j).sameKey (LI x)) = _
    rw [hlf]
    congr 2
    by_cases e : j = x
    · subst e; rw [decide_eq_true rfl]; exact WideAt.sameKey_self (isKeyI j)
    · rw [decide_eq_false e]
      cases h : (LI j).sameKey (LI x) with
      | false => rfl
      | true => exact absurd (by have := WideAt.sameKey_eq h; injection this) e
end
end Go.Proofs.Ytfmlpkeaiohknaa.Q
set_option linter.unusedVariables false
set_option linter.unusedSimpArgs false
namespace Go.Proofs.Ytfmlpkeaiohknaa.Q
open Go Go.RowKit Go.Proofs.YtfmlpkeaiohknaaW.PrintWords Go.Proofs.YtfmlpkeaiohknaaW.SL
theorem eq_pair (W : World) (u v : Int) : (Op.equalIn 10000 50 (.agg #[.int .i64 u, .int .i64 v]) (.agg #[.int .i64 0, .int .i64 0])).run Try.prog W = .ok (decide (u = 0 ∧ v = 0)) W := by
  obtain ⟨i0, hi, hzz⟩ := Option.map_eq_some_iff.1 info3
  have h := run_equalIn_array (P := Try.prog) W 9999 #[.int .i64 u, .int .i64 v] #[.int .i64 0, .int .i64 0] Try.underlying50 hi
  rw [show (10000 : Nat) = 9999 + 1 from rfl, h]
  have hc : Try.prog.cellsOf 3 = 1 := by kernel_rfl
  have hp : ∀ (xs : Array Value) (j : Nat) (x : Int), xs[j]? = some (.int .i64 x) → (part 3 xs (j * 1)).run Try.prog W = .ok (.int .i64 x) W := fun xs j x hx => by
    have hu := Try.underlying3
    simp [part, run_underlying hu, hx]
  have he : ∀ x : Int, (Op.equalIn 9999 3 (.int .i64 x) (.int .i64 0)).run Try.prog W = .ok (x == 0) W := fun x => run_equalIn_int W 9998 3 .i64 .i64 x 0 Try.underlying3
  rw [hc]
  have p0 : (part 3 #[.int .i64 u, .int .i64 v] (0 * 1)).run Try.prog W = .ok (.int .i64 u) W := hp _ 0 u rfl
  have p1 : (part 3 #[.int .i64 u, .int .i64 v] (1 * 1)).run Try.prog W = .ok (.int .i64 v) W := hp _ 1 v rfl
  have q0 : (part 3 #[.int .i64 0, .int .i64 0] (0 * 1)).run Try.prog W = .ok (.int .i64 0) W := hp _ 0 0 rfl
  have q1 : (part 3 #[.int .i64 0, .int .i64 0] (1 * 1)).run Try.prog W = .ok (.int .i64 0) W := hp _ 1 0 rfl
  rw [show List.range 2 = [0, 1] from rfl]
  by_cases h1 : u = 0
  · have e1 : (u == 0) = true := by simp [h1]
    by_cases h2 : v = 0
    · have e2 : (v == 0) = true := by simp [h2]
      simp only [Op.eqItems, Sem.run_bind, p0, p1, q0, q1, he, Result.andThen_ok, e1, e2, Bool.not_true, Bool.false_eq_true, if_false, Sem.run_pure]
      simp [h1, h2]
    · have e2 : (v == 0) = false := by simp [h2]
      simp only [Op.eqItems, Sem.run_bind, p0, p1, q0, q1, he, Result.andThen_ok, e1, e2, Bool.not_true, Bool.false_eq_true, if_false, Bool.not_false, if_true, Sem.run_pure]
      simp [h2]
  · have e1 : (u == 0) = false := by simp [h1]
    simp only [Op.eqItems, Sem.run_bind, p0, q0, he, Result.andThen_ok, e1, Bool.not_false, if_true, Sem.run_pure]
    simp [h1]
end Go.Proofs.Ytfmlpkeaiohknaa.Q
