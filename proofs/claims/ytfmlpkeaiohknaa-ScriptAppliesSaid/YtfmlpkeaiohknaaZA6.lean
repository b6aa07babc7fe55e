/- The texts of this claim that lie below its row, in their order: Gt Gw Gu Gx Gk Gy Gz Gl MSr Gn Gg GA GC GEq. -/
import Derived.Deep.RegionLaw
import Derived.Deep.DeepMust
import Derived.Maps.RangeWalk
import Derived.ChangeKeysEq
import Derived.Test.YtfmlpkeaiohknaaZA5
set_option linter.unusedVariables false
set_option linter.unusedSimpArgs false
set_option maxHeartbeats 8000000
set_option maxRecDepth 100000
open Bool renaming false -> BK, false_eq_true -> R5, not_false -> SE
open Go renaming World -> Pe, Calls -> PJ, Value -> Pd, heap_alloc_new -> Pv, maxLen -> R7
open Go.Act renaming eval -> Q1, put -> Ph
open Go.Instr renaming mapUpdate -> R2, lookup -> SM
open Go.Region renaming wanted -> PR
open Go.Result renaming andThen_ok -> Rd
open Go.RowKit.Below renaming refl -> Pn
open Go.Sem renaming run_bind -> RW, run_pure -> RX
open Go.World renaming block_lt_of_cell? -> Pb
open Iff renaming rfl -> RY
open List renaming append_assoc -> PP, perm_append_comm -> Q8, getElem?_eq_some_iff -> Pf, getElem?_append_left -> PQ, set_append_left -> Sf, set_append_right -> QN, length_set -> Q6, set_cons_zero -> Pa, map_map -> RL, map_congr_left -> QJ, mem_map -> PF, map_cons -> Py, nodup_cons -> Qn, mem_of_getElem? -> Pm, mem_append -> Qm, mem_cons -> Qg, take_append_drop -> Ro, nodup_append -> Si, mem_append_left -> Sg, mem_singleton -> PC, map_append -> Qs, getElem?_set_self -> Q0, getElem?_set_ne -> Q4, mem_filter -> Qp, length_filter_le -> SI, length_map -> PM, filter_cons_of_neg -> QB, filter_cons_of_pos -> Qv, eraseIdx_cons_succ -> Sz, getElem?_map -> PU, length_take -> Pp, range -> Rw, mem_range -> Qx, getElem?_append_right -> PY
open List.Perm renaming swap -> Qq, append_left -> QM
open Nat renaming ne_of_gt -> Rb, le_max_left -> Rq, le_max_right -> Rh, le_refl -> Ps, lt_succ_self -> ST, le_trans -> Qo, zero_le -> Qa, lt_of_lt_of_le -> QU, min_eq_left -> Rm, add_sub_cancel_left -> Q2
open Ne renaming symm -> Ry
open Option renaming bind_some -> Pj
open Option.some renaming inj -> Px
namespace Go.Proofs.Q
open Go Go.RowKit Go.Lib Go.Sort Go.Proofs.V.Words Go.Proofs.V.Last Go.Proofs.V.More Go.Proofs.V.SL
attribute [local go_sem] BI BJ BY BZ Bu Bv BL BM
theorem Lb {w0 w : Pe} {Z : Nat -> Prop} {pre X : List Bj} {F : List FA} {ad : Int -> Nat} {g : List Hk} {gb bm m : Nat} {ids : List Int} (S : Au w0 Z (GL (Al gb 61 #[.map (some bm)] :: Bg bm m ad ids :: pre) ad g X) F w)
  (id pa af ki : Int) (tx tr : ByteArray) (h1 : in64 id) (h2 : in64 pa) (hid : id ∈ ids) {jx : Nat} {hx : Hk} (ex : g[jx]? = some hx) (hxi : hx.k.id = id) (hpar : hx.k.par = none) (hpa : pa ∉ ids) :
  PJ Try.prog 21 #[.pointer (some ⟨gb, 0, none⟩), .agg #[.int .i64 2, .int .i64 id, .int .i64 pa, .int .i64 af, .int .i64 ki, .string tx, .string tr]] w fun e w' => e = .returned (.bool BK) /\ Au w0 Z (GL (Al gb 61 #[.map (some bm)] :: Bg bm m ad ids :: pre) ad g X) F w' := by
 obtain ⟨EC, hEC⟩ : ∃ EC : Array Pd, EC = #[.int .i64 2, .int .i64 id, .int .i64 pa, .int .i64 af, .int .i64 ki, .string tx, .string tr] := ⟨_, rfl⟩;have S1 : Au w0 Z (GL (Al w.heap.size 54 EC :: Al gb 61 #[.map (some bm)] :: Bg bm m ad ids :: pre) ad g X) F (w.alloc (.cells EC 54)) := S.box rfl (Pv w _) (Ah (Pn _ _) _);have l1 := AL (Ab S1) 2 rfl h1;have l2 := AL (Ab (Ab S1)) 2 rfl h2;have hgb1 : (w.alloc (.cells EC 54)).cell? ⟨gb, 0, none⟩ = some (.map (some bm)) := (Aa (S1.at_blk 1 rfl) 0).trans rfl;have SP := Ab (Ab S1);rw [if_pos hid, decide_eq_true hid] at l1;obtain ⟨a, ha⟩ : ∃ a, ad id = a := ⟨_, rfl⟩;simp only [pk, ha] at l1;have HB : ∀ W, Au w0 Z (GL (Al w.heap.size 54 EC :: Al gb 61 #[.map (some bm)] :: Bg bm m ad ids :: pre) ad g X) F W -> W.cell? ⟨a, 5, none⟩ = some (.pointer none) /\ True := fun W SW => ⟨by rw [<- ha, <- hxi]; exact (Aa (AR SW ex) 5).trans (show (Dc ad hx.k hx.v)[5]? = some (.pointer none) by show some (pp ad hx.k.par) = _; rw [hpar]; rfl), trivial⟩
 obtain ⟨hx5, hx6⟩ := HB _ S1;have HC := A7.mk HB;clear HB ex hxi hpar ha;rw [if_neg hpa, decide_eq_false hpa] at l2;rw [hEC] at l1 l2 hgb1 SP hx5 HC;replace SP := A7.mk SP;clear S S1 h1 h2 hid hpa hEC EC;have mixed : Try.prog.follows .mixedOrders = true := by kernel_rfl
 go_enter Try.func21, Try.ntmps21;go_wp2
 go_region_o
 go_wp2
 go_region_o
 go_wp2
 go_ret
 exact ⟨rfl, Au.drop (l := GL (Al gb 61 #[.map (some bm)] :: Bg bm m ad ids :: pre) ad _ X) SP.out⟩
theorem Lc {w0 w : Pe} {Z : Nat -> Prop} {pre X : List Bj} {F : List FA} {ad : Int -> Nat} {g : List Hk} {gb bm m : Nat} {ids : List Int} (S : Au w0 Z (GL (Al gb 61 #[.map (some bm)] :: Bg bm m ad ids :: pre) ad g X) F w)
  (id pa af ki : Int) (tx tr : ByteArray) (h1 : in64 id) (h2 : in64 pa) (hid : id ∈ ids) {jx : Nat} {hx : Hk} (ex : g[jx]? = some hx) (hxi : hx.k.id = id) (hpar : hx.k.par = none) (hpa : pa ∈ ids) (haf : af = -1) :
  PJ Try.prog 21 #[.pointer (some ⟨gb, 0, none⟩), .agg #[.int .i64 2, .int .i64 id, .int .i64 pa, .int .i64 af, .int .i64 ki, .string tx, .string tr]] w fun e w' => e = .returned (.bool BK) /\ Au w0 Z (GL (Al gb 61 #[.map (some bm)] :: Bg bm m ad ids :: pre) ad g X) F w' := by
 obtain ⟨EC, hEC⟩ : ∃ EC : Array Pd, EC = #[.int .i64 2, .int .i64 id, .int .i64 pa, .int .i64 af, .int .i64 ki, .string tx, .string tr] := ⟨_, rfl⟩;have S1 : Au w0 Z (GL (Al w.heap.size 54 EC :: Al gb 61 #[.map (some bm)] :: Bg bm m ad ids :: pre) ad g X) F (w.alloc (.cells EC 54)) := S.box rfl (Pv w _) (Ah (Pn _ _) _);have l1 := AL (Ab S1) 2 rfl h1;have l2 := AL (Ab (Ab S1)) 2 rfl h2;have hgb1 : (w.alloc (.cells EC 54)).cell? ⟨gb, 0, none⟩ = some (.map (some bm)) := (Aa (S1.at_blk 1 rfl) 0).trans rfl;have SP := Ab (Ab S1);rw [if_pos hid, decide_eq_true hid] at l1;obtain ⟨a, ha⟩ : ∃ a, ad id = a := ⟨_, rfl⟩;simp only [pk, ha] at l1;have HB : ∀ W, Au w0 Z (GL (Al w.heap.size 54 EC :: Al gb 61 #[.map (some bm)] :: Bg bm m ad ids :: pre) ad g X) F W -> W.cell? ⟨a, 5, none⟩ = some (.pointer none) /\ True := fun W SW => ⟨by rw [<- ha, <- hxi]; exact (Aa (AR SW ex) 5).trans (show (Dc ad hx.k hx.v)[5]? = some (.pointer none) by show some (pp ad hx.k.par) = _; rw [hpar]; rfl), trivial⟩
 obtain ⟨hx5, hx6⟩ := HB _ S1;have HC := A7.mk HB;clear HB ex hxi hpar ha;subst haf;rw [if_pos hpa, decide_eq_true hpa] at l2;obtain ⟨c, hc⟩ : ∃ c, ad pa = c := ⟨_, rfl⟩;simp only [pk, hc] at l2;rw [hEC] at l1 l2 hgb1 SP hx5 HC;replace SP := A7.mk SP;clear hc S S1 h1 h2 hid hpa hEC EC;have mixed : Try.prog.follows .mixedOrders = true := by kernel_rfl
 go_enter Try.func21, Try.ntmps21;go_wp2
 go_region_o
 go_wp2
 go_region_o
 go_wp2
 go_ret
 exact ⟨rfl, Au.drop (l := GL (Al gb 61 #[.map (some bm)] :: Bg bm m ad ids :: pre) ad _ X) SP.out⟩
theorem Ld {w0 w : Pe} {Z : Nat -> Prop} {pre X : List Bj} {F : List FA} {ad : Int -> Nat} {g : List Hk} {gb bm m : Nat} {ids : List Int} (S : Au w0 Z (GL (Al gb 61 #[.map (some bm)] :: Bg bm m ad ids :: pre) ad g X) F w)
  (id pa af ki : Int) (tx tr : ByteArray) (h1 : in64 id) (h2 : in64 pa) (hid : id ∈ ids) {jx : Nat} {hx : Hk} (ex : g[jx]? = some hx) (hxi : hx.k.id = id) (hpar : hx.k.par = none) (hpa : pa ∈ ids) (haf : ¬ af = -1) {jp : Nat} {hp : Hk} (ep : g[jp]? = some hp) (hpi : hp.k.id = pa) (hids : ∀ y ∈ hp.k.kids, ∃ (j : Nat) (h : Hk), g[j]? = some h /\ h.k.id = y) :
  PJ Try.prog 21 #[.pointer (some ⟨gb, 0, none⟩), .agg #[.int .i64 2, .int .i64 id, .int .i64 pa, .int .i64 af, .int .i64 ki, .string tx, .string tr]] w fun e w' => e = .returned (.bool BK) /\ Au w0 Z (GL (Al gb 61 #[.map (some bm)] :: Bg bm m ad ids :: pre) ad g X) F w' := by
 obtain ⟨EC, hEC⟩ : ∃ EC : Array Pd, EC = #[.int .i64 2, .int .i64 id, .int .i64 pa, .int .i64 af, .int .i64 ki, .string tx, .string tr] := ⟨_, rfl⟩;have S1 : Au w0 Z (GL (Al w.heap.size 54 EC :: Al gb 61 #[.map (some bm)] :: Bg bm m ad ids :: pre) ad g X) F (w.alloc (.cells EC 54)) := S.box rfl (Pv w _) (Ah (Pn _ _) _);have l1 := AL (Ab S1) 2 rfl h1;have l2 := AL (Ab (Ab S1)) 2 rfl h2;have hgb1 : (w.alloc (.cells EC 54)).cell? ⟨gb, 0, none⟩ = some (.map (some bm)) := (Aa (S1.at_blk 1 rfl) 0).trans rfl;have SP := Ab (Ab S1);rw [if_pos hid, decide_eq_true hid] at l1;obtain ⟨a, ha⟩ : ∃ a, ad id = a := ⟨_, rfl⟩;simp only [pk, ha] at l1;have HB : ∀ W, Au w0 Z (GL (Al w.heap.size 54 EC :: Al gb 61 #[.map (some bm)] :: Bg bm m ad ids :: pre) ad g X) F W -> W.cell? ⟨a, 5, none⟩ = some (.pointer none) /\ True := fun W SW => ⟨by rw [<- ha, <- hxi]; exact (Aa (AR SW ex) 5).trans (show (Dc ad hx.k hx.v)[5]? = some (.pointer none) by show some (pp ad hx.k.par) = _; rw [hpar]; rfl), trivial⟩
 obtain ⟨hx5, hx6⟩ := HB _ S1;have HC := A7.mk HB;clear HB ex hxi hpar ha;clear hx5 hx6;have HP := Bq ad hp.k hp.v af _ (AR SP ep) (C5 SP ep) (fun y hy => by obtain ⟨jy, hy', e1, e2⟩ := hids y hy; rw [<- e2, Aa (AR SP e1) 0]; rfl);obtain ⟨R, hR⟩ : ∃ R, AO hp.k.kids af = R := ⟨_, rfl⟩;rw [hR] at HP;obtain ⟨c, hc⟩ : ∃ c, ad pa = c := ⟨_, rfl⟩;rw [if_pos hpa, decide_eq_true hpa] at l2;simp only [pk, hc] at l2;rw [hpi] at HP;simp only [pk, hc] at HP;replace HP := A7.mk HP;rw [hEC] at l1 l2 hgb1 HP SP HC;replace SP := A7.mk SP;clear hc S S1 h1 h2 hid hpa ep hids hpi hR hEC EC;have mixed : Try.prog.follows .mixedOrders = true := by kernel_rfl
 go_enter Try.func21, Try.ntmps21;go_wp2
 go_region_o
 go_wp2
 go_region_o
 go_wp2_with (go_at_call 29; refine HP.out.mono ?_; rintro e_ w1 ⟨rfl, hB⟩; have S2 := SP.out.keep hB; have q0 := (Aa (S2.at_blk 0 rfl) 0).trans rfl; obtain ⟨hx5, hx6⟩ := HC.out w1 S2; replace S2 := A7.mk S2; clear hB)
 go_ret
 exact ⟨rfl, Au.drop (l := GL (Al gb 61 #[.map (some bm)] :: Bg bm m ad ids :: pre) ad _ X) S2.out⟩
theorem Le {w0 w : Pe} {Z : Nat -> Prop} {pre X : List Bj} {F : List FA} {ad : Int -> Nat} {g : List Hk} {gb bm m : Nat} {ids : List Int} (S : Au w0 Z (GL (Al gb 61 #[.map (some bm)] :: Bg bm m ad ids :: pre) ad g X) F w)
  (id pa af ki : Int) (tx tr : ByteArray) (h1 : in64 id) (h2 : in64 pa) (hid : id ∈ ids) {jx : Nat} {hx : Hk} (ex : g[jx]? = some hx) (hxi : hx.k.id = id) {q : Int} (hpar : hx.k.par = some q) (hk1 : 0 < hx.k.kids.length) (hpa : pa ∉ ids) :
  PJ Try.prog 21 #[.pointer (some ⟨gb, 0, none⟩), .agg #[.int .i64 2, .int .i64 id, .int .i64 pa, .int .i64 af, .int .i64 ki, .string tx, .string tr]] w fun e w' => e = .returned (.bool BK) /\ Au w0 Z (GL (Al gb 61 #[.map (some bm)] :: Bg bm m ad ids :: pre) ad g X) F w' := by
 obtain ⟨EC, hEC⟩ : ∃ EC : Array Pd, EC = #[.int .i64 2, .int .i64 id, .int .i64 pa, .int .i64 af, .int .i64 ki, .string tx, .string tr] := ⟨_, rfl⟩;have S1 : Au w0 Z (GL (Al w.heap.size 54 EC :: Al gb 61 #[.map (some bm)] :: Bg bm m ad ids :: pre) ad g X) F (w.alloc (.cells EC 54)) := S.box rfl (Pv w _) (Ah (Pn _ _) _);have l1 := AL (Ab S1) 2 rfl h1;have l2 := AL (Ab (Ab S1)) 2 rfl h2;have hgb1 : (w.alloc (.cells EC 54)).cell? ⟨gb, 0, none⟩ = some (.map (some bm)) := (Aa (S1.at_blk 1 rfl) 0).trans rfl;have SP := Ab (Ab S1);rw [if_pos hid, decide_eq_true hid] at l1;obtain ⟨a, ha⟩ : ∃ a, ad id = a := ⟨_, rfl⟩;simp only [pk, ha] at l1;obtain ⟨A, c0, hA, _⟩ := Co (C5 S1 ex);obtain ⟨nk, hnk⟩ : ∃ nk, hx.k.kids.length = nk := ⟨_, rfl⟩;rw [hnk] at hA hk1;have hk2 : (0 : Int) < (nk : Int) := by omega
 obtain ⟨aq, haq⟩ : ∃ aq, ad q = aq := ⟨_, rfl⟩;have HB : ∀ W, Au w0 Z (GL (Al w.heap.size 54 EC :: Al gb 61 #[.map (some bm)] :: Bg bm m ad ids :: pre) ad g X) F W -> W.cell? ⟨a, 5, none⟩ = some (.pointer (some ⟨aq, 0, none⟩)) /\ W.cell? ⟨a, 6, none⟩ = some (.slice A nk c0) := fun W SW => ⟨by rw [<- ha, <- hxi]; exact (Aa (AR SW ex) 5).trans (show (Dc ad hx.k hx.v)[5]? = _ by show some (pp ad hx.k.par) = _; rw [hpar, <- haq]; rfl), by rw [<- ha, <- hxi]; exact (Aa (AR SW ex) 6).trans (show (Dc ad hx.k hx.v)[6]? = _ by show some hx.v = _; rw [hA])⟩
 obtain ⟨hx5, hx6⟩ := HB _ S1;have HC := A7.mk HB;clear HB ex hxi hpar ha hnk hA haq;rw [if_neg hpa, decide_eq_false hpa] at l2;rw [hEC] at l1 l2 hgb1 SP hx5 hx6 HC;replace SP := A7.mk SP;clear S S1 h1 h2 hid hpa hEC EC;have mixed : Try.prog.follows .mixedOrders = true := by kernel_rfl
 go_enter Try.func21, Try.ntmps21;go_wp2
 go_region_o
 go_wp2
 go_region_o
 go_wp2
 go_ret
 exact ⟨rfl, Au.drop (l := GL (Al gb 61 #[.map (some bm)] :: Bg bm m ad ids :: pre) ad _ X) SP.out⟩
theorem Lf {w0 w : Pe} {Z : Nat -> Prop} {pre X : List Bj} {F : List FA} {ad : Int -> Nat} {g : List Hk} {gb bm m : Nat} {ids : List Int} (S : Au w0 Z (GL (Al gb 61 #[.map (some bm)] :: Bg bm m ad ids :: pre) ad g X) F w)
  (id pa af ki : Int) (tx tr : ByteArray) (h1 : in64 id) (h2 : in64 pa) (hid : id ∈ ids) {jx : Nat} {hx : Hk} (ex : g[jx]? = some hx) (hxi : hx.k.id = id) {q : Int} (hpar : hx.k.par = some q) (hk1 : 0 < hx.k.kids.length) (hpa : pa ∈ ids) (haf : af = -1) :
  PJ Try.prog 21 #[.pointer (some ⟨gb, 0, none⟩), .agg #[.int .i64 2, .int .i64 id, .int .i64 pa, .int .i64 af, .int .i64 ki, .string tx, .string tr]] w fun e w' => e = .returned (.bool BK) /\ Au w0 Z (GL (Al gb 61 #[.map (some bm)] :: Bg bm m ad ids :: pre) ad g X) F w' := by
 obtain ⟨EC, hEC⟩ : ∃ EC : Array Pd, EC = #[.int .i64 2, .int .i64 id, .int .i64 pa, .int .i64 af, .int .i64 ki, .string tx, .string tr] := ⟨_, rfl⟩;have S1 : Au w0 Z (GL (Al w.heap.size 54 EC :: Al gb 61 #[.map (some bm)] :: Bg bm m ad ids :: pre) ad g X) F (w.alloc (.cells EC 54)) := S.box rfl (Pv w _) (Ah (Pn _ _) _);have l1 := AL (Ab S1) 2 rfl h1;have l2 := AL (Ab (Ab S1)) 2 rfl h2;have hgb1 : (w.alloc (.cells EC 54)).cell? ⟨gb, 0, none⟩ = some (.map (some bm)) := (Aa (S1.at_blk 1 rfl) 0).trans rfl;have SP := Ab (Ab S1);rw [if_pos hid, decide_eq_true hid] at l1;obtain ⟨a, ha⟩ : ∃ a, ad id = a := ⟨_, rfl⟩;simp only [pk, ha] at l1;obtain ⟨A, c0, hA, _⟩ := Co (C5 S1 ex);obtain ⟨nk, hnk⟩ : ∃ nk, hx.k.kids.length = nk := ⟨_, rfl⟩;rw [hnk] at hA hk1;have hk2 : (0 : Int) < (nk : Int) := by omega
 obtain ⟨aq, haq⟩ : ∃ aq, ad q = aq := ⟨_, rfl⟩;have HB : ∀ W, Au w0 Z (GL (Al w.heap.size 54 EC :: Al gb 61 #[.map (some bm)] :: Bg bm m ad ids :: pre) ad g X) F W -> W.cell? ⟨a, 5, none⟩ = some (.pointer (some ⟨aq, 0, none⟩)) /\ W.cell? ⟨a, 6, none⟩ = some (.slice A nk c0) := fun W SW => ⟨by rw [<- ha, <- hxi]; exact (Aa (AR SW ex) 5).trans (show (Dc ad hx.k hx.v)[5]? = _ by show some (pp ad hx.k.par) = _; rw [hpar, <- haq]; rfl), by rw [<- ha, <- hxi]; exact (Aa (AR SW ex) 6).trans (show (Dc ad hx.k hx.v)[6]? = _ by show some hx.v = _; rw [hA])⟩
 obtain ⟨hx5, hx6⟩ := HB _ S1;have HC := A7.mk HB;clear HB ex hxi hpar ha hnk hA haq;subst haf;rw [if_pos hpa, decide_eq_true hpa] at l2;obtain ⟨c, hc⟩ : ∃ c, ad pa = c := ⟨_, rfl⟩;simp only [pk, hc] at l2;rw [hEC] at l1 l2 hgb1 SP hx5 hx6 HC;replace SP := A7.mk SP;clear hc S S1 h1 h2 hid hpa hEC EC;have mixed : Try.prog.follows .mixedOrders = true := by kernel_rfl
 go_enter Try.func21, Try.ntmps21;go_wp2
 go_region_o
 go_wp2
 go_region_o
 go_wp2
 go_ret
 exact ⟨rfl, Au.drop (l := GL (Al gb 61 #[.map (some bm)] :: Bg bm m ad ids :: pre) ad _ X) SP.out⟩
theorem Lg {w0 w : Pe} {Z : Nat -> Prop} {pre X : List Bj} {F : List FA} {ad : Int -> Nat} {g : List Hk} {gb bm m : Nat} {ids : List Int} (S : Au w0 Z (GL (Al gb 61 #[.map (some bm)] :: Bg bm m ad ids :: pre) ad g X) F w)
  (id pa af ki : Int) (tx tr : ByteArray) (h1 : in64 id) (h2 : in64 pa) (hid : id ∈ ids) {jx : Nat} {hx : Hk} (ex : g[jx]? = some hx) (hxi : hx.k.id = id) {q : Int} (hpar : hx.k.par = some q) (hk1 : 0 < hx.k.kids.length) (hpa : pa ∈ ids) (haf : ¬ af = -1) {jp : Nat} {hp : Hk} (ep : g[jp]? = some hp) (hpi : hp.k.id = pa) (hids : ∀ y ∈ hp.k.kids, ∃ (j : Nat) (h : Hk), g[j]? = some h /\ h.k.id = y) :
  PJ Try.prog 21 #[.pointer (some ⟨gb, 0, none⟩), .agg #[.int .i64 2, .int .i64 id, .int .i64 pa, .int .i64 af, .int .i64 ki, .string tx, .string tr]] w fun e w' => e = .returned (.bool BK) /\ Au w0 Z (GL (Al gb 61 #[.map (some bm)] :: Bg bm m ad ids :: pre) ad g X) F w' := by
 obtain ⟨EC, hEC⟩ : ∃ EC : Array Pd, EC = #[.int .i64 2, .int .i64 id, .int .i64 pa, .int .i64 af, .int .i64 ki, .string tx, .string tr] := ⟨_, rfl⟩;have S1 : Au w0 Z (GL (Al w.heap.size 54 EC :: Al gb 61 #[.map (some bm)] :: Bg bm m ad ids :: pre) ad g X) F (w.alloc (.cells EC 54)) := S.box rfl (Pv w _) (Ah (Pn _ _) _);have l1 := AL (Ab S1) 2 rfl h1;have l2 := AL (Ab (Ab S1)) 2 rfl h2;have hgb1 : (w.alloc (.cells EC 54)).cell? ⟨gb, 0, none⟩ = some (.map (some bm)) := (Aa (S1.at_blk 1 rfl) 0).trans rfl;have SP := Ab (Ab S1);rw [if_pos hid, decide_eq_true hid] at l1;obtain ⟨a, ha⟩ : ∃ a, ad id = a := ⟨_, rfl⟩;simp only [pk, ha] at l1;obtain ⟨A, c0, hA, _⟩ := Co (C5 S1 ex);obtain ⟨nk, hnk⟩ : ∃ nk, hx.k.kids.length = nk := ⟨_, rfl⟩;rw [hnk] at hA hk1;have hk2 : (0 : Int) < (nk : Int) := by omega
 obtain ⟨aq, haq⟩ : ∃ aq, ad q = aq := ⟨_, rfl⟩;have HB : ∀ W, Au w0 Z (GL (Al w.heap.size 54 EC :: Al gb 61 #[.map (some bm)] :: Bg bm m ad ids :: pre) ad g X) F W -> W.cell? ⟨a, 5, none⟩ = some (.pointer (some ⟨aq, 0, none⟩)) /\ W.cell? ⟨a, 6, none⟩ = some (.slice A nk c0) := fun W SW => ⟨by rw [<- ha, <- hxi]; exact (Aa (AR SW ex) 5).trans (show (Dc ad hx.k hx.v)[5]? = _ by show some (pp ad hx.k.par) = _; rw [hpar, <- haq]; rfl), by rw [<- ha, <- hxi]; exact (Aa (AR SW ex) 6).trans (show (Dc ad hx.k hx.v)[6]? = _ by show some hx.v = _; rw [hA])⟩
 obtain ⟨hx5, hx6⟩ := HB _ S1;have HC := A7.mk HB;clear HB ex hxi hpar ha hnk hA haq;clear hx5 hx6;have HP := Bq ad hp.k hp.v af _ (AR SP ep) (C5 SP ep) (fun y hy => by obtain ⟨jy, hy', e1, e2⟩ := hids y hy; rw [<- e2, Aa (AR SP e1) 0]; rfl);obtain ⟨R, hR⟩ : ∃ R, AO hp.k.kids af = R := ⟨_, rfl⟩;rw [hR] at HP;obtain ⟨c, hc⟩ : ∃ c, ad pa = c := ⟨_, rfl⟩;rw [if_pos hpa, decide_eq_true hpa] at l2;simp only [pk, hc] at l2;rw [hpi] at HP;simp only [pk, hc] at HP;replace HP := A7.mk HP;rw [hEC] at l1 l2 hgb1 HP SP HC;replace SP := A7.mk SP;clear hc S S1 h1 h2 hid hpa ep hids hpi hR hEC EC;have mixed : Try.prog.follows .mixedOrders = true := by kernel_rfl
 go_enter Try.func21, Try.ntmps21;go_wp2
 go_region_o
 go_wp2
 go_region_o
 go_wp2_with (go_at_call 29; refine HP.out.mono ?_; rintro e_ w1 ⟨rfl, hB⟩; have S2 := SP.out.keep hB; have q0 := (Aa (S2.at_blk 0 rfl) 0).trans rfl; obtain ⟨hx5, hx6⟩ := HC.out w1 S2; replace S2 := A7.mk S2; clear hB)
 go_ret
 exact ⟨rfl, Au.drop (l := GL (Al gb 61 #[.map (some bm)] :: Bg bm m ad ids :: pre) ad _ X) S2.out⟩
theorem J4 {w0 w : Pe} {Z : Nat -> Prop} {pre X : List Bj} {F : List FA} {ad : Int -> Nat} {g : List Hk} {gb bm m : Nat} {ids : List Int} (S : Au w0 Z (GL (Al gb 61 #[.map (some bm)] :: Bg bm m ad ids :: pre) ad g X) F w)
  (id pa af ki : Int) (tx tr : ByteArray) (h1 : in64 id) (h2 : in64 pa) (hid : id ∈ ids) {jx : Nat} {hx : Hk} (ex : g[jx]? = some hx) (hxi : hx.k.id = id) (hpar : hx.k.par = none) (hpa : pa ∉ ids) :
  PJ Try.prog 21 #[.pointer (some ⟨gb, 0, none⟩), .agg #[.int .i64 4, .int .i64 id, .int .i64 pa, .int .i64 af, .int .i64 ki, .string tx, .string tr]] w fun e w' => e = .returned (.bool BK) /\ Au w0 Z (GL (Al gb 61 #[.map (some bm)] :: Bg bm m ad ids :: pre) ad g X) F w' := by
 obtain ⟨EC, hEC⟩ : ∃ EC : Array Pd, EC = #[.int .i64 4, .int .i64 id, .int .i64 pa, .int .i64 af, .int .i64 ki, .string tx, .string tr] := ⟨_, rfl⟩;have S1 : Au w0 Z (GL (Al w.heap.size 54 EC :: Al gb 61 #[.map (some bm)] :: Bg bm m ad ids :: pre) ad g X) F (w.alloc (.cells EC 54)) := S.box rfl (Pv w _) (Ah (Pn _ _) _);have l1 := AL (Ab S1) 2 rfl h1;have l2 := AL (Ab (Ab S1)) 2 rfl h2;have hgb1 : (w.alloc (.cells EC 54)).cell? ⟨gb, 0, none⟩ = some (.map (some bm)) := (Aa (S1.at_blk 1 rfl) 0).trans rfl;have SP := Ab (Ab S1);rw [if_pos hid, decide_eq_true hid] at l1;obtain ⟨a, ha⟩ : ∃ a, ad id = a := ⟨_, rfl⟩;simp only [pk, ha] at l1;have HB : ∀ W, Au w0 Z (GL (Al w.heap.size 54 EC :: Al gb 61 #[.map (some bm)] :: Bg bm m ad ids :: pre) ad g X) F W -> W.cell? ⟨a, 5, none⟩ = some (.pointer none) /\ True := fun W SW => ⟨by rw [<- ha, <- hxi]; exact (Aa (AR SW ex) 5).trans (show (Dc ad hx.k hx.v)[5]? = some (.pointer none) by show some (pp ad hx.k.par) = _; rw [hpar]; rfl), trivial⟩
 obtain ⟨hx5, hx6⟩ := HB _ S1;have HC := A7.mk HB;clear HB ex hxi hpar ha;rw [if_neg hpa, decide_eq_false hpa] at l2;rw [hEC] at l1 l2 hgb1 SP hx5 HC;replace SP := A7.mk SP;clear S S1 h1 h2 hid hpa hEC EC;have mixed : Try.prog.follows .mixedOrders = true := by kernel_rfl
 go_enter Try.func21, Try.ntmps21;go_wp2
 go_region_o
 go_wp2
 go_region_o
 go_wp2
 go_ret
 exact ⟨rfl, Au.drop (l := GL (Al gb 61 #[.map (some bm)] :: Bg bm m ad ids :: pre) ad _ X) SP.out⟩
theorem J5 {w0 w : Pe} {Z : Nat -> Prop} {pre X : List Bj} {F : List FA} {ad : Int -> Nat} {g : List Hk} {gb bm m : Nat} {ids : List Int} (S : Au w0 Z (GL (Al gb 61 #[.map (some bm)] :: Bg bm m ad ids :: pre) ad g X) F w)
  (id pa af ki : Int) (tx tr : ByteArray) (h1 : in64 id) (h2 : in64 pa) (hid : id ∈ ids) {jx : Nat} {hx : Hk} (ex : g[jx]? = some hx) (hxi : hx.k.id = id) (hpar : hx.k.par = none) (hpa : pa ∈ ids) (haf : af = -1) :
  PJ Try.prog 21 #[.pointer (some ⟨gb, 0, none⟩), .agg #[.int .i64 4, .int .i64 id, .int .i64 pa, .int .i64 af, .int .i64 ki, .string tx, .string tr]] w fun e w' => e = .returned (.bool BK) /\ Au w0 Z (GL (Al gb 61 #[.map (some bm)] :: Bg bm m ad ids :: pre) ad g X) F w' := by
 obtain ⟨EC, hEC⟩ : ∃ EC : Array Pd, EC = #[.int .i64 4, .int .i64 id, .int .i64 pa, .int .i64 af, .int .i64 ki, .string tx, .string tr] := ⟨_, rfl⟩;have S1 : Au w0 Z (GL (Al w.heap.size 54 EC :: Al gb 61 #[.map (some bm)] :: Bg bm m ad ids :: pre) ad g X) F (w.alloc (.cells EC 54)) := S.box rfl (Pv w _) (Ah (Pn _ _) _);have l1 := AL (Ab S1) 2 rfl h1;have l2 := AL (Ab (Ab S1)) 2 rfl h2;have hgb1 : (w.alloc (.cells EC 54)).cell? ⟨gb, 0, none⟩ = some (.map (some bm)) := (Aa (S1.at_blk 1 rfl) 0).trans rfl;have SP := Ab (Ab S1);rw [if_pos hid, decide_eq_true hid] at l1;obtain ⟨a, ha⟩ : ∃ a, ad id = a := ⟨_, rfl⟩;simp only [pk, ha] at l1;have HB : ∀ W, Au w0 Z (GL (Al w.heap.size 54 EC :: Al gb 61 #[.map (some bm)] :: Bg bm m ad ids :: pre) ad g X) F W -> W.cell? ⟨a, 5, none⟩ = some (.pointer none) /\ True := fun W SW => ⟨by rw [<- ha, <- hxi]; exact (Aa (AR SW ex) 5).trans (show (Dc ad hx.k hx.v)[5]? = some (.pointer none) by show some (pp ad hx.k.par) = _; rw [hpar]; rfl), trivial⟩
 obtain ⟨hx5, hx6⟩ := HB _ S1;have HC := A7.mk HB;clear HB ex hxi hpar ha;subst haf;rw [if_pos hpa, decide_eq_true hpa] at l2;obtain ⟨c, hc⟩ : ∃ c, ad pa = c := ⟨_, rfl⟩;simp only [pk, hc] at l2;rw [hEC] at l1 l2 hgb1 SP hx5 HC;replace SP := A7.mk SP;clear hc S S1 h1 h2 hid hpa hEC EC;have mixed : Try.prog.follows .mixedOrders = true := by kernel_rfl
 go_enter Try.func21, Try.ntmps21;go_wp2
 go_region_o
 go_wp2
 go_region_o
 go_wp2
 go_ret
 exact ⟨rfl, Au.drop (l := GL (Al gb 61 #[.map (some bm)] :: Bg bm m ad ids :: pre) ad _ X) SP.out⟩
theorem J6 {w0 w : Pe} {Z : Nat -> Prop} {pre X : List Bj} {F : List FA} {ad : Int -> Nat} {g : List Hk} {gb bm m : Nat} {ids : List Int} (S : Au w0 Z (GL (Al gb 61 #[.map (some bm)] :: Bg bm m ad ids :: pre) ad g X) F w)
  (id pa af ki : Int) (tx tr : ByteArray) (h1 : in64 id) (h2 : in64 pa) (hid : id ∈ ids) {jx : Nat} {hx : Hk} (ex : g[jx]? = some hx) (hxi : hx.k.id = id) (hpar : hx.k.par = none) (hpa : pa ∈ ids) (haf : ¬ af = -1) {jp : Nat} {hp : Hk} (ep : g[jp]? = some hp) (hpi : hp.k.id = pa) (hids : ∀ y ∈ hp.k.kids, ∃ (j : Nat) (h : Hk), g[j]? = some h /\ h.k.id = y) :
  PJ Try.prog 21 #[.pointer (some ⟨gb, 0, none⟩), .agg #[.int .i64 4, .int .i64 id, .int .i64 pa, .int .i64 af, .int .i64 ki, .string tx, .string tr]] w fun e w' => e = .returned (.bool BK) /\ Au w0 Z (GL (Al gb 61 #[.map (some bm)] :: Bg bm m ad ids :: pre) ad g X) F w' := by
 obtain ⟨EC, hEC⟩ : ∃ EC : Array Pd, EC = #[.int .i64 4, .int .i64 id, .int .i64 pa, .int .i64 af, .int .i64 ki, .string tx, .string tr] := ⟨_, rfl⟩;have S1 : Au w0 Z (GL (Al w.heap.size 54 EC :: Al gb 61 #[.map (some bm)] :: Bg bm m ad ids :: pre) ad g X) F (w.alloc (.cells EC 54)) := S.box rfl (Pv w _) (Ah (Pn _ _) _);have l1 := AL (Ab S1) 2 rfl h1;have l2 := AL (Ab (Ab S1)) 2 rfl h2;have hgb1 : (w.alloc (.cells EC 54)).cell? ⟨gb, 0, none⟩ = some (.map (some bm)) := (Aa (S1.at_blk 1 rfl) 0).trans rfl;have SP := Ab (Ab S1);rw [if_pos hid, decide_eq_true hid] at l1;obtain ⟨a, ha⟩ : ∃ a, ad id = a := ⟨_, rfl⟩;simp only [pk, ha] at l1;have HB : ∀ W, Au w0 Z (GL (Al w.heap.size 54 EC :: Al gb 61 #[.map (some bm)] :: Bg bm m ad ids :: pre) ad g X) F W -> W.cell? ⟨a, 5, none⟩ = some (.pointer none) /\ True := fun W SW => ⟨by rw [<- ha, <- hxi]; exact (Aa (AR SW ex) 5).trans (show (Dc ad hx.k hx.v)[5]? = some (.pointer none) by show some (pp ad hx.k.par) = _; rw [hpar]; rfl), trivial⟩
 obtain ⟨hx5, hx6⟩ := HB _ S1;have HC := A7.mk HB;clear HB ex hxi hpar ha;clear hx5 hx6;have HP := Bq ad hp.k hp.v af _ (AR SP ep) (C5 SP ep) (fun y hy => by obtain ⟨jy, hy', e1, e2⟩ := hids y hy; rw [<- e2, Aa (AR SP e1) 0]; rfl);obtain ⟨R, hR⟩ : ∃ R, AO hp.k.kids af = R := ⟨_, rfl⟩;rw [hR] at HP;obtain ⟨c, hc⟩ : ∃ c, ad pa = c := ⟨_, rfl⟩;rw [if_pos hpa, decide_eq_true hpa] at l2;simp only [pk, hc] at l2;rw [hpi] at HP;simp only [pk, hc] at HP;replace HP := A7.mk HP;rw [hEC] at l1 l2 hgb1 HP SP HC;replace SP := A7.mk SP;clear hc S S1 h1 h2 hid hpa ep hids hpi hR hEC EC;have mixed : Try.prog.follows .mixedOrders = true := by kernel_rfl
 go_enter Try.func21, Try.ntmps21;go_wp2
 go_region_o
 go_wp2
 go_region_o
 go_wp2_with (go_at_call 29; refine HP.out.mono ?_; rintro e_ w1 ⟨rfl, hB⟩; have S2 := SP.out.keep hB; have q0 := (Aa (S2.at_blk 0 rfl) 0).trans rfl; obtain ⟨hx5, hx6⟩ := HC.out w1 S2; replace S2 := A7.mk S2; clear hB)
 go_ret
 exact ⟨rfl, Au.drop (l := GL (Al gb 61 #[.map (some bm)] :: Bg bm m ad ids :: pre) ad _ X) S2.out⟩
theorem Lh {w0 w : Pe} {Z : Nat -> Prop} {pre X : List Bj} {F : List FA} {ad : Int -> Nat} {g : List Hk} {gb bm m : Nat} {ids : List Int} (S : Au w0 Z (GL (Al gb 61 #[.map (some bm)] :: Bg bm m ad ids :: pre) ad g X) F w)
  (id pa af ki : Int) (tx tr : ByteArray) (h1 : in64 id) (h2 : in64 pa) (hid : id ∈ ids) (hpa : pa ∉ ids) :
  PJ Try.prog 21 #[.pointer (some ⟨gb, 0, none⟩), .agg #[.int .i64 1, .int .i64 id, .int .i64 pa, .int .i64 af, .int .i64 ki, .string tx, .string tr]] w fun e w' => e = .returned (.bool BK) /\ Au w0 Z (GL (Al gb 61 #[.map (some bm)] :: Bg bm m ad ids :: pre) ad g X) F w' := by
 obtain ⟨EC, hEC⟩ : ∃ EC : Array Pd, EC = #[.int .i64 1, .int .i64 id, .int .i64 pa, .int .i64 af, .int .i64 ki, .string tx, .string tr] := ⟨_, rfl⟩;have S1 : Au w0 Z (GL (Al w.heap.size 54 EC :: Al gb 61 #[.map (some bm)] :: Bg bm m ad ids :: pre) ad g X) F (w.alloc (.cells EC 54)) := S.box rfl (Pv w _) (Ah (Pn _ _) _);have l1 := AL (Ab S1) 2 rfl h1;have l2 := AL (Ab (Ab S1)) 2 rfl h2;have hgb1 : (w.alloc (.cells EC 54)).cell? ⟨gb, 0, none⟩ = some (.map (some bm)) := (Aa (S1.at_blk 1 rfl) 0).trans rfl;have SP := Ab (Ab S1);rw [if_pos hid, decide_eq_true hid] at l1;obtain ⟨a, ha⟩ : ∃ a, ad id = a := ⟨_, rfl⟩;simp only [pk, ha] at l1;rw [if_neg hpa, decide_eq_false hpa] at l2;rw [hEC] at l1 l2 hgb1 SP;replace SP := A7.mk SP;clear S S1 h1 h2 hid hpa hEC EC ha;have mixed : Try.prog.follows .mixedOrders = true := by kernel_rfl
 go_enter Try.func21, Try.ntmps21;go_wp2
 go_region_o
 go_wp2
 go_region_o
 go_wp2
 go_ret
 exact ⟨rfl, Au.drop (l := GL (Al gb 61 #[.map (some bm)] :: Bg bm m ad ids :: pre) ad _ X) SP.out⟩
theorem Li {w0 w : Pe} {Z : Nat -> Prop} {pre X : List Bj} {F : List FA} {ad : Int -> Nat} {g : List Hk} {gb bm m : Nat} {ids : List Int} (S : Au w0 Z (GL (Al gb 61 #[.map (some bm)] :: Bg bm m ad ids :: pre) ad g X) F w)
  (id pa af ki : Int) (tx tr : ByteArray) (h1 : in64 id) (h2 : in64 pa) (hid : id ∈ ids) (hpa : pa ∈ ids) (haf : af = -1) :
  PJ Try.prog 21 #[.pointer (some ⟨gb, 0, none⟩), .agg #[.int .i64 1, .int .i64 id, .int .i64 pa, .int .i64 af, .int .i64 ki, .string tx, .string tr]] w fun e w' => e = .returned (.bool BK) /\ Au w0 Z (GL (Al gb 61 #[.map (some bm)] :: Bg bm m ad ids :: pre) ad g X) F w' := by
 obtain ⟨EC, hEC⟩ : ∃ EC : Array Pd, EC = #[.int .i64 1, .int .i64 id, .int .i64 pa, .int .i64 af, .int .i64 ki, .string tx, .string tr] := ⟨_, rfl⟩;have S1 : Au w0 Z (GL (Al w.heap.size 54 EC :: Al gb 61 #[.map (some bm)] :: Bg bm m ad ids :: pre) ad g X) F (w.alloc (.cells EC 54)) := S.box rfl (Pv w _) (Ah (Pn _ _) _);have l1 := AL (Ab S1) 2 rfl h1;have l2 := AL (Ab (Ab S1)) 2 rfl h2;have hgb1 : (w.alloc (.cells EC 54)).cell? ⟨gb, 0, none⟩ = some (.map (some bm)) := (Aa (S1.at_blk 1 rfl) 0).trans rfl;have SP := Ab (Ab S1);rw [if_pos hid, decide_eq_true hid] at l1;obtain ⟨a, ha⟩ : ∃ a, ad id = a := ⟨_, rfl⟩;simp only [pk, ha] at l1;subst haf;rw [if_pos hpa, decide_eq_true hpa] at l2;obtain ⟨c, hc⟩ : ∃ c, ad pa = c := ⟨_, rfl⟩;simp only [pk, hc] at l2;rw [hEC] at l1 l2 hgb1 SP;clear hc;replace SP := A7.mk SP;clear S S1 h1 h2 hid hpa hEC EC ha;have mixed : Try.prog.follows .mixedOrders = true := by kernel_rfl
 go_enter Try.func21, Try.ntmps21;go_wp2
 go_region_o
 go_wp2
 go_region_o
 go_wp2
 go_ret
 exact ⟨rfl, Au.drop (l := GL (Al gb 61 #[.map (some bm)] :: Bg bm m ad ids :: pre) ad _ X) SP.out⟩
theorem Lj {w0 w : Pe} {Z : Nat -> Prop} {pre X : List Bj} {F : List FA} {ad : Int -> Nat} {g : List Hk} {gb bm m : Nat} {ids : List Int} (S : Au w0 Z (GL (Al gb 61 #[.map (some bm)] :: Bg bm m ad ids :: pre) ad g X) F w)
  (id pa af ki : Int) (tx tr : ByteArray) (h1 : in64 id) (h2 : in64 pa) (hid : id ∈ ids) (hpa : pa ∈ ids) (haf : ¬ af = -1) {jp : Nat} {hp : Hk} (ep : g[jp]? = some hp) (hpi : hp.k.id = pa) (hids : ∀ y ∈ hp.k.kids, ∃ (j : Nat) (h : Hk), g[j]? = some h /\ h.k.id = y) :
  PJ Try.prog 21 #[.pointer (some ⟨gb, 0, none⟩), .agg #[.int .i64 1, .int .i64 id, .int .i64 pa, .int .i64 af, .int .i64 ki, .string tx, .string tr]] w fun e w' => e = .returned (.bool BK) /\ Au w0 Z (GL (Al gb 61 #[.map (some bm)] :: Bg bm m ad ids :: pre) ad g X) F w' := by
 obtain ⟨EC, hEC⟩ : ∃ EC : Array Pd, EC = #[.int .i64 1, .int .i64 id, .int .i64 pa, .int .i64 af, .int .i64 ki, .string tx, .string tr] := ⟨_, rfl⟩;have S1 : Au w0 Z (GL (Al w.heap.size 54 EC :: Al gb 61 #[.map (some bm)] :: Bg bm m ad ids :: pre) ad g X) F (w.alloc (.cells EC 54)) := S.box rfl (Pv w _) (Ah (Pn _ _) _);have l1 := AL (Ab S1) 2 rfl h1;have l2 := AL (Ab (Ab S1)) 2 rfl h2;have hgb1 : (w.alloc (.cells EC 54)).cell? ⟨gb, 0, none⟩ = some (.map (some bm)) := (Aa (S1.at_blk 1 rfl) 0).trans rfl;have SP := Ab (Ab S1);rw [if_pos hid, decide_eq_true hid] at l1;obtain ⟨a, ha⟩ : ∃ a, ad id = a := ⟨_, rfl⟩;simp only [pk, ha] at l1;have HP := Bq ad hp.k hp.v af _ (AR SP ep) (C5 SP ep) (fun y hy => by obtain ⟨jy, hy', e1, e2⟩ := hids y hy; rw [<- e2, Aa (AR SP e1) 0]; rfl);obtain ⟨R, hR⟩ : ∃ R, AO hp.k.kids af = R := ⟨_, rfl⟩;rw [hR] at HP;obtain ⟨c, hc⟩ : ∃ c, ad pa = c := ⟨_, rfl⟩;rw [if_pos hpa, decide_eq_true hpa] at l2;simp only [pk, hc] at l2;rw [hpi] at HP;simp only [pk, hc] at HP;replace HP := A7.mk HP;rw [hEC] at l1 l2 hgb1 SP HP;clear hc hR;replace SP := A7.mk SP;clear S S1 h1 h2 hid hpa hEC EC ep hpi hids ha;have mixed : Try.prog.follows .mixedOrders = true := by kernel_rfl
 go_enter Try.func21, Try.ntmps21;go_wp2
 go_region_o
 go_wp2
 go_region_o
 go_wp2_with (go_at_call 29; refine HP.out.mono ?_; rintro e_ w1 ⟨rfl, hB⟩; have S2 := SP.out.keep hB; have q0 := (Aa (S2.at_blk 0 rfl) 0).trans rfl; have q1 := (Aa (S2.at_blk 0 rfl) 1).trans rfl; have q3 := (Aa (S2.at_blk 0 rfl) 3).trans rfl; replace S2 := A7.mk S2; clear hB)
 go_ret
 exact ⟨rfl, Au.drop (l := GL (Al gb 61 #[.map (some bm)] :: Bg bm m ad ids :: pre) ad _ X) S2.out⟩
theorem Lk {w0 w : Pe} {Z : Nat -> Prop} {pre X : List Bj} {F : List FA} {ad : Int -> Nat} {g : List Hk} {gb bm m : Nat} {ids : List Int} (S : Au w0 Z (GL (Al gb 61 #[.map (some bm)] :: Bg bm m ad ids :: pre) ad g X) F w)
  (id pa af ki : Int) (tx tr : ByteArray) (h1 : in64 id) (h2 : in64 pa) (hid : id ∉ ids) (hneg : id < 0) (hpa : pa ∉ ids) :
  PJ Try.prog 21 #[.pointer (some ⟨gb, 0, none⟩), .agg #[.int .i64 1, .int .i64 id, .int .i64 pa, .int .i64 af, .int .i64 ki, .string tx, .string tr]] w fun e w' => e = .returned (.bool BK) /\ Au w0 Z (GL (Al gb 61 #[.map (some bm)] :: Bg bm m ad ids :: pre) ad g X) F w' := by
 obtain ⟨EC, hEC⟩ : ∃ EC : Array Pd, EC = #[.int .i64 1, .int .i64 id, .int .i64 pa, .int .i64 af, .int .i64 ki, .string tx, .string tr] := ⟨_, rfl⟩;have S1 : Au w0 Z (GL (Al w.heap.size 54 EC :: Al gb 61 #[.map (some bm)] :: Bg bm m ad ids :: pre) ad g X) F (w.alloc (.cells EC 54)) := S.box rfl (Pv w _) (Ah (Pn _ _) _);have l1 := AL (Ab S1) 2 rfl h1;have l2 := AL (Ab (Ab S1)) 2 rfl h2;have hgb1 : (w.alloc (.cells EC 54)).cell? ⟨gb, 0, none⟩ = some (.map (some bm)) := (Aa (S1.at_blk 1 rfl) 0).trans rfl;have SP := Ab (Ab S1);rw [if_neg hid, decide_eq_false hid] at l1;rw [if_neg hpa, decide_eq_false hpa] at l2;rw [hEC] at l1 l2 hgb1 SP;replace SP := A7.mk SP;clear S S1 h1 h2 hid hpa hEC EC;have mixed : Try.prog.follows .mixedOrders = true := by kernel_rfl
 go_enter Try.func21, Try.ntmps21;go_wp2
 go_region_o
 go_wp2
 go_region_o
 go_wp2
 go_ret
 exact ⟨rfl, Au.drop (l := GL (Al gb 61 #[.map (some bm)] :: Bg bm m ad ids :: pre) ad _ X) SP.out⟩
theorem Ll {w0 w : Pe} {Z : Nat -> Prop} {pre X : List Bj} {F : List FA} {ad : Int -> Nat} {g : List Hk} {gb bm m : Nat} {ids : List Int} (S : Au w0 Z (GL (Al gb 61 #[.map (some bm)] :: Bg bm m ad ids :: pre) ad g X) F w)
  (id pa af ki : Int) (tx tr : ByteArray) (h1 : in64 id) (h2 : in64 pa) (hid : id ∉ ids) (hneg : id < 0) (hpa : pa ∈ ids) (haf : af = -1) :
  PJ Try.prog 21 #[.pointer (some ⟨gb, 0, none⟩), .agg #[.int .i64 1, .int .i64 id, .int .i64 pa, .int .i64 af, .int .i64 ki, .string tx, .string tr]] w fun e w' => e = .returned (.bool BK) /\ Au w0 Z (GL (Al gb 61 #[.map (some bm)] :: Bg bm m ad ids :: pre) ad g X) F w' := by
 obtain ⟨EC, hEC⟩ : ∃ EC : Array Pd, EC = #[.int .i64 1, .int .i64 id, .int .i64 pa, .int .i64 af, .int .i64 ki, .string tx, .string tr] := ⟨_, rfl⟩;have S1 : Au w0 Z (GL (Al w.heap.size 54 EC :: Al gb 61 #[.map (some bm)] :: Bg bm m ad ids :: pre) ad g X) F (w.alloc (.cells EC 54)) := S.box rfl (Pv w _) (Ah (Pn _ _) _);have l1 := AL (Ab S1) 2 rfl h1;have l2 := AL (Ab (Ab S1)) 2 rfl h2;have hgb1 : (w.alloc (.cells EC 54)).cell? ⟨gb, 0, none⟩ = some (.map (some bm)) := (Aa (S1.at_blk 1 rfl) 0).trans rfl;have SP := Ab (Ab S1);rw [if_neg hid, decide_eq_false hid] at l1;subst haf;rw [if_pos hpa, decide_eq_true hpa] at l2;obtain ⟨c, hc⟩ : ∃ c, ad pa = c := ⟨_, rfl⟩;simp only [pk, hc] at l2;rw [hEC] at l1 l2 hgb1 SP;clear hc;replace SP := A7.mk SP;clear S S1 h1 h2 hid hpa hEC EC;have mixed : Try.prog.follows .mixedOrders = true := by kernel_rfl
 go_enter Try.func21, Try.ntmps21;go_wp2
 go_region_o
 go_wp2
 go_region_o
 go_wp2
 go_ret
 exact ⟨rfl, Au.drop (l := GL (Al gb 61 #[.map (some bm)] :: Bg bm m ad ids :: pre) ad _ X) SP.out⟩
theorem Lm {w0 w : Pe} {Z : Nat -> Prop} {pre X : List Bj} {F : List FA} {ad : Int -> Nat} {g : List Hk} {gb bm m : Nat} {ids : List Int} (S : Au w0 Z (GL (Al gb 61 #[.map (some bm)] :: Bg bm m ad ids :: pre) ad g X) F w)
  (id pa af ki : Int) (tx tr : ByteArray) (h1 : in64 id) (h2 : in64 pa) (hid : id ∉ ids) (hneg : id < 0) (hpa : pa ∈ ids) (haf : ¬ af = -1) {jp : Nat} {hp : Hk} (ep : g[jp]? = some hp) (hpi : hp.k.id = pa) (hids : ∀ y ∈ hp.k.kids, ∃ (j : Nat) (h : Hk), g[j]? = some h /\ h.k.id = y) :
  PJ Try.prog 21 #[.pointer (some ⟨gb, 0, none⟩), .agg #[.int .i64 1, .int .i64 id, .int .i64 pa, .int .i64 af, .int .i64 ki, .string tx, .string tr]] w fun e w' => e = .returned (.bool BK) /\ Au w0 Z (GL (Al gb 61 #[.map (some bm)] :: Bg bm m ad ids :: pre) ad g X) F w' := by
 obtain ⟨EC, hEC⟩ : ∃ EC : Array Pd, EC = #[.int .i64 1, .int .i64 id, .int .i64 pa, .int .i64 af, .int .i64 ki, .string tx, .string tr] := ⟨_, rfl⟩;have S1 : Au w0 Z (GL (Al w.heap.size 54 EC :: Al gb 61 #[.map (some bm)] :: Bg bm m ad ids :: pre) ad g X) F (w.alloc (.cells EC 54)) := S.box rfl (Pv w _) (Ah (Pn _ _) _);have l1 := AL (Ab S1) 2 rfl h1;have l2 := AL (Ab (Ab S1)) 2 rfl h2;have hgb1 : (w.alloc (.cells EC 54)).cell? ⟨gb, 0, none⟩ = some (.map (some bm)) := (Aa (S1.at_blk 1 rfl) 0).trans rfl;have SP := Ab (Ab S1);rw [if_neg hid, decide_eq_false hid] at l1;have HP := Bq ad hp.k hp.v af _ (AR SP ep) (C5 SP ep) (fun y hy => by obtain ⟨jy, hy', e1, e2⟩ := hids y hy; rw [<- e2, Aa (AR SP e1) 0]; rfl);obtain ⟨R, hR⟩ : ∃ R, AO hp.k.kids af = R := ⟨_, rfl⟩;rw [hR] at HP;obtain ⟨c, hc⟩ : ∃ c, ad pa = c := ⟨_, rfl⟩;rw [if_pos hpa, decide_eq_true hpa] at l2;simp only [pk, hc] at l2;rw [hpi] at HP;simp only [pk, hc] at HP;replace HP := A7.mk HP;rw [hEC] at l1 l2 hgb1 SP HP;clear hc hR;replace SP := A7.mk SP;clear S S1 h1 h2 hid hpa hEC EC ep hpi hids;have mixed : Try.prog.follows .mixedOrders = true := by kernel_rfl
 go_enter Try.func21, Try.ntmps21;go_wp2
 go_region_o
 go_wp2
 go_region_o
 go_wp2_with (go_at_call 29; refine HP.out.mono ?_; rintro e_ w1 ⟨rfl, hB⟩; have S2 := SP.out.keep hB; have q0 := (Aa (S2.at_blk 0 rfl) 0).trans rfl; have q1 := (Aa (S2.at_blk 0 rfl) 1).trans rfl; have q3 := (Aa (S2.at_blk 0 rfl) 3).trans rfl; replace S2 := A7.mk S2; clear hB)
 go_ret
 exact ⟨rfl, Au.drop (l := GL (Al gb 61 #[.map (some bm)] :: Bg bm m ad ids :: pre) ad _ X) S2.out⟩
theorem Ln {w0 w : Pe} {Z : Nat -> Prop} {pre X : List Bj} {F : List FA} {ad : Int -> Nat} {g : List Hk} {gb bm m : Nat} {ids : List Int} (S : Au w0 Z (GL (Al gb 61 #[.map (some bm)] :: Bg bm m ad ids :: pre) ad g X) F w)
  (id pa af ki : Int) (tx tr : ByteArray) (h1 : in64 id) (h2 : in64 pa) (hid : id ∉ ids) (hneg : ¬ id < 0) (hpa : pa ∉ ids) :
  PJ Try.prog 21 #[.pointer (some ⟨gb, 0, none⟩), .agg #[.int .i64 1, .int .i64 id, .int .i64 pa, .int .i64 af, .int .i64 ki, .string tx, .string tr]] w fun e w' => e = .returned (.bool BK) /\ Au w0 Z (GL (Al gb 61 #[.map (some bm)] :: Bg bm m ad ids :: pre) ad g X) F w' := by
 obtain ⟨EC, hEC⟩ : ∃ EC : Array Pd, EC = #[.int .i64 1, .int .i64 id, .int .i64 pa, .int .i64 af, .int .i64 ki, .string tx, .string tr] := ⟨_, rfl⟩;have S1 : Au w0 Z (GL (Al w.heap.size 54 EC :: Al gb 61 #[.map (some bm)] :: Bg bm m ad ids :: pre) ad g X) F (w.alloc (.cells EC 54)) := S.box rfl (Pv w _) (Ah (Pn _ _) _);have l1 := AL (Ab S1) 2 rfl h1;have l2 := AL (Ab (Ab S1)) 2 rfl h2;have hgb1 : (w.alloc (.cells EC 54)).cell? ⟨gb, 0, none⟩ = some (.map (some bm)) := (Aa (S1.at_blk 1 rfl) 0).trans rfl;have SP := Ab (Ab S1);rw [if_neg hid, decide_eq_false hid] at l1;rw [if_neg hpa, decide_eq_false hpa] at l2;rw [hEC] at l1 l2 hgb1 SP;replace SP := A7.mk SP;clear S S1 h1 h2 hid hpa hEC EC;have mixed : Try.prog.follows .mixedOrders = true := by kernel_rfl
 go_enter Try.func21, Try.ntmps21;go_wp2
 go_region_o
 go_wp2
 go_region_o
 go_wp2
 go_ret
 exact ⟨rfl, Au.drop (l := GL (Al gb 61 #[.map (some bm)] :: Bg bm m ad ids :: pre) ad _ X) SP.out⟩
theorem Lo {w0 w : Pe} {Z : Nat -> Prop} {pre X : List Bj} {F : List FA} {ad : Int -> Nat} {g : List Hk} {gb bm m : Nat} {ids : List Int} (S : Au w0 Z (GL (Al gb 61 #[.map (some bm)] :: Bg bm m ad ids :: pre) ad g X) F w)
  (id pa af ki : Int) (tx tr : ByteArray) (h1 : in64 id) (h2 : in64 pa) (hid : id ∉ ids) (hneg : ¬ id < 0) (hpa : pa ∈ ids) (haf : ¬ af = -1) {jp : Nat} {hp : Hk} (ep : g[jp]? = some hp) (hpi : hp.k.id = pa) (hids : ∀ y ∈ hp.k.kids, ∃ (j : Nat) (h : Hk), g[j]? = some h /\ h.k.id = y) (hspot : ¬ 0 <= AO hp.k.kids af) :
  PJ Try.prog 21 #[.pointer (some ⟨gb, 0, none⟩), .agg #[.int .i64 1, .int .i64 id, .int .i64 pa, .int .i64 af, .int .i64 ki, .string tx, .string tr]] w fun e w' => e = .returned (.bool BK) /\ Au w0 Z (GL (Al gb 61 #[.map (some bm)] :: Bg bm m ad ids :: pre) ad g X) F w' := by
 obtain ⟨EC, hEC⟩ : ∃ EC : Array Pd, EC = #[.int .i64 1, .int .i64 id, .int .i64 pa, .int .i64 af, .int .i64 ki, .string tx, .string tr] := ⟨_, rfl⟩;have S1 : Au w0 Z (GL (Al w.heap.size 54 EC :: Al gb 61 #[.map (some bm)] :: Bg bm m ad ids :: pre) ad g X) F (w.alloc (.cells EC 54)) := S.box rfl (Pv w _) (Ah (Pn _ _) _);have l1 := AL (Ab S1) 2 rfl h1;have l2 := AL (Ab (Ab S1)) 2 rfl h2;have hgb1 : (w.alloc (.cells EC 54)).cell? ⟨gb, 0, none⟩ = some (.map (some bm)) := (Aa (S1.at_blk 1 rfl) 0).trans rfl;have SP := Ab (Ab S1);rw [if_neg hid, decide_eq_false hid] at l1;have HP := Bq ad hp.k hp.v af _ (AR SP ep) (C5 SP ep) (fun y hy => by obtain ⟨jy, hy', e1, e2⟩ := hids y hy; rw [<- e2, Aa (AR SP e1) 0]; rfl);obtain ⟨R, hR⟩ : ∃ R, AO hp.k.kids af = R := ⟨_, rfl⟩;rw [hR] at HP hspot;have hs2 : decide (0 <= R) = BK := decide_eq_false hspot;have haf2 : (af == -1) = BK := by simpa using haf
 obtain ⟨c, hc⟩ : ∃ c, ad pa = c := ⟨_, rfl⟩;rw [if_pos hpa, decide_eq_true hpa] at l2;simp only [pk, hc] at l2;rw [hpi] at HP;simp only [pk, hc] at HP;replace HP := A7.mk HP;rw [hEC] at l1 l2 hgb1 SP HP;clear hc hR;replace SP := A7.mk SP;clear S S1 h1 h2 hid hpa hEC EC ep hpi hids;have mixed : Try.prog.follows .mixedOrders = true := by kernel_rfl
 go_enter Try.func21, Try.ntmps21;go_wp2
 go_region_o
 go_wp2
 go_region_o
 go_wp2_with (go_at_call 29; refine HP.out.mono ?_; rintro e_ w1 ⟨rfl, hB⟩; have S2 := SP.out.keep hB; have q0 := (Aa (S2.at_blk 0 rfl) 0).trans rfl; have q1 := (Aa (S2.at_blk 0 rfl) 1).trans rfl; have q3 := (Aa (S2.at_blk 0 rfl) 3).trans rfl; replace S2 := A7.mk S2; clear hB)
 go_ret
 exact ⟨rfl, Au.drop (l := GL (Al gb 61 #[.map (some bm)] :: Bg bm m ad ids :: pre) ad _ X) S2.out⟩
theorem Lp {w0 w : Pe} {Z : Nat -> Prop} {pre X : List Bj} {F : List FA} {ad : Int -> Nat} {g : List Hk} {gb bm m : Nat} {ids : List Int} (S : Au w0 Z (GL (Al gb 61 #[.map (some bm)] :: Bg bm m ad ids :: pre) ad g X) F w)
  (id pa af ki : Int) (tx tr : ByteArray) (h1 : in64 id) (h2 : in64 pa) (hid : id ∈ ids) {jx : Nat} {hx : Hk} (ex : g[jx]? = some hx) (hxi : hx.k.id = id) {q : Int} (hpar : hx.k.par = some q) (hpa : pa ∉ ids) :
  PJ Try.prog 21 #[.pointer (some ⟨gb, 0, none⟩), .agg #[.int .i64 4, .int .i64 id, .int .i64 pa, .int .i64 af, .int .i64 ki, .string tx, .string tr]] w fun e w' => e = .returned (.bool BK) /\ Au w0 Z (GL (Al gb 61 #[.map (some bm)] :: Bg bm m ad ids :: pre) ad g X) F w' := by
 obtain ⟨EC, hEC⟩ : ∃ EC : Array Pd, EC = #[.int .i64 4, .int .i64 id, .int .i64 pa, .int .i64 af, .int .i64 ki, .string tx, .string tr] := ⟨_, rfl⟩;have S1 : Au w0 Z (GL (Al w.heap.size 54 EC :: Al gb 61 #[.map (some bm)] :: Bg bm m ad ids :: pre) ad g X) F (w.alloc (.cells EC 54)) := S.box rfl (Pv w _) (Ah (Pn _ _) _);have l1 := AL (Ab S1) 2 rfl h1;have l2 := AL (Ab (Ab S1)) 2 rfl h2;have hgb1 : (w.alloc (.cells EC 54)).cell? ⟨gb, 0, none⟩ = some (.map (some bm)) := (Aa (S1.at_blk 1 rfl) 0).trans rfl;have SP := Ab (Ab S1);rw [if_pos hid, decide_eq_true hid] at l1;obtain ⟨a, ha⟩ : ∃ a, ad id = a := ⟨_, rfl⟩;simp only [pk, ha] at l1;obtain ⟨aq, haq⟩ : ∃ aq, ad q = aq := ⟨_, rfl⟩;have HB : ∀ W, Au w0 Z (GL (Al w.heap.size 54 EC :: Al gb 61 #[.map (some bm)] :: Bg bm m ad ids :: pre) ad g X) F W -> W.cell? ⟨a, 5, none⟩ = some (.pointer (some ⟨aq, 0, none⟩)) /\ True := fun W SW => ⟨by rw [<- ha, <- hxi]; exact (Aa (AR SW ex) 5).trans (show (Dc ad hx.k hx.v)[5]? = _ by show some (pp ad hx.k.par) = _; rw [hpar, <- haq]; rfl), trivial⟩
 obtain ⟨hx5, hx6⟩ := HB _ S1;have HC := A7.mk HB;rw [if_neg hpa, decide_eq_false hpa] at l2;rw [hEC] at l1 l2 hgb1 SP hx5 HC;replace SP := A7.mk SP;clear S S1 h1 h2 hid hpa hEC EC HB ex hxi hpar ha haq;have mixed : Try.prog.follows .mixedOrders = true := by kernel_rfl
 go_enter Try.func21, Try.ntmps21;go_wp2
 go_region_o
 go_wp2
 go_region_o
 go_wp2
 go_ret
 exact ⟨rfl, Au.drop (l := GL (Al gb 61 #[.map (some bm)] :: Bg bm m ad ids :: pre) ad _ X) SP.out⟩
theorem Lq {w0 w : Pe} {Z : Nat -> Prop} {pre X : List Bj} {F : List FA} {ad : Int -> Nat} {g : List Hk} {gb bm m : Nat} {ids : List Int} (S : Au w0 Z (GL (Al gb 61 #[.map (some bm)] :: Bg bm m ad ids :: pre) ad g X) F w)
  (id pa af ki : Int) (tx tr : ByteArray) (h1 : in64 id) (h2 : in64 pa) (hid : id ∈ ids) {jx : Nat} {hx : Hk} (ex : g[jx]? = some hx) (hxi : hx.k.id = id) {q : Int} (hpar : hx.k.par = some q) (hpa : pa ∈ ids) (haf : ¬ af = -1) {jp : Nat} {hp : Hk} (ep : g[jp]? = some hp) (hpi : hp.k.id = pa) (hids : ∀ y ∈ hp.k.kids, ∃ (j : Nat) (h : Hk), g[j]? = some h /\ h.k.id = y) (hspot : ¬ 0 <= AO hp.k.kids af) :
  PJ Try.prog 21 #[.pointer (some ⟨gb, 0, none⟩), .agg #[.int .i64 4, .int .i64 id, .int .i64 pa, .int .i64 af, .int .i64 ki, .string tx, .string tr]] w fun e w' => e = .returned (.bool BK) /\ Au w0 Z (GL (Al gb 61 #[.map (some bm)] :: Bg bm m ad ids :: pre) ad g X) F w' := by
 obtain ⟨EC, hEC⟩ : ∃ EC : Array Pd, EC = #[.int .i64 4, .int .i64 id, .int .i64 pa, .int .i64 af, .int .i64 ki, .string tx, .string tr] := ⟨_, rfl⟩;have S1 : Au w0 Z (GL (Al w.heap.size 54 EC :: Al gb 61 #[.map (some bm)] :: Bg bm m ad ids :: pre) ad g X) F (w.alloc (.cells EC 54)) := S.box rfl (Pv w _) (Ah (Pn _ _) _);have l1 := AL (Ab S1) 2 rfl h1;have l2 := AL (Ab (Ab S1)) 2 rfl h2;have hgb1 : (w.alloc (.cells EC 54)).cell? ⟨gb, 0, none⟩ = some (.map (some bm)) := (Aa (S1.at_blk 1 rfl) 0).trans rfl;have SP := Ab (Ab S1);rw [if_pos hid, decide_eq_true hid] at l1;obtain ⟨a, ha⟩ : ∃ a, ad id = a := ⟨_, rfl⟩;simp only [pk, ha] at l1;obtain ⟨aq, haq⟩ : ∃ aq, ad q = aq := ⟨_, rfl⟩;have HB : ∀ W, Au w0 Z (GL (Al w.heap.size 54 EC :: Al gb 61 #[.map (some bm)] :: Bg bm m ad ids :: pre) ad g X) F W -> W.cell? ⟨a, 5, none⟩ = some (.pointer (some ⟨aq, 0, none⟩)) /\ True := fun W SW => ⟨by rw [<- ha, <- hxi]; exact (Aa (AR SW ex) 5).trans (show (Dc ad hx.k hx.v)[5]? = _ by show some (pp ad hx.k.par) = _; rw [hpar, <- haq]; rfl), trivial⟩
 have HC := A7.mk HB;have HP := Bq ad hp.k hp.v af _ (AR SP ep) (C5 SP ep) (fun y hy => by obtain ⟨jy, hy', e1, e2⟩ := hids y hy; rw [<- e2, Aa (AR SP e1) 0]; rfl);obtain ⟨R, hR⟩ : ∃ R, AO hp.k.kids af = R := ⟨_, rfl⟩;rw [hR] at HP hspot;have hs2 : decide (0 <= R) = BK := decide_eq_false hspot;have haf2 : (af == -1) = BK := by simpa using haf
 obtain ⟨c, hc⟩ : ∃ c, ad pa = c := ⟨_, rfl⟩;rw [if_pos hpa, decide_eq_true hpa] at l2;simp only [pk, hc] at l2;rw [hpi] at HP;simp only [pk, hc] at HP;replace HP := A7.mk HP;rw [hEC] at l1 l2 hgb1 SP HC HP;clear hc hR;replace SP := A7.mk SP;clear S S1 h1 h2 hid hpa hEC EC ep hpi hids HB ex hxi hpar ha haq;have mixed : Try.prog.follows .mixedOrders = true := by kernel_rfl
 go_enter Try.func21, Try.ntmps21;go_wp2
 go_region_o
 go_wp2
 go_region_o
 go_wp2_with (go_at_call 29; refine HP.out.mono ?_; rintro e_ w1 ⟨rfl, hB⟩; have S2 := SP.out.keep hB; have q0 := (Aa (S2.at_blk 0 rfl) 0).trans rfl; have q1 := (Aa (S2.at_blk 0 rfl) 1).trans rfl; have q3 := (Aa (S2.at_blk 0 rfl) 3).trans rfl; obtain ⟨hx5, hx6⟩ := HC.out w1 S2; replace S2 := A7.mk S2; clear hB)
 go_ret
 exact ⟨rfl, Au.drop (l := GL (Al gb 61 #[.map (some bm)] :: Bg bm m ad ids :: pre) ad _ X) S2.out⟩
theorem Lr {w0 w : Pe} {Z : Nat -> Prop} {pre X : List Bj} {F : List FA} {ad : Int -> Nat} {g : List Hk} {gb bm m : Nat} {ids : List Int} (S : Au w0 Z (GL (Al gb 61 #[.map (some bm)] :: Bg bm m ad ids :: pre) ad g X) F w)
  (id pa af ki : Int) (tx tr : ByteArray) (h1 : in64 id) (h2 : in64 pa) (hid : id ∈ ids) {jx : Nat} {hx : Hk} (ex : g[jx]? = some hx) (hxi : hx.k.id = id) {q : Int} (hpar : hx.k.par = some q) (hpa : pa ∈ ids) (haf : ¬ af = -1) {jp : Nat} {hp : Hk} (ep : g[jp]? = some hp) (hpi : hp.k.id = pa) (hids : ∀ y ∈ hp.k.kids, ∃ (j : Nat) (h : Hk), g[j]? = some h /\ h.k.id = y) (hspot : 0 <= AO hp.k.kids af) (hai : af = id) :
  PJ Try.prog 21 #[.pointer (some ⟨gb, 0, none⟩), .agg #[.int .i64 4, .int .i64 id, .int .i64 pa, .int .i64 af, .int .i64 ki, .string tx, .string tr]] w fun e w' => e = .returned (.bool BK) /\ Au w0 Z (GL (Al gb 61 #[.map (some bm)] :: Bg bm m ad ids :: pre) ad g X) F w' := by
 have hai2 := hai.symm;clear hai;subst hai2;obtain ⟨EC, hEC⟩ : ∃ EC : Array Pd, EC = #[.int .i64 4, .int .i64 id, .int .i64 pa, .int .i64 id, .int .i64 ki, .string tx, .string tr] := ⟨_, rfl⟩;have S1 : Au w0 Z (GL (Al w.heap.size 54 EC :: Al gb 61 #[.map (some bm)] :: Bg bm m ad ids :: pre) ad g X) F (w.alloc (.cells EC 54)) := S.box rfl (Pv w _) (Ah (Pn _ _) _);have l1 := AL (Ab S1) 2 rfl h1;have l2 := AL (Ab (Ab S1)) 2 rfl h2;have hgb1 : (w.alloc (.cells EC 54)).cell? ⟨gb, 0, none⟩ = some (.map (some bm)) := (Aa (S1.at_blk 1 rfl) 0).trans rfl;have SP := Ab (Ab S1);rw [if_pos hid, decide_eq_true hid] at l1;obtain ⟨a, ha⟩ : ∃ a, ad id = a := ⟨_, rfl⟩;simp only [pk, ha] at l1;obtain ⟨aq, haq⟩ : ∃ aq, ad q = aq := ⟨_, rfl⟩;have HB : ∀ W, Au w0 Z (GL (Al w.heap.size 54 EC :: Al gb 61 #[.map (some bm)] :: Bg bm m ad ids :: pre) ad g X) F W -> W.cell? ⟨a, 5, none⟩ = some (.pointer (some ⟨aq, 0, none⟩)) /\ True := fun W SW => ⟨by rw [<- ha, <- hxi]; exact (Aa (AR SW ex) 5).trans (show (Dc ad hx.k hx.v)[5]? = _ by show some (pp ad hx.k.par) = _; rw [hpar, <- haq]; rfl), trivial⟩
 have HC := A7.mk HB;have HP := Bq ad hp.k hp.v id _ (AR SP ep) (C5 SP ep) (fun y hy => by obtain ⟨jy, hy', e1, e2⟩ := hids y hy; rw [<- e2, Aa (AR SP e1) 0]; rfl);obtain ⟨R, hR⟩ : ∃ R, AO hp.k.kids id = R := ⟨_, rfl⟩;rw [hR] at HP hspot;have hs2 : decide (0 <= R) = true := decide_eq_true hspot;obtain ⟨c, hc⟩ : ∃ c, ad pa = c := ⟨_, rfl⟩;rw [if_pos hpa, decide_eq_true hpa] at l2;simp only [pk, hc] at l2;rw [hpi] at HP;simp only [pk, hc] at HP;replace HP := A7.mk HP;rw [hEC] at l1 l2 hgb1 SP HC HP;clear hc hR;replace SP := A7.mk SP;clear S S1 h1 h2 hid hpa hEC EC ep hpi hids HB ex hxi hpar ha haq;have mixed : Try.prog.follows .mixedOrders = true := by kernel_rfl
 go_enter Try.func21, Try.ntmps21;go_wp2
 go_region_o
 go_wp2
 go_region_o
 go_wp2_with (go_at_call 29; refine HP.out.mono ?_; rintro e_ w1 ⟨rfl, hB⟩; have S2 := SP.out.keep hB; have q0 := (Aa (S2.at_blk 0 rfl) 0).trans rfl; have q1 := (Aa (S2.at_blk 0 rfl) 1).trans rfl; have q3 := (Aa (S2.at_blk 0 rfl) 3).trans rfl; obtain ⟨hx5, hx6⟩ := HC.out w1 S2; replace S2 := A7.mk S2; clear hB)
 go_ret
 exact ⟨rfl, Au.drop (l := GL (Al gb 61 #[.map (some bm)] :: Bg bm m ad ids :: pre) ad _ X) S2.out⟩
theorem Ls {w0 w : Pe} {Z : Nat -> Prop} {pre X : List Bj} {F : List FA} {ad : Int -> Nat} {g : List Hk} {gb bm m : Nat} {ids : List Int} (S : Au w0 Z (GL (Al gb 61 #[.map (some bm)] :: Bg bm m ad ids :: pre) ad g X) F w)
  (id pa af ki : Int) (tx tr : ByteArray) (h1 : in64 id) (h2 : in64 pa) (hid : id ∈ ids) {jx : Nat} {hx : Hk} (ex : g[jx]? = some hx) (hxi : hx.k.id = id) {q : Int} (hpar : hx.k.par = some q) (hpa : pa ∈ ids) (haf : af = -1) {jp : Nat} {hp : Hk} (ep : g[jp]? = some hp) (hpi : hp.k.id = pa) (hids : ∀ y ∈ hp.k.kids, ∃ (j : Nat) (h : Hk), g[j]? = some h /\ h.k.id = y) (hai : ¬ af = id) (I : CQ (BR g)) (hbl : ∀ n0 : Nat, ∃ n, n0 <= n /\ Cg (BR g) n pa id = true) :
  PJ Try.prog 21 #[.pointer (some ⟨gb, 0, none⟩), .agg #[.int .i64 4, .int .i64 id, .int .i64 pa, .int .i64 af, .int .i64 ki, .string tx, .string tr]] w fun e w' => e = .returned (.bool BK) /\ Au w0 Z (GL (Al gb 61 #[.map (some bm)] :: Bg bm m ad ids :: pre) ad g X) F w' := by
 obtain ⟨EC, hEC⟩ : ∃ EC : Array Pd, EC = #[.int .i64 4, .int .i64 id, .int .i64 pa, .int .i64 af, .int .i64 ki, .string tx, .string tr] := ⟨_, rfl⟩;have S1 : Au w0 Z (GL (Al w.heap.size 54 EC :: Al gb 61 #[.map (some bm)] :: Bg bm m ad ids :: pre) ad g X) F (w.alloc (.cells EC 54)) := S.box rfl (Pv w _) (Ah (Pn _ _) _);have l1 := AL (Ab S1) 2 rfl h1;have l2 := AL (Ab (Ab S1)) 2 rfl h2;have hgb1 : (w.alloc (.cells EC 54)).cell? ⟨gb, 0, none⟩ = some (.map (some bm)) := (Aa (S1.at_blk 1 rfl) 0).trans rfl;have SP := Ab (Ab S1);rw [if_pos hid, decide_eq_true hid] at l1;obtain ⟨a, ha⟩ : ∃ a, ad id = a := ⟨_, rfl⟩;simp only [pk, ha] at l1;obtain ⟨aq, haq⟩ : ∃ aq, ad q = aq := ⟨_, rfl⟩;have HB : ∀ W, Au w0 Z (GL (Al w.heap.size 54 EC :: Al gb 61 #[.map (some bm)] :: Bg bm m ad ids :: pre) ad g X) F W -> W.cell? ⟨a, 5, none⟩ = some (.pointer (some ⟨aq, 0, none⟩)) /\ True := fun W SW => ⟨by rw [<- ha, <- hxi]; exact (Aa (AR SW ex) 5).trans (show (Dc ad hx.k hx.v)[5]? = _ by show some (pp ad hx.k.par) = _; rw [hpar, <- haq]; rfl), trivial⟩
 obtain ⟨hx5, hx6⟩ := HB _ S1;have HC := A7.mk HB;have HBL : ∀ W, Au w0 Z (GL (Al w.heap.size 54 EC :: Al gb 61 #[.map (some bm)] :: Bg bm m ad ids :: pre) ad g X) F W -> PJ Try.prog 33 #[pk ad pa, pk ad id] W fun e w' => e = .returned (.bool true) /\ w' = W := fun W SW => by
  obtain ⟨n0, hn0⟩ := DI SW ep ex I;obtain ⟨n, hn, hb⟩ := hbl n0;have := hn0 n hn;rw [hpi, hxi, hb] at this;exact this
 simp only [pk, ha] at HBL;subst haf;rw [if_pos hpa, decide_eq_true hpa] at l2;obtain ⟨c, hc⟩ : ∃ c, ad pa = c := ⟨_, rfl⟩;simp only [pk, hc] at l2;simp only [hc] at HBL;rw [hEC] at l1 l2 hgb1 SP hx5 HC HBL;clear hc;replace SP := A7.mk SP;replace HBL := A7.mk HBL;clear hbl I;clear S S1 h1 h2 hid hpa hEC EC ep hpi hids HB ex hxi hpar ha haq;have mixed : Try.prog.follows .mixedOrders = true := by kernel_rfl
 go_enter Try.func21, Try.ntmps21;go_wp2
 go_region_o
 go_wp2
 go_region_o
 go_wp2_with (go_at_call 33; refine (HBL.out _ SP.out).mono ?_; rintro e_ w2 ⟨rfl, rfl⟩)
 go_ret
 exact ⟨rfl, Au.drop (l := GL (Al gb 61 #[.map (some bm)] :: Bg bm m ad ids :: pre) ad _ X) SP.out⟩
theorem Lt {w0 w : Pe} {Z : Nat -> Prop} {pre X : List Bj} {F : List FA} {ad : Int -> Nat} {g : List Hk} {gb bm m : Nat} {ids : List Int} (S : Au w0 Z (GL (Al gb 61 #[.map (some bm)] :: Bg bm m ad ids :: pre) ad g X) F w)
  (id pa af ki : Int) (tx tr : ByteArray) (h1 : in64 id) (h2 : in64 pa) (hid : id ∈ ids) {jx : Nat} {hx : Hk} (ex : g[jx]? = some hx) (hxi : hx.k.id = id) {q : Int} (hpar : hx.k.par = some q) (hpa : pa ∈ ids) (haf : ¬ af = -1) {jp : Nat} {hp : Hk} (ep : g[jp]? = some hp) (hpi : hp.k.id = pa) (hids : ∀ y ∈ hp.k.kids, ∃ (j : Nat) (h : Hk), g[j]? = some h /\ h.k.id = y) (hspot : 0 <= AO hp.k.kids af) (hai : ¬ af = id) (I : CQ (BR g)) (hbl : ∀ n0 : Nat, ∃ n, n0 <= n /\ Cg (BR g) n pa id = true) :
  PJ Try.prog 21 #[.pointer (some ⟨gb, 0, none⟩), .agg #[.int .i64 4, .int .i64 id, .int .i64 pa, .int .i64 af, .int .i64 ki, .string tx, .string tr]] w fun e w' => e = .returned (.bool BK) /\ Au w0 Z (GL (Al gb 61 #[.map (some bm)] :: Bg bm m ad ids :: pre) ad g X) F w' := by
 obtain ⟨EC, hEC⟩ : ∃ EC : Array Pd, EC = #[.int .i64 4, .int .i64 id, .int .i64 pa, .int .i64 af, .int .i64 ki, .string tx, .string tr] := ⟨_, rfl⟩;have S1 : Au w0 Z (GL (Al w.heap.size 54 EC :: Al gb 61 #[.map (some bm)] :: Bg bm m ad ids :: pre) ad g X) F (w.alloc (.cells EC 54)) := S.box rfl (Pv w _) (Ah (Pn _ _) _);have l1 := AL (Ab S1) 2 rfl h1;have l2 := AL (Ab (Ab S1)) 2 rfl h2;have hgb1 : (w.alloc (.cells EC 54)).cell? ⟨gb, 0, none⟩ = some (.map (some bm)) := (Aa (S1.at_blk 1 rfl) 0).trans rfl;have SP := Ab (Ab S1);rw [if_pos hid, decide_eq_true hid] at l1;obtain ⟨a, ha⟩ : ∃ a, ad id = a := ⟨_, rfl⟩;simp only [pk, ha] at l1;obtain ⟨aq, haq⟩ : ∃ aq, ad q = aq := ⟨_, rfl⟩;have HB : ∀ W, Au w0 Z (GL (Al w.heap.size 54 EC :: Al gb 61 #[.map (some bm)] :: Bg bm m ad ids :: pre) ad g X) F W -> W.cell? ⟨a, 5, none⟩ = some (.pointer (some ⟨aq, 0, none⟩)) /\ True := fun W SW => ⟨by rw [<- ha, <- hxi]; exact (Aa (AR SW ex) 5).trans (show (Dc ad hx.k hx.v)[5]? = _ by show some (pp ad hx.k.par) = _; rw [hpar, <- haq]; rfl), trivial⟩
 have HC := A7.mk HB;have HBL : ∀ W, Au w0 Z (GL (Al w.heap.size 54 EC :: Al gb 61 #[.map (some bm)] :: Bg bm m ad ids :: pre) ad g X) F W -> PJ Try.prog 33 #[pk ad pa, pk ad id] W fun e w' => e = .returned (.bool true) /\ w' = W := fun W SW => by
  obtain ⟨n0, hn0⟩ := DI SW ep ex I;obtain ⟨n, hn, hb⟩ := hbl n0;have := hn0 n hn;rw [hpi, hxi, hb] at this;exact this
 simp only [pk, ha] at HBL;have HP := Bq ad hp.k hp.v af _ (AR SP ep) (C5 SP ep) (fun y hy => by obtain ⟨jy, hy', e1, e2⟩ := hids y hy; rw [<- e2, Aa (AR SP e1) 0]; rfl);obtain ⟨R, hR⟩ : ∃ R, AO hp.k.kids af = R := ⟨_, rfl⟩;rw [hR] at HP hspot;have hs2 : decide (0 <= R) = true := decide_eq_true hspot;obtain ⟨c, hc⟩ : ∃ c, ad pa = c := ⟨_, rfl⟩;rw [if_pos hpa, decide_eq_true hpa] at l2;simp only [pk, hc] at l2;rw [hpi] at HP;simp only [pk, hc] at HP HBL;replace HP := A7.mk HP;rw [hEC] at l1 l2 hgb1 SP HC HBL HP;clear hc hR;replace SP := A7.mk SP;replace HBL := A7.mk HBL;clear hbl I;clear S S1 h1 h2 hid hpa hEC EC ep hpi hids HB ex hxi hpar ha haq;have mixed : Try.prog.follows .mixedOrders = true := by kernel_rfl
 go_enter Try.func21, Try.ntmps21;go_wp2
 go_region_o
 go_wp2
 go_region_o
 go_wp2_with (first | (go_at_call 29; refine HP.out.mono ?_; rintro e_ w1 ⟨rfl, hB⟩; have S2 := SP.out.keep hB; have q0 := (Aa (S2.at_blk 0 rfl) 0).trans rfl; have q1 := (Aa (S2.at_blk 0 rfl) 1).trans rfl; have q3 := (Aa (S2.at_blk 0 rfl) 3).trans rfl; obtain ⟨hx5, hx6⟩ := HC.out w1 S2; replace S2 := A7.mk S2; clear hB) | (go_at_call 33; refine (HBL.out _ S2.out).mono ?_; rintro e_ w2 ⟨rfl, rfl⟩))
 go_ret
 exact ⟨rfl, Au.drop (l := GL (Al gb 61 #[.map (some bm)] :: Bg bm m ad ids :: pre) ad _ X) S2.out⟩
theorem JK {w0 w : Pe} {Z : Nat -> Prop} {pre X : List Bj} {F : List FA} {ad : Int -> Nat} {g : List Hk} {gb bm m : Nat} {ids : List Int} (S : Au w0 Z (GL (Al gb 61 #[.map (some bm)] :: Bg bm m ad ids :: pre) ad g X) F w)
  (so id pa af ki : Int) (tx tr : ByteArray) (h1 : in64 id) (h2 : in64 pa) (n1 : ¬ so = 1) (n2 : ¬ so = 2) (n3 : ¬ so = 3) (n4 : ¬ so = 4) (hpa : pa ∉ ids) :
  PJ Try.prog 21 #[.pointer (some ⟨gb, 0, none⟩), .agg #[.int .i64 so, .int .i64 id, .int .i64 pa, .int .i64 af, .int .i64 ki, .string tx, .string tr]] w fun e w' => e = .returned (.bool BK) /\ Au w0 Z (GL (Al gb 61 #[.map (some bm)] :: Bg bm m ad ids :: pre) ad g X) F w' := by
 obtain ⟨EC, hEC⟩ : ∃ EC : Array Pd, EC = #[.int .i64 so, .int .i64 id, .int .i64 pa, .int .i64 af, .int .i64 ki, .string tx, .string tr] := ⟨_, rfl⟩;have S1 : Au w0 Z (GL (Al w.heap.size 54 EC :: Al gb 61 #[.map (some bm)] :: Bg bm m ad ids :: pre) ad g X) F (w.alloc (.cells EC 54)) := S.box rfl (Pv w _) (Ah (Pn _ _) _);have l1 := AL (Ab S1) 2 rfl h1;have l2 := AL (Ab (Ab S1)) 2 rfl h2;have hgb1 : (w.alloc (.cells EC 54)).cell? ⟨gb, 0, none⟩ = some (.map (some bm)) := (Aa (S1.at_blk 1 rfl) 0).trans rfl;have SP := Ab (Ab S1);obtain ⟨kv, hkv⟩ : ∃ kv, (if id ∈ ids then pk ad id else .pointer none) = kv := ⟨_, rfl⟩;obtain ⟨kb, hkb⟩ : ∃ kb, decide (id ∈ ids) = kb := ⟨_, rfl⟩;rw [hkv, hkb] at l1;clear hkv hkb;rw [if_neg hpa, decide_eq_false hpa] at l2;rw [hEC] at l1 l2 hgb1 SP;replace SP := A7.mk SP;clear S S1 h1 h2 hpa hEC EC;have mixed : Try.prog.follows .mixedOrders = true := by kernel_rfl
 go_enter Try.func21, Try.ntmps21;go_wp2
 go_region_o
 go_wp2
 go_region_o
 go_wp2
 go_ret
 exact ⟨rfl, Au.drop (l := GL (Al gb 61 #[.map (some bm)] :: Bg bm m ad ids :: pre) ad _ X) SP.out⟩
theorem JL {w0 w : Pe} {Z : Nat -> Prop} {pre X : List Bj} {F : List FA} {ad : Int -> Nat} {g : List Hk} {gb bm m : Nat} {ids : List Int} (S : Au w0 Z (GL (Al gb 61 #[.map (some bm)] :: Bg bm m ad ids :: pre) ad g X) F w)
  (so id pa af ki : Int) (tx tr : ByteArray) (h1 : in64 id) (h2 : in64 pa) (n1 : ¬ so = 1) (n2 : ¬ so = 2) (n3 : ¬ so = 3) (n4 : ¬ so = 4) (hpa : pa ∈ ids) (haf : af = -1) :
  PJ Try.prog 21 #[.pointer (some ⟨gb, 0, none⟩), .agg #[.int .i64 so, .int .i64 id, .int .i64 pa, .int .i64 af, .int .i64 ki, .string tx, .string tr]] w fun e w' => e = .returned (.bool BK) /\ Au w0 Z (GL (Al gb 61 #[.map (some bm)] :: Bg bm m ad ids :: pre) ad g X) F w' := by
 obtain ⟨EC, hEC⟩ : ∃ EC : Array Pd, EC = #[.int .i64 so, .int .i64 id, .int .i64 pa, .int .i64 af, .int .i64 ki, .string tx, .string tr] := ⟨_, rfl⟩;have S1 : Au w0 Z (GL (Al w.heap.size 54 EC :: Al gb 61 #[.map (some bm)] :: Bg bm m ad ids :: pre) ad g X) F (w.alloc (.cells EC 54)) := S.box rfl (Pv w _) (Ah (Pn _ _) _);have l1 := AL (Ab S1) 2 rfl h1;have l2 := AL (Ab (Ab S1)) 2 rfl h2;have hgb1 : (w.alloc (.cells EC 54)).cell? ⟨gb, 0, none⟩ = some (.map (some bm)) := (Aa (S1.at_blk 1 rfl) 0).trans rfl;have SP := Ab (Ab S1);obtain ⟨kv, hkv⟩ : ∃ kv, (if id ∈ ids then pk ad id else .pointer none) = kv := ⟨_, rfl⟩;obtain ⟨kb, hkb⟩ : ∃ kb, decide (id ∈ ids) = kb := ⟨_, rfl⟩;rw [hkv, hkb] at l1;clear hkv hkb;subst haf;rw [if_pos hpa, decide_eq_true hpa] at l2;obtain ⟨c, hc⟩ : ∃ c, ad pa = c := ⟨_, rfl⟩;simp only [pk, hc] at l2;rw [hEC] at l1 l2 hgb1 SP;replace SP := A7.mk SP;clear hc S S1 h1 h2 hpa hEC EC;have mixed : Try.prog.follows .mixedOrders = true := by kernel_rfl
 go_enter Try.func21, Try.ntmps21;go_wp2
 go_region_o
 go_wp2
 go_region_o
 go_wp2
 go_ret
 exact ⟨rfl, Au.drop (l := GL (Al gb 61 #[.map (some bm)] :: Bg bm m ad ids :: pre) ad _ X) SP.out⟩
theorem JM {w0 w : Pe} {Z : Nat -> Prop} {pre X : List Bj} {F : List FA} {ad : Int -> Nat} {g : List Hk} {gb bm m : Nat} {ids : List Int} (S : Au w0 Z (GL (Al gb 61 #[.map (some bm)] :: Bg bm m ad ids :: pre) ad g X) F w)
  (so id pa af ki : Int) (tx tr : ByteArray) (h1 : in64 id) (h2 : in64 pa) (n1 : ¬ so = 1) (n2 : ¬ so = 2) (n3 : ¬ so = 3) (n4 : ¬ so = 4) (hpa : pa ∈ ids) (haf : ¬ af = -1) {jp : Nat} {hp : Hk} (ep : g[jp]? = some hp) (hpi : hp.k.id = pa) (hids : ∀ y ∈ hp.k.kids, ∃ (j : Nat) (h : Hk), g[j]? = some h /\ h.k.id = y) :
  PJ Try.prog 21 #[.pointer (some ⟨gb, 0, none⟩), .agg #[.int .i64 so, .int .i64 id, .int .i64 pa, .int .i64 af, .int .i64 ki, .string tx, .string tr]] w fun e w' => e = .returned (.bool BK) /\ Au w0 Z (GL (Al gb 61 #[.map (some bm)] :: Bg bm m ad ids :: pre) ad g X) F w' := by
 obtain ⟨EC, hEC⟩ : ∃ EC : Array Pd, EC = #[.int .i64 so, .int .i64 id, .int .i64 pa, .int .i64 af, .int .i64 ki, .string tx, .string tr] := ⟨_, rfl⟩;have S1 : Au w0 Z (GL (Al w.heap.size 54 EC :: Al gb 61 #[.map (some bm)] :: Bg bm m ad ids :: pre) ad g X) F (w.alloc (.cells EC 54)) := S.box rfl (Pv w _) (Ah (Pn _ _) _);have l1 := AL (Ab S1) 2 rfl h1;have l2 := AL (Ab (Ab S1)) 2 rfl h2;have hgb1 : (w.alloc (.cells EC 54)).cell? ⟨gb, 0, none⟩ = some (.map (some bm)) := (Aa (S1.at_blk 1 rfl) 0).trans rfl;have SP := Ab (Ab S1);obtain ⟨kv, hkv⟩ : ∃ kv, (if id ∈ ids then pk ad id else .pointer none) = kv := ⟨_, rfl⟩;obtain ⟨kb, hkb⟩ : ∃ kb, decide (id ∈ ids) = kb := ⟨_, rfl⟩;rw [hkv, hkb] at l1;clear hkv hkb;have HP := Bq ad hp.k hp.v af _ (AR SP ep) (C5 SP ep) (fun y hy => by obtain ⟨jy, hy', e1, e2⟩ := hids y hy; rw [<- e2, Aa (AR SP e1) 0]; rfl);obtain ⟨R, hR⟩ : ∃ R, AO hp.k.kids af = R := ⟨_, rfl⟩;rw [hR] at HP;obtain ⟨c, hc⟩ : ∃ c, ad pa = c := ⟨_, rfl⟩;rw [if_pos hpa, decide_eq_true hpa] at l2;simp only [pk, hc] at l2;rw [hpi] at HP;simp only [pk, hc] at HP;replace HP := A7.mk HP;rw [hEC] at l1 l2 hgb1 HP SP;replace SP := A7.mk SP;clear hc S S1 h1 h2 hpa ep hids hpi hR hEC EC;have mixed : Try.prog.follows .mixedOrders = true := by kernel_rfl
 go_enter Try.func21, Try.ntmps21;go_wp2
 go_region_o
 go_wp2
 go_region_o
 go_wp2_with (go_at_call 29; refine HP.out.mono ?_; rintro e_ w1 ⟨rfl, hB⟩; have S2 := SP.out.keep hB; have q0 := (Aa (S2.at_blk 0 rfl) 0).trans rfl; replace S2 := A7.mk S2; clear hB)
 go_ret
 exact ⟨rfl, Au.drop (l := GL (Al gb 61 #[.map (some bm)] :: Bg bm m ad ids :: pre) ad _ X) S2.out⟩
theorem De {P : Program} {ops : Array Oper} {o : Oper} {a : Act} {w : Pe} {K : Act -> Pe -> Prop} {Q : Exit -> Act -> Pe -> Prop} {E : Prop}
  (hg : o.guard = none) (t : TypeId) (m k x : Operand) (hop : o.op = Op.mapUpdate t m k x)
  (vm vk vx : Pd) (hm : a.eval m = vm) (hk : a.eval k = vk) (hx : a.eval x = vx) {w' : Pe} (hr : (R2 t vm vk vx).run P w = .ok () w') (hK : K (a.put o.dst (.tuple #[])) w') :
  if PR o (yielded ops a.tmps) = true then Oper.wp P o a w K Q else E := by
 have hw : PR o (yielded ops a.tmps) = true := by simp [PR, hg]
 rw [if_pos hw];unfold Oper.wp;simp [execOp, hop, hm, hk, hx, hr, Result.andThen];exact hK
def Bz (ad : Int -> Nat) (x : Int) (a : Nat) : Int -> Nat := fun j => if j = x then a else ad j
theorem DR (ad : Int -> Nat) (x : Int) (a : Nat) : Bz ad x a x = a := if_pos rfl
theorem Ct (ad : Int -> Nat) {x : Int} (a : Nat) {i : Int} (h : i ≠ x) : Bz ad x a i = ad i := if_neg h
def BU (id ki : Int) (tx tr : ByteArray) : Hk := ⟨⟨id, ki, tx, tr, none, []⟩, .slice none 0 0⟩
theorem My {w0 w : Pe} {Z : Nat -> Prop} {pre X : List Bj} {F : List FA} {ad : Int -> Nat} {g : List Hk} (S : Au w0 Z (GL pre ad g X) F w) (id ki : Int) (tx tr : ByteArray)
  (hn : ∀ x ∈ g, x.k.id ≠ id /\ (∀ p, x.k.par = some p -> p ≠ id) /\ ∀ i ∈ x.k.kids, i ≠ id) :
  Au w0 Z (GL pre (Bz ad id w.heap.size) (g ++ [BU id ki tx tr]) X) F (w.alloc (.cells #[.int .i64 id, .int .i64 ki, .string tx, .string tr, .slice none 0 0, .pointer none, .slice none 0 0] 80)) := by
 have S1 := S.box (w' := w.alloc (.cells #[.int .i64 id, .int .i64 ki, .string tx, .string tr, .slice none 0 0, .pointer none, .slice none 0 0] 80)) rfl (Pv w _) (Ah (Pn _ _) _);have S2 := S1.with (S1.st.row_nil 58 1)
 have e : F6 (Bz ad id w.heap.size) g = F6 ad g := Mj (fun x hx => ⟨Ct _ _ (hn x hx).1, fun p hp => Ct _ _ ((hn x hx).2.1 p hp), fun i hi => Ct _ _ ((hn x hx).2.2 i hi)⟩);refine S2.perm ?_;unfold GL;rw [Kt, e];have e2 : F6 (Bz ad id w.heap.size) [BU id ki tx tr] = [Al w.heap.size 80 #[.int .i64 id, .int .i64 ki, .string tx, .string tr, .slice none 0 0, .pointer none, .slice none 0 0], Bw (.slice none 0 0) 58 1 0 []] := by
  show Jv _ _ ++ [] = _
  unfold Jv Dc NQ BU;simp only [DR];rfl
 rw [e2];refine (Qq _ _ _).trans ?_;have h1 : ∀ (a b : Bj) (l1 l2 l3 : List Bj), (a :: b :: (l1 ++ (l2 ++ l3))).Perm (l1 ++ ((l2 ++ [a, b]) ++ l3)) := fun a b l1 l2 l3 => by
  rw [PP];refine List.Perm.trans (l₂ := l1 ++ (a :: b :: (l2 ++ l3))) ?_ (QM _ ?_)
  ·exact (Q8 (l₁ := [a, b]) (l₂ := l1)).append_right (l2 ++ l3) |>.trans (by simp)  |> fun h => by simpa using h
  ·exact (by simpa using (Q8 (l₁ := [a, b]) (l₂ := l2)).append_right l3)
 exact h1 _ _ _ _ _
theorem Nr {w0 w : Pe} {Z : Nat -> Prop} {pre X : List Bj} {F : List FA} {ad : Int -> Nat} {g : List Hk} {gb bm m : Nat} {ids : List Int} (S : Au w0 Z (GL (Al gb 61 #[.map (some bm)] :: Bg bm m ad ids :: pre) ad g X) F w)
  (id pa af ki : Int) (tx tr : ByteArray) (h1 : in64 id) (h2 : in64 pa) (hm2 : m < R7) (hid : id ∉ ids) (hneg : ¬ id < 0) (hpa : pa ∈ ids) {jp : Nat} {hp : Hk} (ep : g[jp]? = some hp) (hpi : hp.k.id = pa) (hids : ∀ y ∈ hp.k.kids, ∃ (j : Nat) (h : Hk), g[j]? = some h /\ h.k.id = y) (hlen : hp.k.kids.length <= 1000000)
  (hn : ∀ x ∈ g, x.k.id ≠ id /\ (∀ p, x.k.par = some p -> p ≠ id) /\ ∀ i ∈ x.k.kids, i ≠ id) (haf : af = -1) :
  PJ Try.prog 21 #[.pointer (some ⟨gb, 0, none⟩), .agg #[.int .i64 1, .int .i64 id, .int .i64 pa, .int .i64 af, .int .i64 ki, .string tx, .string tr]] w fun e w' => e = .returned (.bool true) /\ ∃ v' a, Au w0 Z (GL (Al gb 61 #[.map (some bm)] :: Bg bm (m + 1) (Bz ad id a) (ids ++ [id]) :: pre) (Bz ad id a) ((g.set jp ⟨hp.k.wKids (Bx hp.k.kids (CM hp.k.kids af).toNat id), v'⟩) ++ [⟨⟨id, ki, tx, tr, some pa, []⟩, .slice none 0 0⟩]) X) F w' := by
 obtain ⟨EC, hEC⟩ : ∃ EC : Array Pd, EC = #[.int .i64 1, .int .i64 id, .int .i64 pa, .int .i64 af, .int .i64 ki, .string tx, .string tr] := ⟨_, rfl⟩;have S1 : Au w0 Z (GL (Al w.heap.size 54 EC :: Al gb 61 #[.map (some bm)] :: Bg bm m ad ids :: pre) ad g X) F (w.alloc (.cells EC 54)) := S.box rfl (Pv w _) (Ah (Pn _ _) _);have l1 := AL (Ab S1) 2 rfl h1;have l2 := AL (Ab (Ab S1)) 2 rfl h2;have hgb1 : (w.alloc (.cells EC 54)).cell? ⟨gb, 0, none⟩ = some (.map (some bm)) := (Aa (S1.at_blk 1 rfl) 0).trans rfl;have SP := Ab (Ab S1);rw [if_neg hid, decide_eq_false hid] at l1;obtain ⟨c, hc⟩ : ∃ c, ad pa = c := ⟨_, rfl⟩;have hpn : pa ≠ id := fun e => hid (e ▸ hpa)
 have HN : ∀ (W : Pe) (n : Nat), W.heap.size = n -> Au w0 Z (GL (Al w.heap.size 54 EC :: Al gb 61 #[.map (some bm)] :: Bg bm m ad ids :: pre) ad g X) F W -> (W.alloc (.cells #[.int .i64 id, .int .i64 ki, .string tx, .string tr, .slice none 0 0, .pointer none, .slice none 0 0] 80)).cell? ⟨gb, 0, none⟩ = some (.map (some bm)) /\ (W.alloc (.cells #[.int .i64 id, .int .i64 ki, .string tx, .string tr, .slice none 0 0, .pointer none, .slice none 0 0] 80)).cell? ⟨w.heap.size, 1, none⟩ = some (.int .i64 id) /\ ∃ W2, (R2 59 (.map (some bm)) (.int .i64 id) (.pointer (some ⟨n, 0, none⟩))).run Try.prog (W.alloc (.cells #[.int .i64 id, .int .i64 ki, .string tx, .string tr, .slice none 0 0, .pointer none, .slice none 0 0] 80)).drew = .ok () W2 /\ W2.cell? ⟨w.heap.size, 3, none⟩ = some (.int .i64 af) /\
   PJ Try.prog 31 #[.pointer (some ⟨c, 0, none⟩), .pointer (some ⟨n, 0, none⟩), .int .i64 af] W2 fun e w' => e = .returned (.tuple #[]) /\ ∃ v' a, Au w0 Z (GL (Al w.heap.size 54 EC :: Al gb 61 #[.map (some bm)] :: Bg bm (m + 1) (Bz ad id a) (ids ++ [id]) :: pre) (Bz ad id a) ((g.set jp ⟨hp.k.wKids (Bx hp.k.kids (CM hp.k.kids af).toNat id), v'⟩) ++ [⟨⟨id, ki, tx, tr, some pa, []⟩, .slice none 0 0⟩]) X) F w' := by
  rintro W _ rfl SW;have T1 := My SW id ki tx tr hn;have T2 := Ab T1;obtain ⟨W2, hr, T3, _⟩ := Gi T2 2 rfl h1 hid hm2 W.heap.size;refine ⟨(Aa (T1.at_blk 1 rfl) 0).trans rfl, by rw [Aa (T1.at_blk 0 rfl) 1, hEC]; rfl, W2, hr, ?_, ?_⟩
  ·rw [Aa (T3.at_blk 0 rfl) 3, hEC]; rfl
  have hjl := (Pf.1 ep).1;have ex2 : (g ++ [BU id ki tx tr])[g.length]? = some (BU id ki tx tr) := by simp
  have ep2 : (g ++ [BU id ki tx tr])[jp]? = some hp := by rw [PQ hjl]; exact ep
  have T4 : Au w0 Z (GL (Al w.heap.size 54 EC :: Al gb 61 #[.map (some bm)] :: Bg bm (m + 1) (Bz ad id W.heap.size) (ids ++ [id]) :: pre) (Bz ad id W.heap.size) (g ++ [BU id ki tx tr]) X) F W2 := T3;have hP := FJ T4 ex2 ep2 (Rb hjl) (fun y hy => by
   obtain ⟨j, h, e1, e2⟩ := hids y hy;exact ⟨j, h, by rw [PQ (Pf.1 e1).1]; exact e1, e2⟩) hlen af
  have e1 : pk (Bz ad id W.heap.size) hp.k.id = .pointer (some ⟨c, 0, none⟩) := by unfold pk; rw [hpi, Ct _ _ hpn, hc]
  have e2 : pk (Bz ad id W.heap.size) (BU id ki tx tr).k.id = .pointer (some ⟨W.heap.size, 0, none⟩) := by unfold pk BU; rw [DR]
  rw [e1, e2] at hP;refine hP.mono ?_;rintro e w' ⟨v', rfl, S9⟩;refine ⟨rfl, v', W.heap.size, ?_⟩;rw [Sf _ _ hjl, QN _ _ (by simp)] at S9;simp only [Q6, Nat.sub_self, Pa] at S9;rw [<- hpi];exact S9
 rw [if_pos hpa, decide_eq_true hpa] at l2;simp only [pk, hc] at l2;generalize Bx hp.k.kids (CM hp.k.kids af).toNat id = newkids at HN ⊢;subst haf;rw [hEC] at l1 l2 hgb1 SP HN;obtain ⟨hgb2, _, W2, hmu, hW3, hput⟩ := HN _ (w.heap.size + 1) (by simp) SP;replace hmu : (R2 59 (.map (some bm)) (.int .i64 id) (.pointer (some ⟨w.heap.size + 1, 0, none⟩))).run Try.prog ((w.alloc (.cells #[.int .i64 1, .int .i64 id, .int .i64 pa, .int .i64 (-1), .int .i64 ki, .string tx, .string tr] 54)).alloc (.cells #[.int .i64 id, .int .i64 ki, .string tx, .string tr, .slice none 0 0, .pointer none, .slice none 0 0] 80)).drew.drew.drew = .ok () W2 := hmu;replace hgb2 : ((w.alloc (.cells #[.int .i64 1, .int .i64 id, .int .i64 pa, .int .i64 (-1), .int .i64 ki, .string tx, .string tr] 54)).alloc (.cells #[.int .i64 id, .int .i64 ki, .string tx, .string tr, .slice none 0 0, .pointer none, .slice none 0 0] 80)).cell? ⟨gb, 0, none⟩ = some (.map (some bm)) := hgb2;replace hput := A7.mk hput;clear SP HN hc S S1 h1 h2 hid hpa hEC EC hn hlen hids ep hpi;have mixed : Try.prog.follows .mixedOrders = true := by kernel_rfl
 go_enter Try.func21, Try.ntmps21;go_wp2
 go_region_o
 go_wp2
 go_region_o
 go_wp2
 go_region_law_o (refine De rfl 59 _ _ _ rfl _ _ _ (by simp [Q1, Ph]) (by simp [Q1, Ph]) (by simp [Q1, Ph]) hmu ?_)
 all_goals (go_wp2_with (go_at_call 31; refine hput.out.mono ?_; rintro e_ w9 ⟨rfl, v', a9, S9⟩; replace S9 := A7.mk S9))
 all_goals (go_ret; exact ⟨rfl, v', a9, Au.drop (l := GL (Al gb 61 #[.map (some bm)] :: Bg bm (m + 1) (Bz ad id a9) (ids ++ [id]) :: pre) _ _ X) S9.out⟩)
theorem Ns {w0 w : Pe} {Z : Nat -> Prop} {pre X : List Bj} {F : List FA} {ad : Int -> Nat} {g : List Hk} {gb bm m : Nat} {ids : List Int} (S : Au w0 Z (GL (Al gb 61 #[.map (some bm)] :: Bg bm m ad ids :: pre) ad g X) F w)
  (id pa af ki : Int) (tx tr : ByteArray) (h1 : in64 id) (h2 : in64 pa) (hm2 : m < R7) (hid : id ∉ ids) (hneg : ¬ id < 0) (hpa : pa ∈ ids) {jp : Nat} {hp : Hk} (ep : g[jp]? = some hp) (hpi : hp.k.id = pa) (hids : ∀ y ∈ hp.k.kids, ∃ (j : Nat) (h : Hk), g[j]? = some h /\ h.k.id = y) (hlen : hp.k.kids.length <= 1000000)
  (hn : ∀ x ∈ g, x.k.id ≠ id /\ (∀ p, x.k.par = some p -> p ≠ id) /\ ∀ i ∈ x.k.kids, i ≠ id) (haf : ¬ af = -1) (hspot : 0 <= AO hp.k.kids af) :
  PJ Try.prog 21 #[.pointer (some ⟨gb, 0, none⟩), .agg #[.int .i64 1, .int .i64 id, .int .i64 pa, .int .i64 af, .int .i64 ki, .string tx, .string tr]] w fun e w' => e = .returned (.bool true) /\ ∃ v' a, Au w0 Z (GL (Al gb 61 #[.map (some bm)] :: Bg bm (m + 1) (Bz ad id a) (ids ++ [id]) :: pre) (Bz ad id a) ((g.set jp ⟨hp.k.wKids (Bx hp.k.kids (CM hp.k.kids af).toNat id), v'⟩) ++ [⟨⟨id, ki, tx, tr, some pa, []⟩, .slice none 0 0⟩]) X) F w' := by
 obtain ⟨EC, hEC⟩ : ∃ EC : Array Pd, EC = #[.int .i64 1, .int .i64 id, .int .i64 pa, .int .i64 af, .int .i64 ki, .string tx, .string tr] := ⟨_, rfl⟩;have S1 : Au w0 Z (GL (Al w.heap.size 54 EC :: Al gb 61 #[.map (some bm)] :: Bg bm m ad ids :: pre) ad g X) F (w.alloc (.cells EC 54)) := S.box rfl (Pv w _) (Ah (Pn _ _) _);have l1 := AL (Ab S1) 2 rfl h1;have l2 := AL (Ab (Ab S1)) 2 rfl h2;have hgb1 : (w.alloc (.cells EC 54)).cell? ⟨gb, 0, none⟩ = some (.map (some bm)) := (Aa (S1.at_blk 1 rfl) 0).trans rfl;have SP := Ab (Ab S1);rw [if_neg hid, decide_eq_false hid] at l1;obtain ⟨c, hc⟩ : ∃ c, ad pa = c := ⟨_, rfl⟩;have hpn : pa ≠ id := fun e => hid (e ▸ hpa)
 have HN : ∀ (W : Pe) (n : Nat), W.heap.size = n -> Au w0 Z (GL (Al w.heap.size 54 EC :: Al gb 61 #[.map (some bm)] :: Bg bm m ad ids :: pre) ad g X) F W -> (W.alloc (.cells #[.int .i64 id, .int .i64 ki, .string tx, .string tr, .slice none 0 0, .pointer none, .slice none 0 0] 80)).cell? ⟨gb, 0, none⟩ = some (.map (some bm)) /\ (W.alloc (.cells #[.int .i64 id, .int .i64 ki, .string tx, .string tr, .slice none 0 0, .pointer none, .slice none 0 0] 80)).cell? ⟨w.heap.size, 1, none⟩ = some (.int .i64 id) /\ ∃ W2, (R2 59 (.map (some bm)) (.int .i64 id) (.pointer (some ⟨n, 0, none⟩))).run Try.prog (W.alloc (.cells #[.int .i64 id, .int .i64 ki, .string tx, .string tr, .slice none 0 0, .pointer none, .slice none 0 0] 80)).drew = .ok () W2 /\ W2.cell? ⟨w.heap.size, 3, none⟩ = some (.int .i64 af) /\
   PJ Try.prog 31 #[.pointer (some ⟨c, 0, none⟩), .pointer (some ⟨n, 0, none⟩), .int .i64 af] W2 fun e w' => e = .returned (.tuple #[]) /\ ∃ v' a, Au w0 Z (GL (Al w.heap.size 54 EC :: Al gb 61 #[.map (some bm)] :: Bg bm (m + 1) (Bz ad id a) (ids ++ [id]) :: pre) (Bz ad id a) ((g.set jp ⟨hp.k.wKids (Bx hp.k.kids (CM hp.k.kids af).toNat id), v'⟩) ++ [⟨⟨id, ki, tx, tr, some pa, []⟩, .slice none 0 0⟩]) X) F w' := by
  rintro W _ rfl SW;have T1 := My SW id ki tx tr hn;have T2 := Ab T1;obtain ⟨W2, hr, T3, _⟩ := Gi T2 2 rfl h1 hid hm2 W.heap.size;refine ⟨(Aa (T1.at_blk 1 rfl) 0).trans rfl, by rw [Aa (T1.at_blk 0 rfl) 1, hEC]; rfl, W2, hr, ?_, ?_⟩
  ·rw [Aa (T3.at_blk 0 rfl) 3, hEC]; rfl
  have hjl := (Pf.1 ep).1;have ex2 : (g ++ [BU id ki tx tr])[g.length]? = some (BU id ki tx tr) := by simp
  have ep2 : (g ++ [BU id ki tx tr])[jp]? = some hp := by rw [PQ hjl]; exact ep
  have T4 : Au w0 Z (GL (Al w.heap.size 54 EC :: Al gb 61 #[.map (some bm)] :: Bg bm (m + 1) (Bz ad id W.heap.size) (ids ++ [id]) :: pre) (Bz ad id W.heap.size) (g ++ [BU id ki tx tr]) X) F W2 := T3;have hP := FJ T4 ex2 ep2 (Rb hjl) (fun y hy => by
   obtain ⟨j, h, e1, e2⟩ := hids y hy;exact ⟨j, h, by rw [PQ (Pf.1 e1).1]; exact e1, e2⟩) hlen af
  have e1 : pk (Bz ad id W.heap.size) hp.k.id = .pointer (some ⟨c, 0, none⟩) := by unfold pk; rw [hpi, Ct _ _ hpn, hc]
  have e2 : pk (Bz ad id W.heap.size) (BU id ki tx tr).k.id = .pointer (some ⟨W.heap.size, 0, none⟩) := by unfold pk BU; rw [DR]
  rw [e1, e2] at hP;refine hP.mono ?_;rintro e w' ⟨v', rfl, S9⟩;refine ⟨rfl, v', W.heap.size, ?_⟩;rw [Sf _ _ hjl, QN _ _ (by simp)] at S9;simp only [Q6, Nat.sub_self, Pa] at S9;rw [<- hpi];exact S9
 rw [if_pos hpa, decide_eq_true hpa] at l2;simp only [pk, hc] at l2;generalize Bx hp.k.kids (CM hp.k.kids af).toNat id = newkids at HN ⊢;have HP := Bq ad hp.k hp.v af _ (AR SP ep) (C5 SP ep) (fun y hy => by obtain ⟨jy, hy', e1, e2⟩ := hids y hy; rw [<- e2, Aa (AR SP e1) 0]; rfl);obtain ⟨R, hR⟩ : ∃ R, AO hp.k.kids af = R := ⟨_, rfl⟩;rw [hR] at HP hspot;rw [hpi] at HP;simp only [pk, hc] at HP;replace HP := A7.mk HP;rw [hEC] at l1 l2 hgb1 SP HN HP;replace SP := A7.mk (And.intro SP HN);clear HN hc S S1 h1 h2 hid hpa hEC EC hn hlen hids ep hpi hR;have mixed : Try.prog.follows .mixedOrders = true := by kernel_rfl
 go_enter Try.func21, Try.ntmps21;go_wp2
 go_region_o
 go_wp2
 go_region_o
 go_wp2_with (go_at_call 29; refine HP.out.mono ?_; rintro e_ w1 ⟨rfl, hB⟩; have S2 := SP.out.1.keep hB; have q0 := (Aa (S2.at_blk 0 rfl) 0).trans rfl; have q1 := (Aa (S2.at_blk 0 rfl) 1).trans rfl; have q4 := (Aa (S2.at_blk 0 rfl) 4).trans rfl; have q5 := (Aa (S2.at_blk 0 rfl) 5).trans rfl; have q6 := (Aa (S2.at_blk 0 rfl) 6).trans rfl; obtain ⟨qg2, qi2, W2, hmu, hW3, hput⟩ := SP.out.2 _ _ rfl S2; replace hput := A7.mk hput; clear S2 hB)
 go_region_law_o (refine De rfl 59 _ _ _ rfl _ _ _ (by simp [Q1, Ph]) (by simp [Q1, Ph]) (by simp [Q1, Ph]) hmu ?_)
 all_goals (go_wp2_with (go_at_call 31; refine hput.out.mono ?_; rintro e_ w9 ⟨rfl, v', a9, S9⟩; replace S9 := A7.mk S9))
 all_goals (go_ret; exact ⟨rfl, v', a9, Au.drop (l := GL (Al gb 61 #[.map (some bm)] :: Bg bm (m + 1) (Bz ad id a9) (ids ++ [id]) :: pre) _ _ X) S9.out⟩)
end Go.Proofs.Q
namespace Go.Proofs.Q
open Go Go.RowKit Go.Proofs.V.Words Go.Proofs.V.SL
structure Ed where
 so : Int
 id : Int
 pa : Int
 af : Int
 ki : Int
 tx : ByteArray
 tr : ByteArray
def BN (g : List Kn) (i : Int) (f : Kn -> Kn) : List Kn := g.map fun k => if k.id = i then f k else k
theorem C2 {g : List Kn} {i : Int} {f : Kn -> Kn} (hf : ∀ k, (f k).id = k.id) : (BN g i f).map (·.id) = g.map (·.id) := by
 unfold BN;rw [RL];apply QJ;intro k _
 show (if k.id = i then f k else k).id = k.id
 split
 ·exact hf k
 ·rfl
theorem Cs {g : List Kn} {i : Int} {f : Kn -> Kn} {k : Kn} : k ∈ BN g i f ↔ ∃ x ∈ g, (if x.id = i then f x else x) = k := by
 unfold BN; rw [PF]
theorem KA {g : List Kn} {i : Int} {f : Kn -> Kn} (h : i ∉ g.map (·.id)) : BN g i f = g := by
 unfold BN;have : ∀ k ∈ g, (if k.id = i then f k else k) = k := fun k hk => if_neg (fun e => h (PF.2 ⟨k, hk, e⟩))
 rw [QJ this]; simp
theorem Mz {g : List Kn} {i j : Int} {f : Kn -> Kn} (hf : ∀ k, (f k).id = k.id) : CY (BN g i f) j = (CY g j).map (fun k => if k.id = i then f k else k) := by
 induction g with
 | nil => rfl
 | cons x r ih =>
  unfold CY BN at ih ⊢;rw [Py, List.find?_cons, List.find?_cons];have e : (if x.id = i then f x else x).id = x.id := by split; exact hf x; rfl
  rw [e];cases decide (x.id = j) with
  | true => rfl
  | false => exact ih
theorem Dp {g : List Hk} (hn : ((BR g).map (·.id)).Nodup) {j : Nat} {h h' : Hk} (hj : g[j]? = some h) {f : Kn -> Kn} (he : h'.k = f h.k) : BR (g.set j h') = BN (BR g) h.k.id f := by
 induction g generalizing j with
 | nil => simp at hj
 | cons x r ih =>
  simp only [BR, Py, Qn] at hn;cases j with
  | zero =>
   have : x = h := by simpa using hj
   subst this
   show h'.k :: r.map (·.k) = BN (x.k :: r.map (·.k)) x.k.id f
   have h3 := KA (g := r.map (·.k)) (i := x.k.id) (f := f) hn.1;unfold BN at h3 ⊢;rw [Py, if_pos rfl, h3, he]
  | succ j =>
   have hj2 : r[j]? = some h := by simpa using hj
   have h3 := ih hn.2 hj2
   show x.k :: BR (r.set j h') = BN (x.k :: BR r) h.k.id f
   rw [h3];unfold BN;rw [Py, if_neg];intro e;exact hn.1 (PF.2 ⟨h.k, PF.2 ⟨h, Pm hj2, rfl⟩, e.symm⟩)
def E6 (g : List Kn) (i t : Int) : Prop := ∃ n, Cg g n i t = true
theorem FZ {g : List Kn} {t : Int} : ∀ {n : Nat} {i : Int}, Cg g n i t = true -> Cg g (n + 1) i t = true
 | 0, i, h => by simp [Cg] at h
 | n + 1, i, h => by
  unfold Cg at h ⊢
  split
  ·rfl
  ·rename_i hne;rw [if_neg hne] at h
   split
   ·rename_i hn; rw [hn] at h; exact h
   ·rename_i p hp; rw [hp] at h; exact FZ h
theorem Ht {g : List Kn} {t i : Int} {n m : Nat} (h : Cg g n i t = true) (hm : n <= m) : Cg g m i t = true := by
 induction hm with
 | refl => exact h
 | step _ ih => exact FZ ih
theorem E6.refl (g : List Kn) (t : Int) : E6 g t t := ⟨1, by unfold Cg; rw [if_pos rfl]⟩
theorem E6.iff {g : List Kn} {i t : Int} : E6 g i t ↔ i = t \/ ∃ p, (CY g i).bind (·.par) = some p /\ E6 g p t := by
 constructor
 ·rintro ⟨n, hn⟩;cases n with
  | zero => simp [Cg] at hn
  | succ n =>
   unfold Cg at hn;by_cases e : i = t
   ·exact .inl e
   ·rw [if_neg e] at hn
    split at hn
    ·cases hn
    ·rename_i p hp; exact .inr ⟨p, hp, n, hn⟩
 ·rintro (rfl | ⟨p, hp, n, hn⟩)
  ·exact E6.refl g i
  ·refine ⟨n + 1, ?_⟩;unfold Cg
   split
   ·rfl
   ·rw [hp]; exact hn
theorem Gy {g : List Kn} {i t : Int} {n0 : Nat} {Q : Bool -> Prop} (h : ∀ n, n0 <= n -> Q (Cg g n i t)) : (E6 g i t -> Q true) /\ (¬ E6 g i t -> Q BK) := by
 constructor
 ·rintro ⟨n, hn⟩;have := h (max n0 n) (Rq _ _)
  rwa [Ht hn (Rh _ _)] at this
 ·intro hb;have := h n0 (Ps _);have e : Cg g n0 i t = BK := by
   cases he : Cg g n0 i t with
   | false => rfl
   | true => exact (hb ⟨_, he⟩).elim
  rwa [e] at this
def Kn.ins (x : Ed) (k : Kn) : Kn := k.wKids (Bx k.kids (CM k.kids x.af).toNat x.id)
def Kn.cut (i : Int) (k : Kn) : Kn := k.wKids (k.kids.filter fun y => decide (y ≠ i))
def Dk (g : List Kn) (x : Ed) : Prop := ∃ p, CY g x.pa = some p /\ (x.af = -1 \/ x.af ∈ p.kids)
def EU (g : List Kn) (x : Ed) : List Kn := BN g x.pa (Kn.ins x) ++ [⟨x.id, x.ki, x.tx, x.tr, some x.pa, []⟩]
def CW (g : List Kn) (q : Int) (x : Ed) : List Kn := (BN g q (Kn.cut x.id)).filter fun k => decide (k.id ≠ x.id)
def DJ (g : List Kn) (x : Ed) : List Kn := BN g x.id (fun k => k.wText x.tx x.tr)
def Ch (g : List Kn) (q : Int) (x : Ed) : List Kn := BN (BN (BN g q (Kn.cut x.id)) x.pa (Kn.ins x)) x.id (fun k => k.wPar (some x.pa))
open Classical in
noncomputable def Ce (g : List Kn) (x : Ed) : Option (List Kn) :=
 if x.so = 1 then if CY g x.id = none /\ 0 <= x.id /\ Dk g x then some (EU g x) else none
 else if x.so = 2 then match CY g x.id with
  | none => none
  | some k => match k.par with
   | none => none
   | some q => if k.kids = [] then some (CW g q x) else none
 else if x.so = 3 then match CY g x.id with
  | none => none
  | some _ => some (DJ g x)
 else if x.so = 4 then match CY g x.id with
  | none => none
  | some k => match k.par with
   | none => none
   | some q => if Dk g x /\ x.af ≠ x.id /\ ¬ E6 g x.pa x.id then some (Ch g q x) else none
 else none
theorem FL (x : Ed) (k : Kn) : (Kn.ins x k).id = k.id := rfl
theorem E7 (i : Int) (k : Kn) : (Kn.cut i k).id = k.id := rfl
theorem Hu {l : List Int} {i : Nat} {x y : Int} : y ∈ Bx l i x ↔ y = x \/ y ∈ l := by
 unfold Bx;rw [Qm, Qg]
 conv => rhs; rw [<- Ro i l, Qm]
 constructor
 ·rintro (h | h | h)
  ·exact .inr (.inl h)
  ·exact .inl h
  ·exact .inr (.inr h)
 ·rintro (h | h | h)
  ·exact .inr (.inl h)
  ·exact .inl h
  ·exact .inr (.inr h)
theorem G0 {l : List Int} {i : Nat} {x : Int} (h : l.Nodup) (hx : x ∉ l) : (Bx l i x).Nodup := by
 unfold Bx;have h2 : (l.take i ++ l.drop i).Nodup := by rw [Ro]; exact h
 have hx2 : x ∉ l.take i ++ l.drop i := by rw [Ro]; exact hx
 rw [Si] at h2 ⊢;rw [Qm] at hx2;refine ⟨h2.1, Qn.2 ⟨fun e => hx2 (.inr e), h2.2.1⟩, fun a ha b hb => ?_⟩;rcases Qg.1 hb with e | hb
 ·intro e2; exact hx2 (.inl (by rw [<- e, <- e2]; exact ha))
 ·exact h2.2.2 a ha b hb
theorem J7 {g : List Kn} {x : Ed} {f : Kn -> Kn} (hf1 : ∀ k, (f k).id = k.id) (hf2 : ∀ k, (f k).par = k.par) (hf3 : ∀ k i, i ∈ (f k).kids ↔ i = x.id \/ i ∈ k.kids) (hf4 : ∀ k : Kn, k.kids.Nodup -> x.id ∉ k.kids -> (f k).kids.Nodup)
  (I : CQ g) (hid : CY g x.id = none) (h0 : 0 <= x.id) (h64 : in64 x.id) {p : Kn} (hp : CY g x.pa = some p) : CQ (BN g x.pa f ++ [⟨x.id, x.ki, x.tx, x.tr, some x.pa, []⟩]) := by
 obtain ⟨hpm, hpi⟩ := Cn hp;have hni : x.id ∉ g.map (·.id) := CJ.1 hid;have hpn : x.pa ≠ x.id := fun e => hni (by rw [<- e, <- hpi]; exact PF.2 ⟨p, hpm, rfl⟩)
 have hkid : ∀ k ∈ g, x.id ∉ k.kids := fun k hk hm => by
  obtain ⟨y, hy, e, _⟩ := I.kids k hk _ hm;exact hni (PF.2 ⟨y, hy, e⟩)
 have hpar : ∀ k ∈ g, k.par ≠ some x.id := fun k hk hm => by
  obtain ⟨q, hq, e, _⟩ := I.par k hk _ hm;exact hni (PF.2 ⟨q, hq, e⟩)
 have hid2 : (BN g x.pa f).map (·.id) = g.map (·.id) := C2 hf1;have hmem : ∀ k ∈ g, ∃ k' ∈ (BN g x.pa f ++ [⟨x.id, x.ki, x.tx, x.tr, some x.pa, []⟩]), k'.id = k.id /\ k'.par = k.par /\ ∀ i ∈ k.kids, i ∈ k'.kids := fun k hk => by
  refine ⟨if k.id = x.pa then f k else k, Sg _ (Cs.2 ⟨k, hk, rfl⟩), ?_⟩
  split
  ·exact ⟨hf1 k, hf2 k, fun i hi => (hf3 k i).2 (.inr hi)⟩
  ·exact ⟨rfl, rfl, fun i hi => hi⟩
 have hnew : (⟨x.id, x.ki, x.tx, x.tr, some x.pa, []⟩ : Kn) ∈ (BN g x.pa f ++ [⟨x.id, x.ki, x.tx, x.tr, some x.pa, []⟩]) := List.mem_append_right _ (PC.2 rfl);refine ⟨?_, ?_, ?_, ?_, ?_, ?_, ?_⟩
 ·rw [Qs, hid2, Si];refine ⟨I.nodup, by simp, fun a ha b hb => ?_⟩;rw [List.map_singleton, PC] at hb;subst hb;intro e;rw [e] at ha;exact hni ha
 ·intro k hk i hi;rcases Qm.1 hk with hk | hk
  ·obtain ⟨k0, hk0, rfl⟩ := Cs.1 hk;by_cases e : k0.id = x.pa
   ·rw [if_pos e] at hi ⊢;rcases (hf3 k0 i).1 hi with hi | hi
    ·subst hi; exact ⟨_, hnew, rfl, by show some x.pa = some (f k0).id; rw [hf1, e]⟩
    ·obtain ⟨y, hy, e1, e2⟩ := I.kids k0 hk0 i hi;obtain ⟨y', hy', f1, f2, _⟩ := hmem y hy;exact ⟨y', hy', f1.trans e1, by rw [hf1]; exact f2.trans e2⟩
   ·rw [if_neg e] at hi ⊢;obtain ⟨y, hy, e1, e2⟩ := I.kids k0 hk0 i hi;obtain ⟨y', hy', f1, f2, _⟩ := hmem y hy;exact ⟨y', hy', f1.trans e1, f2.trans e2⟩
  ·rw [PC.1 hk] at hi; cases hi
 ·intro k hk q hq;rcases Qm.1 hk with hk | hk
  ·obtain ⟨k0, hk0, rfl⟩ := Cs.1 hk;have hq0 : k0.par = some q /\ (if k0.id = x.pa then f k0 else k0).id = k0.id := by
    split at hq
    ·rename_i e; rw [if_pos e]; exact ⟨(hf2 k0).symm.trans hq, hf1 k0⟩
    ·rename_i e; rw [if_neg e]; exact ⟨hq, rfl⟩
   obtain ⟨y, hy, e1, e2⟩ := I.par k0 hk0 q hq0.1;obtain ⟨y', hy', f1, f2, f3⟩ := hmem y hy;exact ⟨y', hy', f1.trans e1, by rw [hq0.2]; exact f3 _ e2⟩
  ·rw [PC.1 hk] at hq ⊢;injection hq with hq
   subst hq;refine ⟨if p.id = x.pa then f p else p, Sg _ (Cs.2 ⟨p, hpm, rfl⟩), ?_⟩;rw [if_pos hpi];exact ⟨(hf1 p).trans hpi, (hf3 p _).2 (.inl rfl)⟩
 ·intro k hk;rcases Qm.1 hk with hk | hk
  ·obtain ⟨k0, hk0, rfl⟩ := Cs.1 hk
   split
   ·exact hf4 k0 (I.kdup k0 hk0) (hkid k0 hk0)
   ·exact I.kdup k0 hk0
  ·rw [PC.1 hk]; exact List.nodup_nil
 ·obtain ⟨d, hd⟩ := I.rank;refine ⟨fun i => if i = x.id then d x.pa + 1 else d i, fun k hk q hq => ?_⟩;rcases Qm.1 hk with hk | hk
  ·obtain ⟨k0, hk0, rfl⟩ := Cs.1 hk;have hq0 : k0.par = some q /\ (if k0.id = x.pa then f k0 else k0).id = k0.id := by
    split at hq
    ·rename_i e; rw [if_pos e]; exact ⟨(hf2 k0).symm.trans hq, hf1 k0⟩
    ·rename_i e; rw [if_neg e]; exact ⟨hq, rfl⟩
   rw [hq0.2];have h1 : q ≠ x.id := fun e => hpar k0 hk0 (e ▸ hq0.1)
   have h2 : k0.id ≠ x.id := fun e => hni (e ▸ PF.2 ⟨k0, hk0, rfl⟩)
   show (if q = x.id then _ else _) < (if k0.id = x.id then _ else _)
   rw [if_neg h1, if_neg h2];exact hd k0 hk0 q hq0.1
  ·rw [PC.1 hk] at hq ⊢;injection hq with hq
   subst hq
   show (if x.pa = x.id then _ else _) < (if x.id = x.id then _ else _)
   rw [if_neg hpn, if_pos rfl]; exact ST _
 ·intro k hk;rcases Qm.1 hk with hk | hk
  ·obtain ⟨k0, hk0, rfl⟩ := Cs.1 hk;have := I.root k0 hk0
   split
   ·rw [hf1, hf2]; exact this
   ·exact this
  ·rw [PC.1 hk]
   show some x.pa = none ↔ x.id = 0
   constructor
   ·intro h; cases h
   ·intro h;exfalso;have hroot : ∀ n : Nat, ∀ k ∈ g, (I.rank.choose k.id) < n -> ∃ r ∈ g, r.id = 0 := by
     intro n
     induction n with
     | zero => intro k _ h; omega
     | succ n ih =>
      intro k hk hlt;cases hpk : k.par with
      | none => exact ⟨k, hk, (I.root k hk).1 hpk⟩
      | some q =>
       obtain ⟨y, hy, e1, _⟩ := I.par k hk q hpk;have h3 := I.rank.choose_spec k hk q hpk;exact ih y hy (by rw [e1]; omega)
    obtain ⟨r, hr, e⟩ := hroot _ p hpm (ST _);exact hni (by rw [h, <- e]; exact PF.2 ⟨r, hr, rfl⟩)
 ·intro k hk;rcases Qm.1 hk with hk | hk
  ·obtain ⟨k0, hk0, rfl⟩ := Cs.1 hk;have := I.in64 k0 hk0
   split
   ·rw [hf1]; exact this
   ·exact this
  ·rw [PC.1 hk]; exact ⟨h0, h64⟩
theorem MA {g : List Kn} {x : Ed} (I : CQ g) (hid : CY g x.id = none) (h0 : 0 <= x.id) (h64 : in64 x.id) (hs : Dk g x) : CQ (EU g x) := by
 obtain ⟨p, hp, _⟩ := hs;exact J7 (FL x) (fun _ => rfl) (fun k i => Hu) (fun k h1 h2 => G0 h1 h2) I hid h0 h64 hp
end Go.Proofs.Q
namespace Go.Proofs.Q
open Go Go.RowKit Go.Lib Go.Sort Go.Proofs.V.Words Go.Proofs.V.Last Go.Proofs.V.More Go.Proofs.V.SL
attribute [local go_sem] BI BJ BY BZ Bu Bv BL BM
theorem KB {w0 w : Pe} {Z : Nat -> Prop} {pre X : List Bj} {F : List FA} {ad : Int -> Nat} {g : List Hk} (S : Au w0 Z (GL pre ad g X) F w) {jx : Nat} {hx : Hk} (ex : g[jx]? = some hx) {l : List Int} (hids : ∀ y ∈ l, ∃ (j : Nat) (h : Hk), g[j]? = some h /\ h.k.id = y) :
    (l.filter fun y => !decide (ad y = ad hx.k.id)) = l.filter fun y => decide (y ≠ hx.k.id) := by
  apply List.filter_congr;intro y hy;obtain ⟨j, h, e1, e2⟩ := hids y hy;by_cases e : y = hx.k.id
  · rw [e]; simp
  · have : ¬ ad y = ad hx.k.id := fun e3 => e (by
      have := JH S e1 ex (by rw [e2]; exact e3);subst this;have := e1.symm.trans ex;injection this with this
      rw [<- e2, this])
    rw [decide_eq_false this, decide_eq_true e]; rfl
theorem Gz {w0 w : Pe} {Z : Nat -> Prop} {pre X : List Bj} {F : List FA} {ad : Int -> Nat} {g : List Hk} {jx jq jp : Nat} {hx hq hp : Hk} (S : Au w0 Z (GL pre ad g X) F w) (I : CQ (BR g)) (ex : g[jx]? = some hx) (eq : g[jq]? = some hq) (ep : g[jp]? = some hp) (hne : jx ≠ jq) (hnp : jx ≠ jp)
  (hpar : hx.k.par = some hq.k.id) (hin : hx.k.id ∈ hq.k.kids) (hids : ∀ h ∈ g, ∀ y ∈ h.k.kids, ∃ (j : Nat) (h : Hk), g[j]? = some h /\ h.k.id = y) (hlen : ∀ h ∈ g, h.k.kids.length <= 1000000) (x : Ed) (hxi : hx.k.id = x.id) (hpi : hp.k.id = x.pa) :
  PJ Try.prog 32 #[pk ad x.id] w fun e w2 => e = .returned (.tuple #[]) /\ ∃ g1, Au w0 Z (GL pre ad g1 X) F w2 /\ PJ Try.prog 31 #[pk ad x.pa, pk ad x.id, .int .i64 x.af] w2 fun e w' => e = .returned (.tuple #[]) /\ ∃ g', BR g' = Ch (BR g) hq.k.id x /\ Au w0 Z (GL pre ad g' X) F w' := by
 rw [<- hxi, <- hpi];refine (EN S ex eq hne hpar hin (fun y hy => hids hq (Pm eq) y hy)).mono ?_;rintro e w2 ⟨v', rfl, S2⟩;rw [KB S ex (fun y hy => hids hq (Pm eq) y hy)] at S2;refine ⟨rfl, _, S2, ?_⟩;obtain ⟨hq2, hhq2⟩ : ∃ hq2 : Hk, hq2 = ⟨hq.k.wKids (hq.k.kids.filter fun y => decide (y ≠ hx.k.id)), v'⟩ := ⟨_, rfl⟩;rw [<- hhq2] at S2;obtain ⟨hx2, hhx2⟩ : ∃ hx2 : Hk, hx2 = ⟨hx.k.wPar none, hx.v⟩ := ⟨_, rfl⟩;rw [<- hhx2] at S2;have lx := (Pf.1 ex).1;have lq := (Pf.1 eq).1;have lp := (Pf.1 ep).1;have ex2 : ((g.set jq hq2).set jx hx2)[jx]? = some hx2 := Q0 (by simpa using lx);obtain ⟨hp2, hhp2⟩ : ∃ hp2 : Hk, hp2 = if jp = jq then hq2 else hp := ⟨_, rfl⟩
 have ep2 : ((g.set jq hq2).set jx hx2)[jp]? = some hp2 := by
  rw [Q4 hnp];by_cases e : jp = jq
  ·rw [hhp2, if_pos e, e]; exact Q0 lq
  ·rw [hhp2, if_neg e, Q4 (Ry e)]; exact ep
 have hpq : jp = jq -> hp = hq := fun e => by rw [e] at ep; exact Px (ep.symm.trans eq)
 have hp2i : hp2.k.id = hp.k.id := by
  rw [hhp2]
  split
  ·rename_i e; rw [hpq e, hhq2]; rfl
  ·rfl
 have hp2k : ∀ y ∈ hp2.k.kids, y ∈ hp.k.kids := by
  rw [hhp2]
  split
  ·rename_i e; rw [hpq e, hhq2]; intro y hy; exact (Qp.1 hy).1
  ·exact fun y hy => hy
 have hp2l : hp2.k.kids.length <= hp.k.kids.length := by
  rw [hhp2]
  split
  ·rename_i e; rw [hpq e, hhq2]; exact SI _ _
  ·exact Ps _
 have hx2i : hx2.k.id = hx.k.id := by rw [hhx2]; rfl
 have ids2 : ∀ y ∈ hp2.k.kids, ∃ (j : Nat) (h : Hk), ((g.set jq hq2).set jx hx2)[j]? = some h /\ h.k.id = y := fun y hy => by
  obtain ⟨j, h, e1, e2⟩ := hids hp (Pm ep) y (hp2k y hy);have lj := (Pf.1 e1).1;by_cases e : j = jx
  ·subst e;have := Px (e1.symm.trans ex);subst this;exact ⟨j, hx2, ex2, hx2i.trans e2⟩
  ·by_cases e3 : j = jq
   ·subst e3;have := Px (e1.symm.trans eq);subst this;exact ⟨j, hq2, by rw [Q4 (Ry e)]; exact Q0 lq, by rw [<- e2, hhq2]; rfl⟩
   ·exact ⟨j, h, by rw [Q4 (Ry e), Q4 (Ry e3)]; exact e1, e2⟩
 have hP := FJ S2 ex2 ep2 hnp ids2 (Qo hp2l (hlen hp (Pm ep))) x.af;rw [hp2i, hx2i] at hP;refine hP.mono ?_;rintro e w' ⟨v2, rfl, S9⟩;refine ⟨rfl, _, ?_, S9⟩;have n0 := I.nodup;have s1 : BR (g.set jq hq2) = BN (BR g) hq.k.id (Kn.cut x.id) := Dp n0 eq (by rw [hhq2, <- hxi]; rfl);have n1 : ((BR (g.set jq hq2)).map (·.id)).Nodup := by rw [s1, C2 (E7 _)]; exact n0
 have ex1 : (g.set jq hq2)[jx]? = some hx := by rw [Q4 (Ry hne)]; exact ex
 have s2 : BR ((g.set jq hq2).set jx hx2) = BN (BR (g.set jq hq2)) hx.k.id (fun k => k.wPar none) := Dp n1 ex1 (by rw [hhx2]);have n2 : ((BR ((g.set jq hq2).set jx hx2)).map (·.id)).Nodup := by rw [s2, C2 (f := fun k => k.wPar none) (fun _ => rfl)]; exact n1
 have s3 : BR (((g.set jq hq2).set jx hx2).set jp ⟨hp2.k.wKids (Bx hp2.k.kids (CM hp2.k.kids x.af).toNat hx.k.id), v2⟩) = BN (BR ((g.set jq hq2).set jx hx2)) hp2.k.id (Kn.ins x) := Dp n2 ep2 (by rw [hxi]; rfl);have n3 := n2;rw [<- C2 (i := hp2.k.id) (FL x), <- s3] at n3;have ex3 : (((g.set jq hq2).set jx hx2).set jp ⟨hp2.k.wKids (Bx hp2.k.kids (CM hp2.k.kids x.af).toNat hx.k.id), v2⟩)[jx]? = some hx2 := by rw [Q4 (Ry hnp)]; exact ex2
 have s4 := Dp n3 ex3 (h' := ⟨hx2.k.wPar (some hp.k.id), hx2.v⟩) (f := fun k => k.wPar (some hp.k.id)) rfl
 show BR (((((g.set jq hq2).set jx hx2).set jp _).set jx ⟨hx2.k.wPar (some hp.k.id), hx2.v⟩)) = _
 rw [s4, s3, s2, s1, hx2i, hp2i];unfold Ch;rw [hxi, hpi];generalize BR g = ks;unfold BN;simp only [RL];apply QJ;intro k _;simp only [Function.comp_apply];have hnpa : x.pa ≠ x.id := by
  rw [<- hpi, <- hxi];intro e;exact hnp (JH S ex ep (by rw [e]))
 by_cases c1 : k.id = hq.k.id
 ·have d1 : (Kn.cut x.id k).id = k.id := rfl;simp only [if_pos c1];by_cases c2 : (Kn.cut x.id k).id = x.id
  ·simp only [if_pos c2];have c3 : ((Kn.cut x.id k).wPar none).id = x.id := c2;have c4 : ¬ ((Kn.cut x.id k).wPar none).id = x.pa := fun e => hnpa (e.symm.trans c3)
   have c5 : ¬ (Kn.cut x.id k).id = x.pa := fun e => hnpa (e.symm.trans c2)
   simp only [if_neg c4, if_neg c5, if_pos c3, if_pos c2];rfl
  ·simp only [if_neg c2]
 ·simp only [if_neg c1];by_cases c2 : k.id = x.id
  ·simp only [if_pos c2];have c3 : (k.wPar none).id = x.id := c2;have c4 : ¬ (k.wPar none).id = x.pa := fun e => hnpa (e.symm.trans c3)
   have c5 : ¬ k.id = x.pa := fun e => hnpa (e.symm.trans c2)
   simp only [if_neg c4, if_neg c5, if_pos c3, if_pos c2];rfl
  ·simp only [if_neg c2]
theorem MB {w0 w : Pe} {Z : Nat -> Prop} {pre X : List Bj} {F : List FA} {ad : Int -> Nat} {g : List Hk} {gb bm m : Nat} {ids : List Int} (S : Au w0 Z (GL (Al gb 61 #[.map (some bm)] :: Bg bm m ad ids :: pre) ad g X) F w) (I : CQ (BR g))
  (id pa af ki : Int) (tx tr : ByteArray) (h1 : in64 id) (h2 : in64 pa) (hid : id ∈ ids) (hpa : pa ∈ ids) {jx jq jp : Nat} {hx hq hp : Hk} (ex : g[jx]? = some hx) (eq : g[jq]? = some hq) (ep : g[jp]? = some hp) (hne : jx ≠ jq) (hnp : jx ≠ jp)
  (hpar : hx.k.par = some hq.k.id) (hin : hx.k.id ∈ hq.k.kids) (hids : ∀ h ∈ g, ∀ y ∈ h.k.kids, ∃ (j : Nat) (h : Hk), g[j]? = some h /\ h.k.id = y) (hlen : ∀ h ∈ g, h.k.kids.length <= 1000000) (hxi : hx.k.id = id) (hpi : hp.k.id = pa)
  (hai : ¬ af = id) (hbl : ¬ E6 (BR g) pa id) (haf : af = -1) :
  PJ Try.prog 21 #[.pointer (some ⟨gb, 0, none⟩), .agg #[.int .i64 4, .int .i64 id, .int .i64 pa, .int .i64 af, .int .i64 ki, .string tx, .string tr]] w fun e w' => e = .returned (.bool true) /\ ∃ g', BR g' = Ch (BR g) hq.k.id ⟨4, id, pa, af, ki, tx, tr⟩ /\ Au w0 Z (GL (Al gb 61 #[.map (some bm)] :: Bg bm m ad ids :: pre) ad g' X) F w' := by
 obtain ⟨EC, hEC⟩ : ∃ EC : Array Pd, EC = #[.int .i64 4, .int .i64 id, .int .i64 pa, .int .i64 af, .int .i64 ki, .string tx, .string tr] := ⟨_, rfl⟩;have S1 : Au w0 Z (GL (Al w.heap.size 54 EC :: Al gb 61 #[.map (some bm)] :: Bg bm m ad ids :: pre) ad g X) F (w.alloc (.cells EC 54)) := S.box rfl (Pv w _) (Ah (Pn _ _) _);have l1 := AL (Ab S1) 2 rfl h1;have l2 := AL (Ab (Ab S1)) 2 rfl h2;have hgb1 : (w.alloc (.cells EC 54)).cell? ⟨gb, 0, none⟩ = some (.map (some bm)) := (Aa (S1.at_blk 1 rfl) 0).trans rfl;have SP := Ab (Ab S1);rw [if_pos hid, decide_eq_true hid] at l1;obtain ⟨a, ha⟩ : ∃ a, ad id = a := ⟨_, rfl⟩;obtain ⟨c, hc⟩ : ∃ c, ad pa = c := ⟨_, rfl⟩;obtain ⟨aq, haq⟩ : ∃ aq, ad hq.k.id = aq := ⟨_, rfl⟩;have HB : ∀ W, Au w0 Z (GL (Al w.heap.size 54 EC :: Al gb 61 #[.map (some bm)] :: Bg bm m ad ids :: pre) ad g X) F W -> W.cell? ⟨a, 5, none⟩ = some (.pointer (some ⟨aq, 0, none⟩)) := fun W SW => by rw [<- ha, <- hxi]; exact (Aa (AR SW ex) 5).trans (show (Dc ad hx.k hx.v)[5]? = _ by show some (pp ad hx.k.par) = _; rw [hpar, <- haq]; rfl)
 have HBL : ∀ W, Au w0 Z (GL (Al w.heap.size 54 EC :: Al gb 61 #[.map (some bm)] :: Bg bm m ad ids :: pre) ad g X) F W -> PJ Try.prog 33 #[.pointer (some ⟨c, 0, none⟩), .pointer (some ⟨a, 0, none⟩)] W fun e w' => e = .returned (.bool BK) /\ w' = W := fun W SW => by
  obtain ⟨n0, hn0⟩ := DI SW ep ex I;have h3 := (Gy (Q := fun b => PJ Try.prog 33 #[pk ad hp.k.id, pk ad hx.k.id] W fun e w' => e = .returned (.bool b) /\ w' = W) hn0).2 (by rw [hpi, hxi]; exact hbl);unfold pk at h3;rw [hpi, hxi, ha, hc] at h3;exact h3
 have HM : ∀ W, Au w0 Z (GL (Al w.heap.size 54 EC :: Al gb 61 #[.map (some bm)] :: Bg bm m ad ids :: pre) ad g X) F W -> PJ Try.prog 32 #[.pointer (some ⟨a, 0, none⟩)] W fun e w2 => e = .returned (.tuple #[]) /\ ∃ g1, Au w0 Z (GL (Al w.heap.size 54 EC :: Al gb 61 #[.map (some bm)] :: Bg bm m ad ids :: pre) ad g1 X) F w2 /\ PJ Try.prog 31 #[.pointer (some ⟨c, 0, none⟩), .pointer (some ⟨a, 0, none⟩), .int .i64 af] w2 fun e w' => e = .returned (.tuple #[]) /\ ∃ g', BR g' = Ch (BR g) hq.k.id ⟨4, id, pa, af, ki, tx, tr⟩ /\ Au w0 Z (GL (Al w.heap.size 54 EC :: Al gb 61 #[.map (some bm)] :: Bg bm m ad ids :: pre) ad g' X) F w' := fun W SW => by
  have h3 := Gz SW I ex eq ep hne hnp hpar hin hids hlen ⟨4, id, pa, af, ki, tx, tr⟩ hxi hpi;simp only [pk, ha, hc] at h3;exact h3
 simp only [pk, ha] at l1;rw [if_pos hpa, decide_eq_true hpa] at l2;simp only [pk, hc] at l2;generalize Ch (BR g) hq.k.id ⟨4, id, pa, af, ki, tx, tr⟩ = newg at HM ⊢;have hai2 : (af == id) = BK := by simpa using hai
 subst haf;have hx5 := HB _ S1;rw [hEC] at l1 l2 hgb1 SP HBL HM hx5;replace SP := A7.mk SP;replace HBL := A7.mk HBL;replace HM := A7.mk HM;clear HB S S1 I hid hpa hxi hpi hpar hin hids hlen ex eq ep hne hnp ha hc haq hbl h1 h2 hEC EC;have mixed : Try.prog.follows .mixedOrders = true := by kernel_rfl
 go_enter Try.func21, Try.ntmps21;go_wp2
 go_region_o
 go_wp2
 go_region_o
 go_wp2_with (first | (go_at_call 33; refine (HBL.out _ SP.out).mono ?_; rintro e_ w3 ⟨rfl, rfl⟩) | (go_at_call 32; refine (HM.out _ SP.out).mono ?_; rintro e_ w4 ⟨rfl, g1, S4, hput⟩; have r3 := (Aa (S4.at_blk 0 rfl) 3).trans rfl; replace hput := A7.mk hput; clear S4) | (go_at_call 31; refine hput.out.mono ?_; rintro e_ w9 ⟨rfl, g9, hg9, S9⟩; replace S9 := A7.mk S9; replace hg9 := A7.mk hg9))
 go_ret
 exact ⟨rfl, g9, hg9.out, Au.drop (l := GL (Al gb 61 #[.map (some bm)] :: Bg bm m ad ids :: pre) ad _ X) S9.out⟩
theorem MC {w0 w : Pe} {Z : Nat -> Prop} {pre X : List Bj} {F : List FA} {ad : Int -> Nat} {g : List Hk} {gb bm m : Nat} {ids : List Int} (S : Au w0 Z (GL (Al gb 61 #[.map (some bm)] :: Bg bm m ad ids :: pre) ad g X) F w) (I : CQ (BR g))
  (id pa af ki : Int) (tx tr : ByteArray) (h1 : in64 id) (h2 : in64 pa) (hid : id ∈ ids) (hpa : pa ∈ ids) {jx jq jp : Nat} {hx hq hp : Hk} (ex : g[jx]? = some hx) (eq : g[jq]? = some hq) (ep : g[jp]? = some hp) (hne : jx ≠ jq) (hnp : jx ≠ jp)
  (hpar : hx.k.par = some hq.k.id) (hin : hx.k.id ∈ hq.k.kids) (hids : ∀ h ∈ g, ∀ y ∈ h.k.kids, ∃ (j : Nat) (h : Hk), g[j]? = some h /\ h.k.id = y) (hlen : ∀ h ∈ g, h.k.kids.length <= 1000000) (hxi : hx.k.id = id) (hpi : hp.k.id = pa)
  (hai : ¬ af = id) (hbl : ¬ E6 (BR g) pa id) (haf : ¬ af = -1) (hspot : 0 <= AO hp.k.kids af) :
  PJ Try.prog 21 #[.pointer (some ⟨gb, 0, none⟩), .agg #[.int .i64 4, .int .i64 id, .int .i64 pa, .int .i64 af, .int .i64 ki, .string tx, .string tr]] w fun e w' => e = .returned (.bool true) /\ ∃ g', BR g' = Ch (BR g) hq.k.id ⟨4, id, pa, af, ki, tx, tr⟩ /\ Au w0 Z (GL (Al gb 61 #[.map (some bm)] :: Bg bm m ad ids :: pre) ad g' X) F w' := by
 obtain ⟨EC, hEC⟩ : ∃ EC : Array Pd, EC = #[.int .i64 4, .int .i64 id, .int .i64 pa, .int .i64 af, .int .i64 ki, .string tx, .string tr] := ⟨_, rfl⟩;have S1 : Au w0 Z (GL (Al w.heap.size 54 EC :: Al gb 61 #[.map (some bm)] :: Bg bm m ad ids :: pre) ad g X) F (w.alloc (.cells EC 54)) := S.box rfl (Pv w _) (Ah (Pn _ _) _);have l1 := AL (Ab S1) 2 rfl h1;have l2 := AL (Ab (Ab S1)) 2 rfl h2;have hgb1 : (w.alloc (.cells EC 54)).cell? ⟨gb, 0, none⟩ = some (.map (some bm)) := (Aa (S1.at_blk 1 rfl) 0).trans rfl;have SP := Ab (Ab S1);rw [if_pos hid, decide_eq_true hid] at l1;obtain ⟨a, ha⟩ : ∃ a, ad id = a := ⟨_, rfl⟩;obtain ⟨c, hc⟩ : ∃ c, ad pa = c := ⟨_, rfl⟩;obtain ⟨aq, haq⟩ : ∃ aq, ad hq.k.id = aq := ⟨_, rfl⟩;have HB : ∀ W, Au w0 Z (GL (Al w.heap.size 54 EC :: Al gb 61 #[.map (some bm)] :: Bg bm m ad ids :: pre) ad g X) F W -> W.cell? ⟨a, 5, none⟩ = some (.pointer (some ⟨aq, 0, none⟩)) := fun W SW => by rw [<- ha, <- hxi]; exact (Aa (AR SW ex) 5).trans (show (Dc ad hx.k hx.v)[5]? = _ by show some (pp ad hx.k.par) = _; rw [hpar, <- haq]; rfl)
 have HBL : ∀ W, Au w0 Z (GL (Al w.heap.size 54 EC :: Al gb 61 #[.map (some bm)] :: Bg bm m ad ids :: pre) ad g X) F W -> PJ Try.prog 33 #[.pointer (some ⟨c, 0, none⟩), .pointer (some ⟨a, 0, none⟩)] W fun e w' => e = .returned (.bool BK) /\ w' = W := fun W SW => by
  obtain ⟨n0, hn0⟩ := DI SW ep ex I;have h3 := (Gy (Q := fun b => PJ Try.prog 33 #[pk ad hp.k.id, pk ad hx.k.id] W fun e w' => e = .returned (.bool b) /\ w' = W) hn0).2 (by rw [hpi, hxi]; exact hbl);unfold pk at h3;rw [hpi, hxi, ha, hc] at h3;exact h3
 have HM : ∀ W, Au w0 Z (GL (Al w.heap.size 54 EC :: Al gb 61 #[.map (some bm)] :: Bg bm m ad ids :: pre) ad g X) F W -> PJ Try.prog 32 #[.pointer (some ⟨a, 0, none⟩)] W fun e w2 => e = .returned (.tuple #[]) /\ ∃ g1, Au w0 Z (GL (Al w.heap.size 54 EC :: Al gb 61 #[.map (some bm)] :: Bg bm m ad ids :: pre) ad g1 X) F w2 /\ PJ Try.prog 31 #[.pointer (some ⟨c, 0, none⟩), .pointer (some ⟨a, 0, none⟩), .int .i64 af] w2 fun e w' => e = .returned (.tuple #[]) /\ ∃ g', BR g' = Ch (BR g) hq.k.id ⟨4, id, pa, af, ki, tx, tr⟩ /\ Au w0 Z (GL (Al w.heap.size 54 EC :: Al gb 61 #[.map (some bm)] :: Bg bm m ad ids :: pre) ad g' X) F w' := fun W SW => by
  have h3 := Gz SW I ex eq ep hne hnp hpar hin hids hlen ⟨4, id, pa, af, ki, tx, tr⟩ hxi hpi;simp only [pk, ha, hc] at h3;exact h3
 simp only [pk, ha] at l1;rw [if_pos hpa, decide_eq_true hpa] at l2;simp only [pk, hc] at l2;generalize Ch (BR g) hq.k.id ⟨4, id, pa, af, ki, tx, tr⟩ = newg at HM ⊢;have hai2 : (af == id) = BK := by simpa using hai
 have HP := Bq ad hp.k hp.v af _ (AR SP ep) (C5 SP ep) (fun y hy => by obtain ⟨jy, hy', e1, e2⟩ := hids hp (Pm ep) y hy; rw [<- e2, Aa (AR SP e1) 0]; rfl);obtain ⟨R, hR⟩ : ∃ R, AO hp.k.kids af = R := ⟨_, rfl⟩;rw [hR] at HP hspot;have hs2 : decide (0 <= R) = true := decide_eq_true hspot;rw [hpi] at HP;simp only [pk, hc] at HP;replace HP := A7.mk HP;rw [hEC] at l1 l2 hgb1 SP HBL HM HP HB;replace SP := A7.mk SP;replace HBL := A7.mk HBL;replace HM := A7.mk HM;replace HB := A7.mk HB;clear hR;clear S S1 I hid hpa hxi hpi hpar hin hids hlen ex eq ep hne hnp ha hc haq hbl h1 h2 hEC EC;have mixed : Try.prog.follows .mixedOrders = true := by kernel_rfl
 go_enter Try.func21, Try.ntmps21;go_wp2
 go_region_o
 go_wp2
 go_region_o
 go_wp2_with (first | (go_at_call 29; refine HP.out.mono ?_; rintro e_ w1 ⟨rfl, hB⟩; have S2 := SP.out.keep hB; have q0 := (Aa (S2.at_blk 0 rfl) 0).trans rfl; have q1 := (Aa (S2.at_blk 0 rfl) 1).trans rfl; have q3 := (Aa (S2.at_blk 0 rfl) 3).trans rfl; have hx5 := HB.out w1 S2; replace S2 := A7.mk S2; clear hB) | (go_at_call 33; refine (HBL.out _ S2.out).mono ?_; rintro e_ w3 ⟨rfl, rfl⟩) | (go_at_call 32; refine (HM.out _ S2.out).mono ?_; rintro e_ w4 ⟨rfl, g1, S4, hput⟩; have r3 := (Aa (S4.at_blk 0 rfl) 3).trans rfl; replace hput := A7.mk hput; clear S4) | (go_at_call 31; refine hput.out.mono ?_; rintro e_ w9 ⟨rfl, g9, hg9, S9⟩; replace S9 := A7.mk S9; replace hg9 := A7.mk hg9))
 go_ret
 exact ⟨rfl, g9, hg9.out, Au.drop (l := GL (Al gb 61 #[.map (some bm)] :: Bg bm m ad ids :: pre) ad _ X) S9.out⟩
end Go.Proofs.Q
namespace Go.Proofs.Q
open Go Go.RowKit Go.Lib Go.Sort Go.Proofs.V.Words Go.Proofs.V.SL
theorem Hv {α : Type} [DecidableEq α] : ∀ {l m : List α}, l.Nodup -> (∀ x ∈ l, x ∈ m) -> l.length <= m.length
 | [], m, _, _ => Qa _
 | a :: l, m, h, hs => by
  rw [Qn] at h;have ha := hs a List.mem_cons_self;have h2 := Hv (l := l) (m := m.erase a) h.2 (fun x hx => (List.mem_erase_of_ne (fun e => h.1 (by rw [<- e]; exact hx))).2 (hs x (List.mem_cons_of_mem _ hx)));rw [List.length_erase_of_mem ha] at h2;have := List.length_pos_of_mem ha;rw [List.length_cons]; omega
theorem CQ.kids_len {ks : List Kn} (I : CQ ks) {k : Kn} (hk : k ∈ ks) : k.kids.length <= ks.length := by
 have := Hv (m := ks.map (·.id)) (I.kdup k hk) (fun i hi => by obtain ⟨y, hy, e, _⟩ := I.kids k hk i hi; exact PF.2 ⟨y, hy, e⟩)
 rwa [PM] at this
theorem J8 {g : List Kn} {i : Int} {f : Kn -> Kn} (hf : ∀ k, (f k).id = k.id) : ((BN g i f).filter fun k => decide (k.id ≠ i)) = g.filter fun k => decide (k.id ≠ i) := by
 induction g with
 | nil => rfl
 | cons x r ih =>
  show List.filter _ ((if x.id = i then f x else x) :: BN r i f) = _
  by_cases e : x.id = i
  ·rw [if_pos e, QB, QB, ih]
   ·simpa using e
   ·simp [hf, e]
  ·rw [if_neg e, Qv, Qv, ih]
   ·simpa using e
   ·simpa using e
theorem Fo : ∀ {ks : List Kn} {j : Nat} {k : Kn}, (ks.map (·.id)).Nodup -> ks[j]? = some k -> ks.eraseIdx j = ks.filter fun y => decide (y.id ≠ k.id)
 | [], j, k, _, h => by simp at h
 | x :: r, 0, k, hn, h => by
  have : x = k := by simpa using h
  subst this;rw [Py, Qn] at hn;rw [QB (by simp), List.eraseIdx_zero, List.tail_cons];refine (List.filter_eq_self.2 (fun y hy => ?_)).symm;simp only [decide_eq_true_eq];exact fun e => hn.1 (PF.2 ⟨y, hy, e⟩)
 | x :: r, j + 1, k, hn, h => by
  rw [Py, Qn] at hn;have h2 : r[j]? = some k := by simpa using h
  rw [Sz, Fo hn.2 h2, Qv];simp only [decide_eq_true_eq];exact fun e => hn.1 (PF.2 ⟨k, Pm h2, e.symm⟩)
theorem EZ {α β : Type} (f : α -> β) : ∀ (l : List α) (j : Nat), (l.eraseIdx j).map f = (l.map f).eraseIdx j
 | [], j => rfl
 | a :: l, 0 => rfl
 | a :: l, j + 1 => by rw [Sz, Py, EZ f l j]; rfl
theorem Hw (ad : Int -> Nat) : ∀ {g : List Hk} {j : Nat} {h : Hk}, g[j]? = some h -> (F6 ad g).Perm (Jv ad h ++ F6 ad (g.eraseIdx j))
 | [], j, h, hj => by simp at hj
 | x :: r, 0, h, hj => by
  have : x = h := by simpa using hj
  subst this;exact List.Perm.refl _
 | x :: r, j + 1, h, hj => by
  have h2 : r[j]? = some h := by simpa using hj
  have ih := Hw ad h2
  show (Jv ad x ++ F6 ad r).Perm (Jv ad h ++ (Jv ad x ++ F6 ad (r.eraseIdx j)))
  refine (QM _ ih).trans ?_;rw [<- PP, <- PP];exact List.Perm.append_right _ Q8
theorem Nt {w0 w : Pe} {Z : Nat -> Prop} {pre X : List Bj} {F : List FA} {ad : Int -> Nat} {g : List Hk} (S : Au w0 Z (GL pre ad g X) F w) {j : Nat} {h : Hk} (hj : g[j]? = some h) : Au w0 Z (GL pre ad (g.eraseIdx j) X) F w := by
 have hp : (GL pre ad g X).Perm (Al (ad h.k.id) 80 (Dc ad h.k h.v) :: NQ ad h.k h.v :: GL pre ad (g.eraseIdx j) X) := by
  unfold GL;refine (QM pre (List.Perm.append_right X (Hw ad hj))).trans ?_;rw [PP, <- PP];have h1 : ∀ (a b : Bj) (l m : List Bj), (l ++ [a, b] ++ m).Perm (a :: b :: (l ++ m)) := fun a b l m => (Q8 (l₁ := l) (l₂ := [a, b])).append_right m
  have h2 := h1 (Al (ad h.k.id) 80 (Dc ad h.k h.v)) (NQ ad h.k h.v) pre (F6 ad (g.eraseIdx j) ++ X);exact h2
 exact (S.perm hp).drop.drop
def AG (w0 : Pe) (Z : Nat -> Prop) (F : List FA) (gb bm : Nat) (pre X : List Bj) (N : Nat) (ad : Int -> Nat) (ks : List Kn) (w : Pe) : Prop :=
 ∃ g ids m, BR g = ks /\ m <= N /\ (∀ i, i ∈ ids ↔ i ∈ ks.map (·.id)) /\ Au w0 Z (GL (Al gb 61 #[.map (some bm)] :: Bg bm m ad ids :: pre) ad g X) F w
theorem F8 (g : List Kn) (q : Int) (x : Ed) : (Ch g q x).map (·.id) = g.map (·.id) := by
 unfold Ch;rw [C2 (f := fun k => k.wPar (some x.pa)) (fun _ => rfl), C2 (FL x), C2 (E7 x.id)]
theorem EO (g : List Kn) (x : Ed) : (DJ g x).map (·.id) = g.map (·.id) := C2 (fun _ => rfl)
theorem J9 (g : List Kn) (x : Ed) : (EU g x).map (·.id) = g.map (·.id) ++ [x.id] := by
 unfold EU;rw [Qs, C2 (FL x)]; rfl
theorem Hx (g : List Kn) (q : Int) (x : Ed) : (CW g q x).map (·.id) = (g.map (·.id)).filter fun i => decide (i ≠ x.id) := by
 unfold CW;rw [<- C2 (g := g) (i := q) (E7 x.id)];generalize BN g q (Kn.cut x.id) = r
 induction r with
 | nil => rfl
 | cons y r ih =>
  by_cases e : y.id = x.id
  ·rw [QB (by simpa using e), Py, QB (by simpa using e), ih]
  ·rw [Qv (by simpa using e), Py, Py, Qv (by simpa using e), ih]
def P9 (x : Ed) : Pd := .agg #[.int .i64 x.so, .int .i64 x.id, .int .i64 x.pa, .int .i64 x.af, .int .i64 x.ki, .string x.tx, .string x.tr]
section
variable {w0 w : Pe} {Z : Nat -> Prop} {F : List FA} {gb bm N : Nat} {pre X : List Bj} {ad : Int -> Nat} {ks : List Kn}
theorem MD (H : AG w0 Z F gb bm pre X N ad ks w) (I : CQ ks) (hN : N < R7) (hl : ks.length <= 1000000) (x : Ed) (h1 : in64 x.id) (h2 : in64 x.pa) :
    PJ Try.prog 21 #[.pointer (some ⟨gb, 0, none⟩), P9 x] w fun e w' => e = .returned (.bool (Ce ks x).isSome) /\ ∃ ad', (∀ k ∈ ks, ad' k.id = ad k.id) /\ AG w0 Z F gb bm pre X (N + 1) ad' ((Ce ks x).getD ks) w' := by
  obtain ⟨g, ids, m, rfl, hm, hids, S⟩ := H;obtain ⟨so, id, pa, af, ki, tx, tr⟩ := x;have hlen : ∀ h ∈ g, h.k.kids.length <= 1000000 := fun h hh => Qo (I.kids_len (PF.2 ⟨h, hh, rfl⟩)) hl
  have hkid : ∀ h ∈ g, ∀ y ∈ h.k.kids, ∃ (j : Nat) (h : Hk), g[j]? = some h /\ h.k.id = y := fun h hh y hy => by
    obtain ⟨k, hk, e, _⟩ := I.kids h.k (PF.2 ⟨h, hh, rfl⟩) y hy;obtain ⟨j, h2, e1, e2⟩ := E5 hk;exact ⟨j, h2, e1, by rw [e2]; exact e⟩
  have hat : ∀ i, i ∈ ids -> ∃ (j : Nat) (h : Hk), g[j]? = some h /\ h.k.id = i /\ CY (BR g) i = some h.k := fun i hi => by
    obtain ⟨k, hk, e⟩ := PF.1 ((hids i).1 hi);obtain ⟨j, h2, e1, e2⟩ := E5 hk;exact ⟨j, h2, e1, by rw [e2]; exact e, by rw [e2, <- e]; exact E4 I.nodup hk⟩
  have hno : ∀ i, i ∉ ids -> CY (BR g) i = none := fun i hi => CJ.2 (fun h => hi ((hids i).2 h))
  have hP : pa ∉ ids \/ (pa ∈ ids /\ af = -1 /\ ∃ (jp : Nat) (hp : Hk), g[jp]? = some hp /\ hp.k.id = pa /\ CY (BR g) pa = some hp.k) \/ (pa ∈ ids /\ ¬ af = -1 /\ ∃ (jp : Nat) (hp : Hk), g[jp]? = some hp /\ hp.k.id = pa /\ CY (BR g) pa = some hp.k) := by
    by_cases a : pa ∈ ids
    · by_cases b : af = -1
      · exact .inr (.inl ⟨a, b, hat pa a⟩)
      · exact .inr (.inr ⟨a, b, hat pa a⟩)
    · exact .inl a
  have done0 : ∀ {e : Ending} {w' : Pe} {r : Option (List Kn)}, r = none -> (e = .returned (.bool BK) /\ Au w0 Z (GL (Al gb 61 #[.map (some bm)] :: Bg bm m ad ids :: pre) ad g X) F w') ->
      e = .returned (.bool r.isSome) /\ ∃ ad', (∀ k ∈ BR g, ad' k.id = ad k.id) /\ AG w0 Z F gb bm pre X (N + 1) ad' (r.getD (BR g)) w' := by
    rintro e w' r rfl ⟨rfl, S'⟩;exact ⟨rfl, ad, fun _ _ => rfl, g, ids, m, rfl, by omega, hids, S'⟩
  have done1 : ∀ {e : Ending} {w' : Pe} {r : Option (List Kn)} {ks' : List Kn}, r = some ks' -> ks'.map (·.id) = (BR g).map (·.id) -> (e = .returned (.bool true) /\ ∃ g', BR g' = ks' /\ Au w0 Z (GL (Al gb 61 #[.map (some bm)] :: Bg bm m ad ids :: pre) ad g' X) F w') ->
      e = .returned (.bool r.isSome) /\ ∃ ad', (∀ k ∈ BR g, ad' k.id = ad k.id) /\ AG w0 Z F gb bm pre X (N + 1) ad' (r.getD (BR g)) w' := by
    rintro e w' r ks' rfl hk ⟨rfl, g', hg', S'⟩;refine ⟨rfl, ad, fun _ _ => rfl, g', ids, m, hg', by omega, fun i => ?_, S'⟩
    show i ∈ ids ↔ i ∈ ks'.map (·.id)
    rw [hk]; exact hids i
  have hself : ∀ (k : Kn), k ∈ BR g -> k.par ≠ some k.id := fun k hk e => by
    obtain ⟨d, hd⟩ := I.rank;exact Nat.lt_irrefl _ (hd k hk _ e)
  have hparq : ∀ {jx : Nat} {hx : Hk} {q : Int}, g[jx]? = some hx -> hx.k.par = some q -> ∃ (jq : Nat) (hq : Hk), g[jq]? = some hq /\ hq.k.id = q /\ jx ≠ jq /\ hx.k.id ∈ hq.k.kids := by
    intro jx hx q ex hq;obtain ⟨y, hy, e1, e2⟩ := I.par hx.k (Dn ex) q hq;obtain ⟨jq, hq', f1, f2⟩ := E5 hy;refine ⟨jq, hq', f1, by rw [f2]; exact e1, ?_, by rw [f2]; exact e2⟩;rintro rfl;have := Px (ex.symm.trans f1);rw [<- this] at f2;exact hself hx.k (Dn ex) (by rw [hq, <- e1, f2])
  show PJ Try.prog 21 #[.pointer (some ⟨gb, 0, none⟩), .agg #[.int .i64 so, .int .i64 id, .int .i64 pa, .int .i64 af, .int .i64 ki, .string tx, .string tr]] w _
  by_cases s1 : so = 1
  · subst s1;by_cases hid : id ∈ ids
    · have hD : Ce (BR g) ⟨1, id, pa, af, ki, tx, tr⟩ = none := by
        obtain ⟨j, h, _, _, e⟩ := hat id hid;unfold Ce;rw [if_pos rfl, if_neg];rintro ⟨h0, _⟩;rw [e] at h0; cases h0
      rcases hP with hpa | ⟨hpa, haf, jp, hp, ep, hpi, _⟩ | ⟨hpa, haf, jp, hp, ep, hpi, _⟩
      · exact (Lh S id pa af ki tx tr h1 h2 hid hpa).mono (fun _ _ h => done0 hD h)
      · exact (Li S id pa af ki tx tr h1 h2 hid hpa haf).mono (fun _ _ h => done0 hD h)
      · exact (Lj S id pa af ki tx tr h1 h2 hid hpa haf ep hpi (hkid hp (Pm ep))).mono (fun _ _ h => done0 hD h)
    · by_cases hneg : id < 0
      · have hD : Ce (BR g) ⟨1, id, pa, af, ki, tx, tr⟩ = none := by
          unfold Ce;rw [if_pos rfl, if_neg];rintro ⟨_, h0, _⟩;exact absurd h0 (by show ¬ 0 <= id; omega)
        rcases hP with hpa | ⟨hpa, haf, jp, hp, ep, hpi, _⟩ | ⟨hpa, haf, jp, hp, ep, hpi, _⟩
        · exact (Lk S id pa af ki tx tr h1 h2 hid hneg hpa).mono (fun _ _ h => done0 hD h)
        · exact (Ll S id pa af ki tx tr h1 h2 hid hneg hpa haf).mono (fun _ _ h => done0 hD h)
        · exact (Lm S id pa af ki tx tr h1 h2 hid hneg hpa haf ep hpi (hkid hp (Pm ep))).mono (fun _ _ h => done0 hD h)
      · have hn : ∀ x ∈ g, x.k.id ≠ id /\ (∀ p, x.k.par = some p -> p ≠ id) /\ ∀ i ∈ x.k.kids, i ≠ id := fun x hx => by
          have hxm : x.k ∈ BR g := PF.2 ⟨x, hx, rfl⟩;refine ⟨fun e => hid ((hids id).2 (PF.2 ⟨x.k, hxm, e⟩)), fun p hp e => ?_, fun i hi e => ?_⟩
          · obtain ⟨y, hy, e1, _⟩ := I.par x.k hxm p hp;exact hid ((hids id).2 (PF.2 ⟨y, hy, e1.trans e⟩))
          · obtain ⟨y, hy, e1, _⟩ := I.kids x.k hxm i hi;exact hid ((hids id).2 (PF.2 ⟨y, hy, e1.trans e⟩))
        have hDone : Dk (BR g) ⟨1, id, pa, af, ki, tx, tr⟩ -> Ce (BR g) ⟨1, id, pa, af, ki, tx, tr⟩ = some (EU (BR g) ⟨1, id, pa, af, ki, tx, tr⟩) := fun hs => by
          unfold Ce;rw [if_pos rfl, if_pos ⟨hno id hid, by show 0 <= id; omega, hs⟩]
        have hNot : ¬ Dk (BR g) ⟨1, id, pa, af, ki, tx, tr⟩ -> Ce (BR g) ⟨1, id, pa, af, ki, tx, tr⟩ = none := fun hs => by
          unfold Ce;rw [if_pos rfl, if_neg (fun h => hs h.2.2)]
        have fin : ∀ {e : Ending} {w' : Pe} {jp : Nat} {hp : Hk}, g[jp]? = some hp -> hp.k.id = pa -> Dk (BR g) ⟨1, id, pa, af, ki, tx, tr⟩ -> (e = .returned (.bool true) /\ ∃ v' a, Au w0 Z (GL (Al gb 61 #[.map (some bm)] :: Bg bm (m + 1) (Bz ad id a) (ids ++ [id]) :: pre) (Bz ad id a) ((g.set jp ⟨hp.k.wKids (Bx hp.k.kids (CM hp.k.kids af).toNat id), v'⟩) ++ [⟨⟨id, ki, tx, tr, some pa, []⟩, .slice none 0 0⟩]) X) F w') ->
            e = .returned (.bool (Ce (BR g) ⟨1, id, pa, af, ki, tx, tr⟩).isSome) /\ ∃ ad', (∀ k ∈ BR g, ad' k.id = ad k.id) /\ AG w0 Z F gb bm pre X (N + 1) ad' ((Ce (BR g) ⟨1, id, pa, af, ki, tx, tr⟩).getD (BR g)) w' := by
          rintro e w' jp hp ep hpi hs ⟨rfl, v', a, S'⟩;rw [hDone hs];refine ⟨rfl, Bz ad id a, fun k hk => Ct _ _ (fun e => hid ((hids id).2 (PF.2 ⟨k, hk, e⟩))), _, _, m + 1, ?_, by omega, fun i => ?_, S'⟩
          · show BR (_ ++ _) = EU _ _
            unfold EU;rw [<- hpi, <- Dp I.nodup ep (h' := ⟨hp.k.wKids (Bx hp.k.kids (CM hp.k.kids af).toNat id), v'⟩) (f := Kn.ins ⟨1, id, hp.k.id, af, ki, tx, tr⟩) rfl];simp [BR]
          · show i ∈ ids ++ [id] ↔ i ∈ (EU (BR g) ⟨1, id, pa, af, ki, tx, tr⟩).map (·.id)
            rw [J9, Qm, Qm, hids i]
        rcases hP with hpa | ⟨hpa, haf, jp, hp, ep, hpi, hga⟩ | ⟨hpa, haf, jp, hp, ep, hpi, hga⟩
        · refine (Ln S id pa af ki tx tr h1 h2 hid hneg hpa).mono (fun _ _ h => done0 (hNot ?_) h);rintro ⟨p, hp, _⟩;rw [show CY (BR g) pa = none from hno pa hpa] at hp; cases hp
        · exact (Nr S id pa af ki tx tr h1 h2 (by omega) hid hneg hpa ep hpi (hkid hp (Pm ep)) (hlen hp (Pm ep)) hn haf).mono (fun _ _ h => fin ep hpi ⟨hp.k, hga, .inl haf⟩ h)
        · by_cases hsp : 0 <= AO hp.k.kids af
          · exact (Ns S id pa af ki tx tr h1 h2 (by omega) hid hneg hpa ep hpi (hkid hp (Pm ep)) (hlen hp (Pm ep)) hn haf hsp).mono (fun _ _ h => fin ep hpi ⟨hp.k, hga, .inr ((Cz _ _).1 hsp)⟩ h)
          · refine (Lo S id pa af ki tx tr h1 h2 hid hneg hpa haf ep hpi (hkid hp (Pm ep)) hsp).mono (fun _ _ h => done0 (hNot ?_) h);rintro ⟨p, hp', h3⟩;rw [show CY (BR g) pa = some hp.k from hga] at hp';injection hp' with hp'
            subst hp';rcases h3 with h3 | h3
            · exact haf h3
            · exact hsp ((Cz _ _).2 h3)
  by_cases s2 : so = 2
  · subst s2;by_cases hid : id ∈ ids
    · obtain ⟨jx, hx, ex, hxi, hga⟩ := hat id hid;cases hpar : hx.k.par with
      | none =>
        have hD : Ce (BR g) ⟨2, id, pa, af, ki, tx, tr⟩ = none := by
          unfold Ce;rw [if_neg (by simp), if_pos rfl];simp only [hga, hpar]
        rcases hP with hpa | ⟨hpa, haf, jp, hp, ep, hpi, _⟩ | ⟨hpa, haf, jp, hp, ep, hpi, _⟩
        · exact (Lb S id pa af ki tx tr h1 h2 hid ex hxi hpar hpa).mono (fun _ _ h => done0 hD h)
        · exact (Lc S id pa af ki tx tr h1 h2 hid ex hxi hpar hpa haf).mono (fun _ _ h => done0 hD h)
        · exact (Ld S id pa af ki tx tr h1 h2 hid ex hxi hpar hpa haf ep hpi (hkid hp (Pm ep))).mono (fun _ _ h => done0 hD h)
      | some q =>
        obtain ⟨jq, hq, eq, hqi, hne, hin⟩ := hparq ex hpar;by_cases hk0 : hx.k.kids = []
        · have hD : Ce (BR g) ⟨2, id, pa, af, ki, tx, tr⟩ = some (CW (BR g) q ⟨2, id, pa, af, ki, tx, tr⟩) := by
            unfold Ce;rw [if_neg (by simp), if_pos rfl];simp only [hga, hpar, hk0, if_true]
          have hids2 := hkid hq (Pm eq);have fin : ∀ {e : Ending} {w' : Pe}, (∃ v', e = .returned (.bool true) /\ Au w0 Z (GL (Al gb 61 #[.map (some bm)] :: Bg bm m ad (ids.filter (· ≠ id)) :: pre) ad ((g.set jq ⟨hq.k.wKids (hq.k.kids.filter fun y => !decide (ad y = ad hx.k.id)), v'⟩).set jx ⟨hx.k.wPar none, hx.v⟩) X) F w') ->
              e = .returned (.bool (Ce (BR g) ⟨2, id, pa, af, ki, tx, tr⟩).isSome) /\ ∃ ad', (∀ k ∈ BR g, ad' k.id = ad k.id) /\ AG w0 Z F gb bm pre X (N + 1) ad' ((Ce (BR g) ⟨2, id, pa, af, ki, tx, tr⟩).getD (BR g)) w' := by
            rintro e w' ⟨v', rfl, S'⟩;rw [hD];rw [KB S ex hids2] at S';have ex1 : (g.set jq (⟨hq.k.wKids (hq.k.kids.filter fun y => decide (y ≠ hx.k.id)), v'⟩ : Hk))[jx]? = some hx := by rw [Q4 (Ry hne)]; exact ex
            have ex2 : ((g.set jq (⟨hq.k.wKids (hq.k.kids.filter fun y => decide (y ≠ hx.k.id)), v'⟩ : Hk)).set jx ⟨hx.k.wPar none, hx.v⟩)[jx]? = some ⟨hx.k.wPar none, hx.v⟩ := Q0 (Pf.1 ex1).1;have S2 := Nt S' ex2;have k1 := Dp I.nodup eq (h' := ⟨hq.k.wKids (hq.k.kids.filter fun y => decide (y ≠ hx.k.id)), v'⟩) (f := Kn.cut hx.k.id) rfl;have n1 : ((BR (g.set jq (⟨hq.k.wKids (hq.k.kids.filter fun y => decide (y ≠ hx.k.id)), v'⟩ : Hk))).map (·.id)).Nodup := by rw [k1, C2 (E7 _)]; exact I.nodup
            have k2 := Dp n1 ex1 (h' := ⟨hx.k.wPar none, hx.v⟩) (f := fun k => k.wPar none) rfl;have n2 := n1;rw [<- C2 (i := hx.k.id) (f := fun k => k.wPar none) (fun _ => rfl), <- k2] at n2;refine ⟨rfl, ad, fun _ _ => rfl, _, _, m, ?_, by omega, fun i => ?_, S2⟩
            · show BR (List.eraseIdx _ jx) = CW (BR g) q ⟨2, id, pa, af, ki, tx, tr⟩
              have k3 : BR (List.eraseIdx ((g.set jq (⟨hq.k.wKids (hq.k.kids.filter fun y => decide (y ≠ hx.k.id)), v'⟩ : Hk)).set jx ⟨hx.k.wPar none, hx.v⟩) jx) = (BR ((g.set jq (⟨hq.k.wKids (hq.k.kids.filter fun y => decide (y ≠ hx.k.id)), v'⟩ : Hk)).set jx ⟨hx.k.wPar none, hx.v⟩)).eraseIdx jx := EZ _ _ _;have k4 := Fo n2 (j := jx) (k := hx.k.wPar none) (by show (List.map _ _)[jx]? = _; rw [PU, ex2]; rfl);rw [k3, k4, k2, k1];have e5 : (hx.k.wPar none).id = hx.k.id := rfl;rw [e5, J8 (f := fun k => k.wPar none) (fun _ => rfl)];unfold CW;rw [hxi, hqi]
            · show i ∈ ids.filter (· ≠ id) ↔ i ∈ (CW (BR g) q ⟨2, id, pa, af, ki, tx, tr⟩).map (·.id)
              rw [Hx, Qp, Qp, hids i]
          rw [<- hqi] at hpar;rcases hP with hpa | ⟨hpa, haf, jp, hp, ep, hpi, _⟩ | ⟨hpa, haf, jp, hp, ep, hpi, _⟩
          · exact (Mv S id pa af ki tx tr h1 h2 hid hpa ex eq hne hxi hk0 hpar hin hids2).mono (fun _ _ h => fin h)
          · exact (Mw S id pa af ki tx tr h1 h2 hid hpa haf ex eq hne hxi hk0 hpar hin hids2).mono (fun _ _ h => fin h)
          · exact (Mx S id pa af ki tx tr h1 h2 hid hpa haf ep hpi (hkid hp (Pm ep)) ex eq hne hxi hk0 hpar hin hids2).mono (fun _ _ h => fin h)
        · have hD : Ce (BR g) ⟨2, id, pa, af, ki, tx, tr⟩ = none := by
            unfold Ce;rw [if_neg (by simp), if_pos rfl];simp only [hga, hpar, hk0, if_false]
          have hk1 : 0 < hx.k.kids.length := List.length_pos_iff.2 hk0;rcases hP with hpa | ⟨hpa, haf, jp, hp, ep, hpi, _⟩ | ⟨hpa, haf, jp, hp, ep, hpi, _⟩
          · exact (Le S id pa af ki tx tr h1 h2 hid ex hxi hpar hk1 hpa).mono (fun _ _ h => done0 hD h)
          · exact (Lf S id pa af ki tx tr h1 h2 hid ex hxi hpar hk1 hpa haf).mono (fun _ _ h => done0 hD h)
          · exact (Lg S id pa af ki tx tr h1 h2 hid ex hxi hpar hk1 hpa haf ep hpi (hkid hp (Pm ep))).mono (fun _ _ h => done0 hD h)
    · have hD : Ce (BR g) ⟨2, id, pa, af, ki, tx, tr⟩ = none := by
        unfold Ce;rw [if_neg (by simp), if_pos rfl];simp only [hno id hid]
      rcases hP with hpa | ⟨hpa, haf, jp, hp, ep, hpi, _⟩ | ⟨hpa, haf, jp, hp, ep, hpi, _⟩
      · exact (L0 S id pa af ki tx tr h1 h2 hid hpa).mono (fun _ _ h => done0 hD h)
      · exact (L3 S id pa af ki tx tr h1 h2 hid hpa haf).mono (fun _ _ h => done0 hD h)
      · exact (L4 S id pa af ki tx tr h1 h2 hid hpa haf ep hpi (hkid hp (Pm ep))).mono (fun _ _ h => done0 hD h)
  by_cases s3 : so = 3
  · subst s3;by_cases hid : id ∈ ids
    · obtain ⟨jx, hx, ex, hxi, hga⟩ := hat id hid;have hD : Ce (BR g) ⟨3, id, pa, af, ki, tx, tr⟩ = some (DJ (BR g) ⟨3, id, pa, af, ki, tx, tr⟩) := by
        unfold Ce;rw [if_neg (by simp), if_neg (by simp), if_pos rfl];simp only [hga]
      have fin : ∀ {e : Ending} {w' : Pe}, (e = .returned (.bool true) /\ Au w0 Z (GL (Al gb 61 #[.map (some bm)] :: Bg bm m ad ids :: pre) ad (g.set jx ⟨hx.k.wText tx tr, hx.v⟩) X) F w') -> (e = .returned (.bool true) /\ ∃ g', BR g' = DJ (BR g) ⟨3, id, pa, af, ki, tx, tr⟩ /\ Au w0 Z (GL (Al gb 61 #[.map (some bm)] :: Bg bm m ad ids :: pre) ad g' X) F w') := by
        rintro e w' ⟨rfl, S'⟩;refine ⟨rfl, _, ?_, S'⟩;rw [Dp I.nodup ex (h' := ⟨hx.k.wText tx tr, hx.v⟩) (f := fun k => k.wText tx tr) rfl, hxi];rfl
      rcases hP with hpa | ⟨hpa, haf, jp, hp, ep, hpi, _⟩ | ⟨hpa, haf, jp, hp, ep, hpi, _⟩
      · exact (Ms S id pa af ki tx tr h1 h2 hid hpa ex hxi).mono (fun _ _ h => done1 hD (EO _ _) (fin h))
      · exact (Mt S id pa af ki tx tr h1 h2 hid hpa haf ex hxi).mono (fun _ _ h => done1 hD (EO _ _) (fin h))
      · exact (Mu S id pa af ki tx tr h1 h2 hid hpa haf ep hpi (hkid hp (Pm ep)) ex hxi).mono (fun _ _ h => done1 hD (EO _ _) (fin h))
    · have hD : Ce (BR g) ⟨3, id, pa, af, ki, tx, tr⟩ = none := by
        unfold Ce;rw [if_neg (by simp), if_neg (by simp), if_pos rfl];simp only [hno id hid]
      rcases hP with hpa | ⟨hpa, haf, jp, hp, ep, hpi, _⟩ | ⟨hpa, haf, jp, hp, ep, hpi, _⟩
      · exact (L5 S id pa af ki tx tr h1 h2 hid hpa).mono (fun _ _ h => done0 hD h)
      · exact (L6 S id pa af ki tx tr h1 h2 hid hpa haf).mono (fun _ _ h => done0 hD h)
      · exact (L7 S id pa af ki tx tr h1 h2 hid hpa haf ep hpi (hkid hp (Pm ep))).mono (fun _ _ h => done0 hD h)
  by_cases s4 : so = 4
  · subst s4;by_cases hid : id ∈ ids
    · obtain ⟨jx, hx, ex, hxi, hga⟩ := hat id hid;have h0id : 0 <= id := by rw [<- hxi]; exact (I.in64 _ (Dn ex)).1
      cases hpar : hx.k.par with
      | none =>
        have hD : Ce (BR g) ⟨4, id, pa, af, ki, tx, tr⟩ = none := by
          unfold Ce;rw [if_neg (by simp), if_neg (by simp), if_neg (by simp), if_pos rfl];simp only [hga, hpar]
        rcases hP with hpa | ⟨hpa, haf, jp, hp, ep, hpi, _⟩ | ⟨hpa, haf, jp, hp, ep, hpi, _⟩
        · exact (J4 S id pa af ki tx tr h1 h2 hid ex hxi hpar hpa).mono (fun _ _ h => done0 hD h)
        · exact (J5 S id pa af ki tx tr h1 h2 hid ex hxi hpar hpa haf).mono (fun _ _ h => done0 hD h)
        · exact (J6 S id pa af ki tx tr h1 h2 hid ex hxi hpar hpa haf ep hpi (hkid hp (Pm ep))).mono (fun _ _ h => done0 hD h)
      | some q =>
        obtain ⟨jq, hq, eq, hqi, hne, hin⟩ := hparq ex hpar;have hDone : Dk (BR g) ⟨4, id, pa, af, ki, tx, tr⟩ -> ¬ af = id -> ¬ E6 (BR g) pa id -> Ce (BR g) ⟨4, id, pa, af, ki, tx, tr⟩ = some (Ch (BR g) hq.k.id ⟨4, id, pa, af, ki, tx, tr⟩) := fun a b c => by
          unfold Ce;rw [if_neg (by simp), if_neg (by simp), if_neg (by simp), if_pos rfl];simp only [hga, hpar];rw [if_pos ⟨a, b, c⟩, hqi]
        have hNot : ¬ (Dk (BR g) ⟨4, id, pa, af, ki, tx, tr⟩ /\ af ≠ id /\ ¬ E6 (BR g) pa id) -> Ce (BR g) ⟨4, id, pa, af, ki, tx, tr⟩ = none := fun a => by
          unfold Ce;rw [if_neg (by simp), if_neg (by simp), if_neg (by simp), if_pos rfl];simp only [hga, hpar];rw [if_neg a]
        have hpar2 : hx.k.par = some hq.k.id := by rw [hpar, hqi]
        have hbig : E6 (BR g) pa id -> ∀ n0 : Nat, ∃ n, n0 <= n /\ Cg (BR g) n pa id = true := by
          rintro ⟨n, hn⟩ n0;exact ⟨max n0 n, Rq _ _, Ht hn (Rh _ _)⟩
        rcases hP with hpa | ⟨hpa, haf, jp, hp, ep, hpi, hgp⟩ | ⟨hpa, haf, jp, hp, ep, hpi, hgp⟩
        · refine (Lp S id pa af ki tx tr h1 h2 hid ex hxi hpar hpa).mono (fun _ _ h => done0 (hNot ?_) h);rintro ⟨⟨p, hp, _⟩, _⟩;rw [show CY (BR g) pa = none from hno pa hpa] at hp; cases hp
        · have hai : ¬ af = id := by omega
          by_cases hb : E6 (BR g) pa id
          · exact (Ls S id pa af ki tx tr h1 h2 hid ex hxi hpar hpa haf ep hpi (hkid hp (Pm ep)) hai I (hbig hb)).mono (fun _ _ h => done0 (hNot (fun h => h.2.2 hb)) h)
          · have hnp : jx ≠ jp := by
              rintro rfl;have := Px (ex.symm.trans ep);subst this;exact hb (by rw [<- hpi, hxi]; exact E6.refl _ _)
            exact (MB S I id pa af ki tx tr h1 h2 hid hpa ex eq ep hne hnp hpar2 hin hkid hlen hxi hpi hai hb haf).mono (fun _ _ h => done1 (hDone ⟨hp.k, hgp, .inl haf⟩ hai hb) (F8 _ _ _) h)
        · by_cases hsp : 0 <= AO hp.k.kids af
          · by_cases hai : af = id
            · exact (Lr S id pa af ki tx tr h1 h2 hid ex hxi hpar hpa haf ep hpi (hkid hp (Pm ep)) hsp hai).mono (fun _ _ h => done0 (hNot (fun h => h.2.1 hai)) h)
            · by_cases hb : E6 (BR g) pa id
              · exact (Lt S id pa af ki tx tr h1 h2 hid ex hxi hpar hpa haf ep hpi (hkid hp (Pm ep)) hsp hai I (hbig hb)).mono (fun _ _ h => done0 (hNot (fun h => h.2.2 hb)) h)
              · have hnp : jx ≠ jp := by
                  rintro rfl;have := Px (ex.symm.trans ep);subst this;exact hb (by rw [<- hpi, hxi]; exact E6.refl _ _)
                exact (MC S I id pa af ki tx tr h1 h2 hid hpa ex eq ep hne hnp hpar2 hin hkid hlen hxi hpi hai hb haf hsp).mono (fun _ _ h => done1 (hDone ⟨hp.k, hgp, .inr ((Cz _ _).1 hsp)⟩ hai hb) (F8 _ _ _) h)
          · refine (Lq S id pa af ki tx tr h1 h2 hid ex hxi hpar hpa haf ep hpi (hkid hp (Pm ep)) hsp).mono (fun _ _ h => done0 (hNot ?_) h);rintro ⟨⟨p, hp', h3⟩, _⟩;rw [show CY (BR g) pa = some hp.k from hgp] at hp';injection hp' with hp'
            subst hp';rcases h3 with h3 | h3
            · exact haf h3
            · exact hsp ((Cz _ _).2 h3)
    · have hD : Ce (BR g) ⟨4, id, pa, af, ki, tx, tr⟩ = none := by
        unfold Ce;rw [if_neg (by simp), if_neg (by simp), if_neg (by simp), if_pos rfl];simp only [hno id hid]
      rcases hP with hpa | ⟨hpa, haf, jp, hp, ep, hpi, _⟩ | ⟨hpa, haf, jp, hp, ep, hpi, _⟩
      · exact (L8 S id pa af ki tx tr h1 h2 hid hpa).mono (fun _ _ h => done0 hD h)
      · exact (L9 S id pa af ki tx tr h1 h2 hid hpa haf).mono (fun _ _ h => done0 hD h)
      · exact (La S id pa af ki tx tr h1 h2 hid hpa haf ep hpi (hkid hp (Pm ep))).mono (fun _ _ h => done0 hD h)
  have hD : Ce (BR g) ⟨so, id, pa, af, ki, tx, tr⟩ = none := by
    unfold Ce;rw [if_neg s1, if_neg s2, if_neg s3, if_neg s4]
  rcases hP with hpa | ⟨hpa, haf, jp, hp, ep, hpi, _⟩ | ⟨hpa, haf, jp, hp, ep, hpi, _⟩
  · exact (JK S so id pa af ki tx tr h1 h2 s1 s2 s3 s4 hpa).mono (fun _ _ h => done0 hD h)
  · exact (JL S so id pa af ki tx tr h1 h2 s1 s2 s3 s4 hpa haf).mono (fun _ _ h => done0 hD h)
  · exact (JM S so id pa af ki tx tr h1 h2 s1 s2 s3 s4 hpa haf ep hpi (hkid hp (Pm ep))).mono (fun _ _ h => done0 hD h)
end
end Go.Proofs.Q
namespace Go.Proofs.Q
open Go Go.RowKit Go.Proofs.V.Words Go.Proofs.V.SL
theorem CQ.kid_of {g : List Kn} (I : CQ g) {a y k : Kn} (ha : a ∈ g) (hk : k ∈ g) (h : k.id ∈ a.kids) : k.par = some a.id := by
 obtain ⟨z, hz, e1, e2⟩ := I.kids a ha _ h;rw [Eu I.nodup hz hk e1] at e2;exact e2
theorem Lu {g : List Kn} {x : Ed} (I : CQ g) : CQ (DJ g x) := by
 have hi : (DJ g x).map (·.id) = g.map (·.id) := C2 (fun _ => rfl);have hm : ∀ k', k' ∈ DJ g x -> ∃ k ∈ g, k'.id = k.id /\ k'.par = k.par /\ k'.kids = k.kids := fun k' h => by
  obtain ⟨k, hk, rfl⟩ := Cs.1 h;refine ⟨k, hk, ?_⟩
  split
  ·exact ⟨rfl, rfl, rfl⟩
  ·exact ⟨rfl, rfl, rfl⟩
 have hb : ∀ k ∈ g, ∃ k' ∈ DJ g x, k'.id = k.id /\ k'.par = k.par /\ k'.kids = k.kids := fun k hk => by
  refine ⟨_, Cs.2 ⟨k, hk, rfl⟩, ?_⟩
  split
  ·exact ⟨rfl, rfl, rfl⟩
  ·exact ⟨rfl, rfl, rfl⟩
 refine ⟨by rw [hi]; exact I.nodup, ?_, ?_, ?_, ?_, ?_, ?_⟩
 ·intro k' hk' i hi';obtain ⟨k, hk, e1, e2, e3⟩ := hm k' hk';rw [e3] at hi';obtain ⟨y, hy, f1, f2⟩ := I.kids k hk i hi';obtain ⟨y', hy', g1, g2, g3⟩ := hb y hy;exact ⟨y', hy', g1.trans f1, by rw [g2, f2, e1]⟩
 ·intro k' hk' p hp;obtain ⟨k, hk, e1, e2, e3⟩ := hm k' hk';rw [e2] at hp;obtain ⟨y, hy, f1, f2⟩ := I.par k hk p hp;obtain ⟨y', hy', g1, g2, g3⟩ := hb y hy;exact ⟨y', hy', g1.trans f1, by rw [g3, e1]; exact f2⟩
 ·intro k' hk';obtain ⟨k, hk, e1, e2, e3⟩ := hm k' hk';rw [e3]; exact I.kdup k hk
 ·obtain ⟨d, hd⟩ := I.rank;refine ⟨d, fun k' hk' p hp => ?_⟩;obtain ⟨k, hk, e1, e2, e3⟩ := hm k' hk';rw [e1]; rw [e2] at hp; exact hd k hk p hp
 ·intro k' hk';obtain ⟨k, hk, e1, e2, e3⟩ := hm k' hk';rw [e1, e2]; exact I.root k hk
 ·intro k' hk';obtain ⟨k, hk, e1, e2, e3⟩ := hm k' hk';rw [e1]; exact I.in64 k hk
theorem Lv {g : List Kn} {x : Ed} {k : Kn} {q : Int} (I : CQ g) (hk : CY g x.id = some k) (hq : k.par = some q) (h0 : k.kids = []) : CQ (CW g q x) := by
 obtain ⟨hkm, hki⟩ := Cn hk;have hm : ∀ k', k' ∈ CW g q x -> ∃ a ∈ g, a.id ≠ x.id /\ k'.id = a.id /\ k'.par = a.par /\ (∀ i, i ∈ k'.kids ↔ i ∈ a.kids /\ i ≠ x.id) /\ (a.kids.Nodup -> k'.kids.Nodup) := fun k' h => by
  obtain ⟨h1, h2⟩ := Qp.1 h;obtain ⟨a, ha, e⟩ := Cs.1 h1;refine ⟨a, ha, ?_⟩;by_cases c : a.id = q
  ·rw [if_pos c] at e;subst e;refine ⟨of_decide_eq_true (show decide (a.id ≠ x.id) = true from h2), rfl, rfl, fun i => ?_, fun hn => hn.filter _⟩
   show i ∈ a.kids.filter _ ↔ _
   rw [Qp]; simp
  ·rw [if_neg c] at e;subst e;refine ⟨by simpa using h2, rfl, rfl, fun i => ⟨fun hi => ⟨hi, fun e => ?_⟩, fun h => h.1⟩, fun hn => hn⟩;have := I.kid_of (y := k) ha hkm (by rw [hki, <- e]; exact hi);rw [hq] at this;injection this with this
   exact c this.symm
 have hb : ∀ a ∈ g, a.id ≠ x.id -> ∃ k' ∈ CW g q x, k'.id = a.id /\ k'.par = a.par /\ ∀ i, i ∈ a.kids -> i ≠ x.id -> i ∈ k'.kids := fun a ha hn => by
  refine ⟨if a.id = q then Kn.cut x.id a else a, Qp.2 ⟨Cs.2 ⟨a, ha, rfl⟩, ?_⟩, ?_⟩
  ·split
   ·exact decide_eq_true (show (Kn.cut x.id a).id ≠ x.id from hn)
   ·exact decide_eq_true hn
  ·split
   ·exact ⟨rfl, rfl, fun i h1 h2 => Qp.2 ⟨h1, by simpa using h2⟩⟩
   ·exact ⟨rfl, rfl, fun i h1 h2 => h1⟩
 refine ⟨?_, ?_, ?_, ?_, ?_, ?_, ?_⟩
 ·have h1 : (CW g q x).map (·.id) = ((BN g q (Kn.cut x.id)).filter fun k => decide (k.id ≠ x.id)).map (·.id) := rfl;have h2 := (List.filter_sublist (l := BN g q (Kn.cut x.id)) (p := fun k => decide (k.id ≠ x.id))).map (·.id);rw [C2 (E7 x.id)] at h2;exact h2.nodup I.nodup
 ·intro k' hk' i hi;obtain ⟨a, ha, hn, e1, e2, e3, _⟩ := hm k' hk';obtain ⟨hi1, hi2⟩ := (e3 i).1 hi;obtain ⟨y, hy, f1, f2⟩ := I.kids a ha i hi1;obtain ⟨y', hy', g1, g2, _⟩ := hb y hy (by rw [f1]; exact hi2);exact ⟨y', hy', g1.trans f1, by rw [g2, f2, e1]⟩
 ·intro k' hk' p hp;obtain ⟨a, ha, hn, e1, e2, e3, _⟩ := hm k' hk';rw [e2] at hp;obtain ⟨y, hy, f1, f2⟩ := I.par a ha p hp;have hyn : y.id ≠ x.id := fun e => by
   rw [Eu I.nodup hy hkm (e.trans hki.symm), h0] at f2;cases f2
  obtain ⟨y', hy', g1, g2, g3⟩ := hb y hy hyn;exact ⟨y', hy', g1.trans f1, by rw [e1]; exact g3 _ f2 hn⟩
 ·intro k' hk';obtain ⟨a, ha, hn, e1, e2, e3, e4⟩ := hm k' hk';exact e4 (I.kdup a ha)
 ·obtain ⟨d, hd⟩ := I.rank;refine ⟨d, fun k' hk' p hp => ?_⟩;obtain ⟨a, ha, hn, e1, e2, e3, _⟩ := hm k' hk';rw [e1]; rw [e2] at hp; exact hd a ha p hp
 ·intro k' hk';obtain ⟨a, ha, hn, e1, e2, e3, _⟩ := hm k' hk';rw [e1, e2]; exact I.root a ha
 ·intro k' hk';obtain ⟨a, ha, hn, e1, e2, e3, _⟩ := hm k' hk';rw [e1]; exact I.in64 a ha
theorem Lw (g : List Kn) (q : Int) (x : Ed) : Ch g q x = g.map fun a =>
  let b := if a.id = q then Kn.cut x.id a else a
  let c := if a.id = x.pa then Kn.ins x b else b
  if a.id = x.id then c.wPar (some x.pa) else c := by
 unfold Ch BN;rw [RL, RL];apply QJ;intro a _;simp only [Function.comp_apply];have e1 : (if a.id = q then Kn.cut x.id a else a).id = a.id := by split <;> rfl
 rw [e1];have e2 : ∀ b : Kn, b.id = a.id -> (if a.id = x.pa then Kn.ins x b else b).id = a.id := fun b hb => by split <;> exact hb
 rw [e2 _ e1]
theorem JN {g : List Kn} {x : Ed} {k : Kn} {q : Int} (I : CQ g) (hk : CY g x.id = some k) (hq : k.par = some q) (hs : Dk g x) (hb : ¬ E6 g x.pa x.id) : CQ (Ch g q x) := by
 obtain ⟨hkm, hki⟩ := Cn hk;obtain ⟨p, hp, _⟩ := hs;obtain ⟨hpm, hpi⟩ := Cn hp;have hpn : x.pa ≠ x.id := fun e => hb (by rw [e]; exact E6.refl _ _)
 have hc : ∀ a ∈ g, a.id ≠ q -> x.id ∉ a.kids := fun a ha hn hi => by
  have := I.kid_of (y := k) ha hkm (by rw [hki]; exact hi);rw [hq] at this;injection this with this
  exact hn this.symm
 obtain ⟨M, hM⟩ : ∃ M : Kn -> Kn, ∀ a, M a = (let b := if a.id = q then Kn.cut x.id a else a
  let c := if a.id = x.pa then Kn.ins x b else b
  if a.id = x.id then c.wPar (some x.pa) else c) := ⟨_, fun _ => rfl⟩
 have hmv : Ch g q x = g.map M := by rw [Lw]; exact QJ (fun a _ => (hM a).symm)
 have mid : ∀ a, (M a).id = a.id := fun a => by
  rw [hM];dsimp only
  split <;> split <;> split <;> rfl
 have mpar : ∀ a, (M a).par = if a.id = x.id then some x.pa else a.par := fun a => by
  rw [hM];dsimp only
  split <;> split <;> split <;> rfl
 have hbk : ∀ a ∈ g, ∀ i, i ∈ (if a.id = q then Kn.cut x.id a else a).kids ↔ i ∈ a.kids /\ i ≠ x.id := fun a ha i => by
  split
  ·show i ∈ a.kids.filter _ ↔ _
   rw [Qp]; simp
  ·rename_i e;exact ⟨fun h => ⟨h, fun e2 => hc a ha e (by rw [<- e2]; exact h)⟩, fun h => h.1⟩
 have hbn : ∀ a ∈ g, (if a.id = q then Kn.cut x.id a else a).kids.Nodup := fun a ha => by
  split
  ·exact (I.kdup a ha).filter _
  ·exact I.kdup a ha
 have mkids : ∀ a ∈ g, ∀ i, i ∈ (M a).kids ↔ (a.id = x.pa /\ i = x.id) \/ (i ∈ a.kids /\ i ≠ x.id) := fun a ha i => by
  have e : (M a).kids = (if a.id = x.pa then Kn.ins x (if a.id = q then Kn.cut x.id a else a) else (if a.id = q then Kn.cut x.id a else a)).kids := by
   rw [hM]; dsimp only
   split <;> rfl
  rw [e];by_cases c : a.id = x.pa
  ·rw [if_pos c]
   show i ∈ Bx _ _ _ ↔ _
   rw [Hu, hbk a ha];simp [c]
  ·rw [if_neg c, hbk a ha];simp [c]
 have mnd : ∀ a ∈ g, (M a).kids.Nodup := fun a ha => by
  have e : (M a).kids = (if a.id = x.pa then Kn.ins x (if a.id = q then Kn.cut x.id a else a) else (if a.id = q then Kn.cut x.id a else a)).kids := by
   rw [hM]; dsimp only
   split <;> rfl
  rw [e];by_cases c : a.id = x.pa
  ·rw [if_pos c];exact G0 (hbn a ha) (fun h => ((hbk a ha _).1 h).2 rfl)
  ·rw [if_neg c]; exact hbn a ha
 have hmem : ∀ k', k' ∈ Ch g q x ↔ ∃ a ∈ g, M a = k' := fun k' => by rw [hmv, PF]
 refine ⟨?_, ?_, ?_, ?_, ?_, ?_, ?_⟩
 ·rw [hmv, RL];have : (fun a => (M a).id) = fun a : Kn => a.id := funext mid
  show (g.map (fun a => (M a).id)).Nodup
  rw [this]; exact I.nodup
 ·intro k' hk' i hi;obtain ⟨a, ha, rfl⟩ := (hmem k').1 hk';rcases (mkids a ha i).1 hi with ⟨c1, c2⟩ | ⟨c1, c2⟩
  ·refine ⟨M k, (hmem _).2 ⟨k, hkm, rfl⟩, by rw [mid, hki, c2], ?_⟩;rw [mpar, if_pos hki, mid, c1]
  ·obtain ⟨y, hy, f1, f2⟩ := I.kids a ha i c1;refine ⟨M y, (hmem _).2 ⟨y, hy, rfl⟩, by rw [mid, f1], ?_⟩;rw [mpar, if_neg (by rw [f1]; exact c2), mid, f2]
 ·intro k' hk' r hr;obtain ⟨a, ha, rfl⟩ := (hmem k').1 hk';rw [mpar] at hr;by_cases c : a.id = x.id
  ·rw [if_pos c] at hr;injection hr with hr
   subst hr;refine ⟨M p, (hmem _).2 ⟨p, hpm, rfl⟩, by rw [mid, hpi], ?_⟩;rw [mkids p hpm, mid];exact .inl ⟨hpi, c⟩
  ·rw [if_neg c] at hr;obtain ⟨y, hy, f1, f2⟩ := I.par a ha r hr;refine ⟨M y, (hmem _).2 ⟨y, hy, rfl⟩, by rw [mid, f1], ?_⟩;rw [mkids y hy, mid];exact .inr ⟨f2, c⟩
 ·intro k' hk';obtain ⟨a, ha, rfl⟩ := (hmem k').1 hk';exact mnd a ha
 ·obtain ⟨d, hd⟩ := I.rank;refine ⟨fun i => open Classical in if E6 g i x.id then d i + d x.pa + 1 else d i, fun k' hk' r hr => ?_⟩;obtain ⟨a, ha, rfl⟩ := (hmem k').1 hk';rw [mpar] at hr;rw [mid];dsimp only;by_cases c : a.id = x.id
  ·rw [if_pos c] at hr;injection hr with hr
   subst hr;rw [if_neg hb, if_pos (by rw [c]; exact E6.refl _ _)];omega
  ·rw [if_neg c] at hr;have h3 := hd a ha r hr;have h4 : E6 g a.id x.id ↔ E6 g r x.id := by
    rw [E6.iff (i := a.id)];constructor
    ·rintro (h | ⟨s, hs, hB⟩)
     ·exact (c h).elim
     ·rw [E4 I.nodup ha, Pj, hr] at hs;injection hs with hs
      rw [hs]; exact hB
    ·intro h;exact .inr ⟨r, by rw [E4 I.nodup ha, Pj, hr], h⟩
   by_cases h5 : E6 g r x.id
   ·rw [if_pos h5, if_pos (h4.2 h5)]; omega
   ·rw [if_neg h5, if_neg (fun h => h5 (h4.1 h))]; omega
 ·intro k' hk';obtain ⟨a, ha, rfl⟩ := (hmem k').1 hk';rw [mpar, mid];by_cases c : a.id = x.id
  ·rw [if_pos c];have := I.root k hkm;rw [hq] at this;constructor
   ·intro h; cases h
   ·intro h;have h2 := this.2 (by rw [hki, <- c]; exact h);cases h2
  ·rw [if_neg c]; exact I.root a ha
 ·intro k' hk';obtain ⟨a, ha, rfl⟩ := (hmem k').1 hk';rw [mid]; exact I.in64 a ha
theorem Fp {g g' : List Kn} {x : Ed} (I : CQ g) (h64 : in64 x.id) (h : Ce g x = some g') : CQ g' := by
 unfold Ce at h
 split at h
 ·split at h
  ·rename_i c; injection h with h; subst h; exact MA I c.1 c.2.1 h64 c.2.2
  ·cases h
 split at h
 ·split at h
  ·cases h
  ·rename_i k hk
   split at h
   ·cases h
   ·rename_i q hq
    split at h
    ·rename_i c; injection h with h; subst h; exact Lv I hk hq c
    ·cases h
 split at h
 ·split at h
  ·cases h
  ·injection h with h; subst h; exact Lu I
 split at h
 ·split at h
  ·cases h
  ·rename_i k hk
   split at h
   ·cases h
   ·rename_i q hq
    split at h
    ·rename_i c; injection h with h; subst h; exact JN I hk hq c.1 c.2.2
    ·cases h
 ·cases h
theorem Gj {g g' : List Kn} {x : Ed} (h : Ce g x = some g') : g'.length <= g.length + 1 := by
 unfold Ce at h
 split at h
 ·split at h
  ·injection h with h; subst h; simp [EU, BN]
  ·cases h
 split at h
 ·split at h
  ·cases h
  ·split at h
   ·cases h
   ·split at h
    ·injection h with h; subst h
     unfold CW;refine Qo (SI _ _) ?_;simp [BN]
    ·cases h
 split at h
 ·split at h
  ·cases h
  ·injection h with h; subst h; simp [DJ, BN]
 split at h
 ·split at h
  ·cases h
  ·split at h
   ·cases h
   ·split at h
    ·injection h with h; subst h; simp [Ch, BN]
    ·cases h
 ·cases h
end Go.Proofs.Q
namespace Go.Proofs.V.SL
open Go Go.RowKit Go.Proofs.V.Words
def Bo {α : Type} (d : Kd α) (e B : Nat) (v : Pd) (xs : List α) : Bj :=
  ⟨fun w f => (∀ k, f k -> k < w.heap.size) /\ d.R e w B f v xs,
   fun h hs => ⟨fun k hk => by
     have hl := h.1 k hk;have he := hs k hk;rw [Array.getElem?_eq_getElem hl] at he;exact (Array.getElem?_eq_some_iff.1 he).1, Kd.R_move h.2 hs⟩,
   fun h k hk => h.1 k hk⟩
section
variable {w0 w w' : Pe} {Z : Nat -> Prop} {l L : List Bj} {F : List FA} {α : Type} {d : Kd α} {e B i : Nat} {v : Pd} {xs : List α}
theorem Au.rowOf_at (S : Au w0 Z L F w) (hi : L[i]? = some (Bo d e B v xs)) : ∃ f : Nat -> Prop, (∀ k, f k -> w0.heap.size <= k /\ ¬ Z k /\ k < w.heap.size) /\ d.R e w B f v xs := by
 obtain ⟨f, hf, hd⟩ := S.st.hs;obtain ⟨fa, ha, hsub, _⟩ := hf.at hi;exact ⟨fa, fun k hk => ⟨(hd k (hsub k hk)).1, (hd k (hsub k hk)).2, ha.1 k hk⟩, ha.2⟩
theorem Au.rowOf_new (S : Au w0 Z L F w) {ok : Nat -> Prop} (hb : Below w.heap.size w w') (h : d.R e w' w.heap.size ok v xs) (hB : B <= w.heap.size) : Au w0 Z (Bo d e B v xs :: L) F w' :=
 S.more (a := Bo d e B v xs) (f := fun k => w.heap.size <= k /\ k < w'.heap.size) hb ⟨fun k hk => hk.2, Kd.R_mono (Kd.R_lower (Kd.R_bound h) hB) (fun k hk => ⟨hk.2.1, hk.2.2.1⟩)⟩ (fun k hk => hk.1)
theorem Au.drew (S : Au w0 Z L F w) : Au w0 Z L F w.drew := S.keep ⟨rfl, rfl, rfl, Ps _, fun _ _ => rfl⟩
theorem Au.rowOf_app {β : Type} {d' : Kd β} {e' : Nat} {ve : Pd} {ys : List β} (S : Au w0 Z (Bo d' e' B ve ys :: Bo d e B v xs :: L) F w) :
  ∃ ok okp : Nat -> Prop, (∀ k, okp k -> ok k /\ some k ≠ v.ownBlock) /\ (∀ k, w.heap.size <= k -> ok k) /\ d.R e w B ok v xs /\ d'.R e' w B okp ve ys /\ ∀ (v1 : Pd) (w1 : Pe) (xs1 : List α), d.R e w1 B ok v1 xs1 -> w.grownBy w1 v.ownBlock -> Au w0 Z (Bo d e B v1 xs1 :: L) F w1 := by
 obtain ⟨f, ⟨f2, fr, he, hd, ha, f1, f3, he2, hd2, hb, hr⟩, hz⟩ := S.st.hs;refine ⟨fun k => f1 k \/ f2 k \/ w.heap.size <= k, f2, fun k hk => ⟨.inr (.inl hk), fun e => hd k hk ((he2 k).2 (.inl (hb.2.1 k e.symm)))⟩, fun k hk => .inr (.inr hk), Kd.R_mono hb.2 (fun k hk => .inl hk), ha.2, fun v1 w1 xs1 h1 hg => ?_⟩;have hle := S.below.size;have hv : ∀ k, v.ownBlock = some k -> w0.heap.size <= k /\ ¬ Z k := fun k hk => hz k ((he k).2 (.inr ((he2 k).2 (.inl (hb.2.1 k hk)))))
 have hkeep : ∀ k, k < w.heap.size -> v.ownBlock ≠ some k -> w1.heap[k]? = w.heap[k]? := fun k hk hn => hg.block k hk (fun e => hn e.symm)
 refine ⟨⟨S.below.trans ⟨hg.os, hg.tape, hg.output, hg.size, fun k hk => hkeep k (by omega) (fun e => by have := (hv k e).1; omega)⟩, fun k hk => QU (S.st.zlt k hk) hg.size, fun k => ((f1 k \/ f2 k \/ w.heap.size <= k) /\ k < w1.heap.size) \/ f3 k, ⟨_, f3, fun k => RY, fun k h1 h3 => ?_, ⟨fun k hk => hk.2, Kd.R_mono (Kd.R_bound h1) (fun k hk => ⟨hk.1, hk.2.2.1⟩)⟩, hr.loc (fun k hk => hkeep k (hr.lt k hk) (fun e => hd2 k (hb.2.1 k e) hk))⟩, fun k hk => ?_⟩, fun a ha' => a.step (S.fr a ha') (fun k hk hl => hkeep k hl (fun e => (hv k e).2 hk)) (fun _ h => h), S.old⟩
 ·rcases h1.1 with h | h | h
  ·exact hd2 k h h3
  ·exact hd k h ((he2 k).2 (.inr h3))
  ·have := hr.lt k h3; omega
 ·rcases hk with ⟨h | h | h, _⟩ | h
  ·exact hz k ((he k).2 (.inr ((he2 k).2 (.inl h))))
  ·exact hz k ((he k).2 (.inl h))
  ·exact ⟨by omega, fun hz' => by have := S.st.zlt k hz'; omega⟩
  ·exact hz k ((he k).2 (.inr ((he2 k).2 (.inr h))))
end
end Go.Proofs.V.SL
namespace Go.Proofs.Q
open Go Go.RowKit Go.Lib Go.Sort Go.Proofs.V.Words Go.Proofs.V.Last Go.Proofs.V.More Go.Proofs.V.SL
attribute [local go_sem] BI BJ BY BZ Bu Bv BL BM
def BD (ks : List Kn) : Nat -> Int -> B8
 | 0, _ => D0
 | n + 1, i => match CY ks i with
  | none => D0
  | some k => ⟨k.kind, k.text, k.trail, k.kids.map (BD ks n)⟩
theorem ME {w0 w : Pe} {Z : Nat -> Prop} {pre X : List Bj} {F : List FA} {ad : Int -> Nat} {g : List Hk} {j : Nat} {h : Hk} (S : Au w0 Z (GL pre ad g X) F w) (hj : g[j]? = some h) :
  w.cell? ⟨ad h.k.id, 1, none⟩ = some (.int .i64 h.k.kind) /\ w.cell? ⟨ad h.k.id, 2, none⟩ = some (.string h.k.text) /\ w.cell? ⟨ad h.k.id, 3, none⟩ = some (.string h.k.trail) /\ w.cell? ⟨ad h.k.id, 4, none⟩ = some (.slice none 0 0) /\ w.cell? ⟨ad h.k.id, 6, none⟩ = some h.v :=
 ⟨(Aa (AR S hj) 1).trans rfl, (Aa (AR S hj) 2).trans rfl, (Aa (AR S hj) 3).trans rfl, (Aa (AR S hj) 4).trans rfl, (Aa (AR S hj) 6).trans rfl⟩
theorem Hy {w : Pe} {ad : Int -> Nat} {v : Pd} {l : List Int} (h : w.ownsRow 0 58 1 v l.length (l.map (pk ad))) : ∃ A c, v = .slice A l.length c /\ ∀ (i : Nat) (y : Int), l[i]? = some y -> ∃ g, A = some ⟨g, 0, none⟩ /\ i < c /\ w.cell? ⟨g, i, none⟩ = some (pk ad y) := by
 obtain ⟨_, ⟨rfl, he⟩ | ⟨g, cap, cur, rfl, hb, hg, hnc, hcs, _, ht⟩⟩ := h
 ·refine ⟨none, 0, ?_, fun i y hi => ?_⟩
  ·rename_i hl; simp_all
  ·simp_all
 ·refine ⟨_, cap, rfl, fun i y hi => ⟨g, rfl, ?_, ?_⟩⟩
  ·have := (Pf.1 hi).1; omega
  ·exact Go.Proofs.Q.own_at hg ht i (pk ad y) (by rw [PU, hi]; rfl)
theorem Lx {ad : Int -> Nat} {w : Pe} (k : Kn) (v : Pd) (n : Nat) (ks : List Kn) (hlen : k.kids.length <= 1000000) (hone : ∀ t : B8, t ∈ k.kids.map (BD ks n) -> True)
  (HG : ∀ W, Below w.heap.size w W -> (W.cell? ⟨ad k.id, 1, none⟩ = some (.int .i64 k.kind) /\ W.cell? ⟨ad k.id, 2, none⟩ = some (.string k.text) /\ W.cell? ⟨ad k.id, 3, none⟩ = some (.string k.trail) /\ W.cell? ⟨ad k.id, 4, none⟩ = some (.slice none 0 0) /\ W.cell? ⟨ad k.id, 6, none⟩ = some v) /\ W.ownsRow 0 58 1 v k.kids.length (k.kids.map (pk ad)))
  (HC : ∀ y ∈ k.kids, ∀ W, Below w.heap.size w W -> PJ Try.prog 22 #[pk ad y] W fun e w' => ∃ v3, e = .returned (.agg #[.int .i64 (BD ks n y).f0, .string (BD ks n y).f1, .string (BD ks n y).f2, v3]) /\ Kd.R AY 24 w' W.heap.size (fun _ => True) v3 (BD ks n y).f3 /\ Below W.heap.size W w') :
  PJ Try.prog 22 #[pk ad k.id] w fun e w' => ∃ v3, e = .returned (.agg #[.int .i64 k.kind, .string k.text, .string k.trail, v3]) /\ Kd.R AY 24 w' w.heap.size (fun _ => True) v3 (k.kids.map (BD ks n)) /\ Below w.heap.size w w' := by
 have hlt : ad k.id < w.heap.size := Pb w _ (HG w (Pn _ _)).1.1;obtain ⟨A, c, hv, _⟩ := Hy (HG w (Pn _ _)).2;obtain ⟨nk, hnk⟩ : ∃ nk, k.kids.length = nk := ⟨_, rfl⟩;have HK : ∀ W, Below w.heap.size w W -> ∀ (i : Nat) (y : Int), k.kids[i]? = some y -> ∃ g, A = some ⟨g, 0, none⟩ /\ i < c /\ W.cell? ⟨g, i, none⟩ = some (pk ad y) := fun W hW => by
  obtain ⟨A2, c2, hv2, h2⟩ := Hy (HG W hW).2;rw [hv] at hv2;injection hv2 with e1 e2 e3
  subst e1; subst e3;exact h2
 have HF : ∀ W, Below w.heap.size w W -> W.cell? ⟨ad k.id, 1, none⟩ = some (.int .i64 k.kind) /\ W.cell? ⟨ad k.id, 2, none⟩ = some (.string k.text) /\ W.cell? ⟨ad k.id, 3, none⟩ = some (.string k.trail) /\ W.cell? ⟨ad k.id, 4, none⟩ = some (.slice none 0 0) /\ W.cell? ⟨ad k.id, 6, none⟩ = some (.slice A nk c) := fun W hW => by
  have := (HG W hW).1;rw [hv, hnk] at this;exact this
 obtain ⟨a, ha⟩ : ∃ a, ad k.id = a := ⟨_, rfl⟩;have S : Au w (fun k => k < w.heap.size) [] [] w := Au.start w (by simp);unfold pk at ⊢;rw [ha] at hlt HF ⊢;have hnk6 : nk <= 1000000 := by omega
 have hn0 : decide ((0 : Int) <= (nk : Int)) = true := decide_eq_true (by omega);replace HF := A7.mk HF;replace HK := A7.mk HK;replace HC := A7.mk HC;replace hlt := A7.mk hlt;replace hnk6 := A7.mk hnk6;have HL := A7.mk hnk;clear HG hv hnk ha hlen hone;obtain ⟨ts, hts⟩ : ∃ ts, ts = k.kids.map (BD ks n) := ⟨_, rfl⟩;rw [<- hts];have htl : ts.length = nk := by rw [hts, PM]; exact HL.out
 replace hts := A7.mk hts;replace htl := A7.mk htl;have hu24 := Try.underlying24;go_enter Try.func22, Try.ntmps22
 go_wp2_with (first | ((with_reducible refine AE (N := 2) rfl ?_); go_must ((refine Aw ?hg (N := 2) ?hd (cs := #[.int .i64 0, .string (⟨#[]⟩ : ByteArray), .string (⟨#[]⟩ : ByteArray), .slice none 0 0]) (t := 24) ?hr ?_; (case hd => rfl); (case hg => rfl); (case hr => first | (go_simp; done) | (go_simp; rfl)); intro g2 hg_ w1 hbox hb; replace S := S.box hg_ hbox hb; clear hbox hb hg_; obtain ⟨k1, k2, k3, k4, k6⟩ := HF.out _ S.below))) | ((with_reducible refine AE (N := 3) rfl ?_); go_must ((refine Aw ?hg (N := 3) ?hd (cs := #[.int .i64 0, .string (⟨#[]⟩ : ByteArray), .string (⟨#[]⟩ : ByteArray), .slice none 0 0]) (t := 24) ?hr ?_; (case hd => rfl); (case hg => rfl); (case hr => first | (go_simp; done) | (go_simp; rfl)); intro g3 hg_ w2 hbox hb; replace S := S.box hg_ hbox hb; clear hbox hb hg_; obtain ⟨⟨p0, p1, p2, p3⟩, p4, p5, p6, p7⟩ := box4 (S.at_blk 0 rfl); have hne := Rb (QU hlt.out (S.st.blk_ge (i := 0) rfl).1); have hne2 := Ry hne; clear k1 k2 k3 k4 k6; obtain ⟨k1, k2, k3, k4, k6⟩ := HF.out _ S.below))) | ((with_reducible refine AE (N := 15) rfl ?_); go_must ((replace S := S.set4 (.int .i64 k.kind) (.string k.text) (.string k.trail) (.slice none 0 0); refine Kd.R_make0 AY _ 24 rfl (N := 15) rfl 22 _ _ rfl (nk : Int) rfl rfl Try.underlying22 (.agg #[(.int .i64 0), (.string ⟨#[]⟩), (.string ⟨#[]⟩), (.slice none 0 0)]) 64 El rfl (by decide) (by omega) D0 (ok := fun _ => True) (okp := fun _ => True) (E0 _ _ _ D0 (Kd.R_nil _ _ _ _ _)) (fun _ hk => hk) trivial (by omega) (by have := hnk6.out; omega) (Pn _ _) (Ps _) ?_; intro v3 w3 ho hb hg_ hnew_; clear hg_ hnew_; obtain ⟨A3, c3, e3⟩ := Kd.R_slice ho; rw [List.length_nil] at e3; subst e3; replace S := S.rowOf_new (B := w.heap.size) hb ho S.below.size; clear ho hb k1 k2 k3 k4 k6 p0 p1 p2 p3 p4 p5 p6 p7; obtain ⟨⟨p0, p1, p2, p3⟩, p4, p5, p6, p7⟩ := box4 (S.at_blk 1 rfl); obtain ⟨k1, k2, k3, k4, k6⟩ := HF.out _ S.below))))
 have S2 := S.of (S.st.set (i := 1) rfl 3 (.slice A3 0 c3));replace S := A7.mk S2;clear S2 k1 k2 k3 k4 k6 p0 p1 p2 p3 p4 p5 p6 p7
 go_loopg [22] (nk + 1) (fun kq v22 W => ∃ (i : Nat) (v : Pd), v22 = .int .i64 (i : Int) /\ A7 (i <= nk /\ kq = nk - i + 1) /\ A7 (Au w (fun k => k < w.heap.size) [Bo AY 24 w.heap.size v (ts.take i), Al g3 24 #[.int .i64 k.kind, .string k.text, .string k.trail, v], Al g2 24 #[.int .i64 0, .string (⟨#[]⟩ : ByteArray), .string (⟨#[]⟩ : ByteArray), .slice none 0 0]] [] W))
 case atStart => exact ⟨0, .slice A3 0 c3, rfl, ⟨Qa _, rfl⟩, ⟨by rw [List.take_zero]; exact S.out⟩⟩
 case round =>
  clear S;obtain ⟨i, v, rfl, hi, SW⟩ := hrel;obtain ⟨fr, hfr, hR⟩ := SW.out.rowOf_at (i := 0) rfl;obtain ⟨Av, cv, ev⟩ := Kd.R_slice hR;rw [Pp, htl.out, Rm hi.out.1] at ev;subst ev;clear hR;by_cases hlt2 : i < nk
  ·have hy := List.getElem?_eq_getElem (l := k.kids) (i := i) (by rw [HL.out]; exact hlt2);obtain ⟨y, hyy⟩ : ∃ y, k.kids[i]'(by rw [HL.out]; exact hlt2) = y := ⟨_, rfl⟩;rw [hyy] at hy;have hym := Pm hy;obtain ⟨gk, rfl, hic, hkc⟩ := HK.out wr SW.out.below i y hy;have i1 : decide ((i : Int) < (nk : Int)) = true := decide_eq_true (by omega);have i2 : decide ((0 : Int) <= (i : Int)) = true := decide_eq_true (by omega);have i3 : (0 : Int) <= (i : Int) := by omega
   have i4 : (i : Int) < (nk : Int) := by omega
   unfold pk at hkc;obtain ⟨⟨p0, p1, p2, p3⟩, p4, p5, p6, p7⟩ := box4 (SW.out.at_blk 1 rfl);have hty : ts[i]? = some (BD ks n y) := by rw [hts.out, PU, hy]; rfl
   have hT := A7.mk (⟨hlt2, hym, hty⟩ : _ /\ _ /\ _);have hHC := A7.mk (HC.out y hym);clear hlt2 hym hty hy hyy fr hfr;obtain ⟨⟨t0, t1, t2, t3⟩, hty⟩ : ∃ t, BD ks n y = t := ⟨_, rfl⟩;rw [hty] at hT hHC;clear hty;dsimp only at hHC;unfold pk at hHC;go_wp2
   go_region_law
    (first
     | (refine Du (N := some 29) Try.func22 (by kernel_rfl) rfl #[.pointer (some ⟨ad y, 0, none⟩)] (by rfl) rfl rfl (by simp [Q1, Ph]) ?_; refine (hHC.out _ (SW.out.drew).below).mono ?_; rintro e_ w5 ⟨vk, rfl, hRk, hb⟩; refine ⟨_, rfl, ?_⟩; obtain ⟨Ak, ck, ek⟩ := Kd.R_slice hRk; subst ek; have S5 := (SW.out.drew).rowOf_new (B := w.heap.size) hb hRk (SW.out.drew).below.size; obtain ⟨⟨q0, q1, q2, q3⟩, q4, q5, q6, q7⟩ := box4 (S5.at_blk 2 rfl); have nw1 : g3 < w5.heap.size := Pb w5 _ q3; have q3a := (World.cell?_alloc_lt (w := w5) (.cells #[.int .i64 t0, .string t1, .string t2, .slice Ak t3.length ck] 24) ⟨g3, 3, none⟩ nw1).trans q3; replace S5 := A7.mk S5; clear hb hRk)
     | (obtain ⟨ok, okp, ho1, ho2, ho3, ho4, ho5⟩ := S5.out.rowOf_app; refine Kd.R_append_step AY (w0 := w) w.heap.size (by rfl) (.tmp 27) (.tmp 30) 22 24 (.agg #[(.int .i64 0), (.string ⟨#[]⟩), (.string ⟨#[]⟩), (.slice none 0 0)]) 64 (by rfl) Try.underlying22 El rfl (by decide) (by omega) (.slice Av i cv) (ts.take i) (⟨t0, t1, t2, t3⟩ : B8) [.int .i64 t0, .string t1, .string t2, .slice Ak t3.length ck] ok okp (by simp [Q1, Ph]) (by simp [Q1, Ph]) (E0 _ _ _ (⟨t0, t1, t2, t3⟩ : B8) ho4) ho1 ho2 ho3 S5.out.below S5.out.below.size (by have := hi.out.1; have := hnk6.out; rw [Pp]; omega) ?_; intro v6 w6 hR6 _ hg6 _; have S6 := ho5 v6 w6 _ hR6 hg6; obtain ⟨A6, c6, e6⟩ := Kd.R_slice hR6; rw [List.length_append, Pp, htl.out, Rm hi.out.1] at e6; subst e6; obtain ⟨⟨r0, r1, r2, r3⟩, r4, r5, r6, r7⟩ := box4 (S6.at_blk 1 rfl); replace S6 := A7.mk S6; clear ho1 ho2 ho3 ho4 ho5 hR6 hg6))
   all_goals (
    have S7 := A7.mk (S6.out.of (S6.out.st.set (i := 1) rfl 3 (.slice A6 (i + 1) c6)));have hwi : wrap64 ((i : Int) + 1) = ((i + 1 : Nat) : Int) := by have := hi.out.1; have := hnk6.out; unfold wrap64; omega
    have HWI := A7.mk hwi;clear hwi p0 p1 p2 p3 p4 p5 p6 p7;go_wp2
    go_roundg (nk - i)
    case rel => exact ⟨i + 1, .slice A6 (i + 1) c6, by first | (rw [HWI.out]; done) | (simp [HWI.out]; done) | (simp; rw [HWI.out]; rfl), ⟨by have := hT.out.1; omega, by have := hT.out.1; omega⟩, ⟨by rw [List.take_add_one, hT.out.2.2]; exact S7.out⟩⟩
    case measure => have := hi.out; have := hT.out.1; omega)
  ·have hik : i = nk := by have := hi.out.1; omega
   subst hik;have i1 : decide ((i : Int) < (i : Int)) = BK := decide_eq_false (by omega);obtain ⟨⟨p0, p1, p2, p3⟩, p4, p5, p6, p7⟩ := box4 (SW.out.at_blk 1 rfl);obtain ⟨⟨r0, r1, r2, r3⟩, r4, r5, r6, r7⟩ := box4 (SW.out.at_blk 2 rfl);have hn23 := A7.mk (FB SW.out (i := 1) (j := 2) rfl rfl (by decide));have hn1 := hn23.out;have hn2 := Ry hn23.out;clear hlt2 fr hfr;go_wp2;have S8 := SW.out.set4At 2 rfl (.int .i64 k.kind) (.string k.text) (.string k.trail) (.slice Av i cv);refine bodyPost_ret (results_cell_row rfl _ _ g2 24 #[.int .i64 k.kind, .string k.text, .string k.trail, .slice Av i cv] (0, 0) _ rfl (S8.at_blk 2 rfl) Try.underlying24 rfl (by kernel_rfl)) rfl ?_;obtain ⟨f8, _, hR8⟩ := S8.rowOf_at (i := 0) rfl;rw [<- htl.out, List.take_length] at hR8;exact ⟨_, rfl, by rw [htl.out] at hR8; exact Kd.R_mono hR8 (fun _ _ => trivial), S8.below⟩
theorem JO {w0 w : Pe} {Z : Nat -> Prop} {pre X : List Bj} {F : List FA} {ad : Int -> Nat} {g : List Hk} (S : Au w0 Z (GL pre ad g X) F w) (I : CQ (BR g)) (hl : ∀ h ∈ g, h.k.kids.length <= 1000000) :
  ∃ n0, ∀ n, n0 <= n -> ∀ (j : Nat) (h : Hk), g[j]? = some h -> PJ Try.prog 22 #[pk ad h.k.id] w fun e w' => ∃ v3, e = .returned (.agg #[.int .i64 (BD (BR g) n h.k.id).f0, .string (BD (BR g) n h.k.id).f1, .string (BD (BR g) n h.k.id).f2, v3]) /\ Kd.R AY 24 w' w.heap.size (fun _ => True) v3 (BD (BR g) n h.k.id).f3 /\ Below w.heap.size w w' := by
 obtain ⟨d, hd⟩ := I.rank;obtain ⟨M, hM⟩ : ∃ M, ∀ h ∈ g, d h.k.id <= M := by
  clear hd hl S I
  induction g with
  | nil => exact ⟨0, fun h hh => by cases hh⟩
  | cons x r ih =>
   obtain ⟨M, hM⟩ := ih;refine ⟨max M (d x.k.id), fun h hh => ?_⟩;rcases Qg.1 hh with e | hh
   ·rw [e]; exact Rh _ _
   ·exact Qo (hM h hh) (Rq _ _)
 have key : ∀ (m n : Nat), m <= n -> ∀ (j : Nat) (h : Hk), g[j]? = some h -> M + 1 - d h.k.id <= m -> ∀ W, Below w.heap.size w W -> Au w0 Z (GL pre ad g X) F W -> PJ Try.prog 22 #[pk ad h.k.id] W fun e w' => ∃ v3, e = .returned (.agg #[.int .i64 (BD (BR g) n h.k.id).f0, .string (BD (BR g) n h.k.id).f1, .string (BD (BR g) n h.k.id).f2, v3]) /\ Kd.R AY 24 w' W.heap.size (fun _ => True) v3 (BD (BR g) n h.k.id).f3 /\ Below W.heap.size W w' := by
  intro m
  induction m with
  | zero =>
   intro n _ j h hj hm;have := hM h (Pm hj);omega
  | succ m ih =>
   intro n hn j h hj hm W hW SW;obtain ⟨n, rfl⟩ : ∃ n', n = n' + 1 := ⟨n - 1, by omega⟩;have e : BD (BR g) (n + 1) h.k.id = ⟨h.k.kind, h.k.text, h.k.trail, h.k.kids.map (BD (BR g) n)⟩ := by
    rw [BD, E4 I.nodup (Dn hj)]
   rw [e];refine Lx h.k h.v n (BR g) (hl h (Pm hj)) (fun _ _ => trivial) (fun W' hW' => ?_) (fun y hy W' hW' => ?_)
   ·have S' := SW.keep hW';exact ⟨ME S' hj, C5 S' hj⟩
   ·have S' := SW.keep hW';obtain ⟨z, hz, e1, e2⟩ := I.kids h.k (Dn hj) y hy;obtain ⟨jz, hz', f1, f2⟩ := E5 hz;have h3 := hd z hz _ e2;have h4 := hM h (Pm hj);have := ih n (by omega) jz hz' f1 (by rw [f2]; omega) W' (hW.trans ⟨hW'.os, hW'.tape, hW'.output, hW'.size, fun k hk => hW'.block k (QU hk hW.size)⟩) S';rw [f2, e1] at this;exact this
 exact ⟨M + 1, fun n hn j h hj => key (M + 1) n hn j h hj (by omega) w (Pn _ _) S⟩
end Go.Proofs.Q
namespace Go.Proofs.Q
open Go Go.RowKit Go.Lib Go.Sort Go.Proofs.V.Words Go.Proofs.V.Last Go.Proofs.V.More Go.Proofs.V.SL
structure A8 where
 an : Option Addr
 cn : Nat
 ap : Option Addr
 cp : Nat
 az : Option Addr
 cz : Nat
 ak : Option Addr
 ck : Nat
def A8.u (q : A8) (s : PS) : Array Pd := #[.slice q.an s.N.length q.cn, .slice q.ap s.P.length q.cp, .slice q.az s.Z.length q.cz, .slice q.ak s.K.length q.ck]
def A8.F (q : A8) (s : PS) : List FA := [AF AY q.an q.cn s.N, AF (Kd.int .i64) q.ap q.cp s.P, AF (Kd.int .i64) q.az q.cz s.Z, AF (Kd.slice 3 (Kd.int .i64)) q.ak q.ck s.K]
def Ew (x : B8) (A : Option Addr) (c : Nat) : Pd := .agg #[.int .i64 x.f0, .string x.f1, .string x.f2, .slice A x.f3.length c]
theorem Ex {w0 w : Pe} {Z : Nat -> Prop} {l : List Bj} {F : List FA} (S : Au w0 Z l F w) (x : B8) {A : Option Addr} {c : Nat} (hx : BT x <= 1000000) (hr : Kd.C AY w A x.f3.length x.f3) (hc : x.f3.length <= c) :
  PJ Try.prog 27 #[Ew x A c] w fun e w' => ∃ q : A8, e = .returned (.agg (q.u (Bk x))) /\ Below w.heap.size w w' /\ Au w0 (fun k => Z k \/ (w.heap.size <= k /\ k < w'.heap.size)) l (q.F (Bk x) ++ F) w' := by
 have h : CU.f x.f0 x.f1 x.f2 x.f3 = some ((Bk x).N, (Bk x).P, (Bk x).Z, (Bk x).K) := by
  unfold CU.f;cases x;exact if_pos (by simpa only using hx)
 refine (CU.calls x.f0 x.f1 x.f2 A c x.f3 _ _ _ _ w hr hc h).mono ?_;rintro e w' ⟨v0, v1, v2, v3, rfl, h0, h1, h2, h3, hb⟩;obtain ⟨an, cn, rfl, f0⟩ := OU h0 (fun k hk => hk.1);obtain ⟨ap, cp, rfl, f1⟩ := Gc h1;obtain ⟨az, cz, rfl, f2⟩ := Gc h2;obtain ⟨ak, ck, rfl, f3⟩ := OC h3;refine ⟨⟨an, cn, ap, cp, az, cz, ak, ck⟩, rfl, hb, S.call hb ?_⟩;intro a ha;unfold A8.F at ha;simp only [Qg, List.not_mem_nil, or_false] at ha;rcases ha with rfl | rfl | rfl | rfl
 ·exact f0
 ·exact f1
 ·exact f2
 ·exact f3
def Bn (N : List B8) (P : List Int) : Nat -> List Kn
 | 0 => []
 | i + 1 =>
  let n := N.getD i D0
  if i = 0 then Bn N P i ++ [⟨(i : Int), n.f0, n.f1, n.f2, none, []⟩]
  else BN (Bn N P i) (P.getD i 0) (fun k => k.wKids (k.kids ++ [(i : Int)])) ++ [⟨(i : Int), n.f0, n.f1, n.f2, some (P.getD i 0), []⟩]
theorem CN (N : List B8) (P : List Int) : ∀ i, (Bn N P i).map (·.id) = (Rw i).map (fun j : Nat => (j : Int))
 | 0 => rfl
 | i + 1 => by
  have ih := CN N P i;rw [Bn, List.range_succ, Qs, <- ih]
  split
  ·rw [Qs]; rfl
  ·rw [Qs, C2 (f := fun k => k.wKids (k.kids ++ [(i : Int)])) (fun _ => rfl)]; rfl
theorem D1 {N : List B8} {P : List Int} {i : Nat} {y : Int} : y ∈ (Bn N P i).map (·.id) ↔ 0 <= y /\ y < (i : Int) := by
 rw [CN, PF];constructor
 ·rintro ⟨j, hj, rfl⟩;have := Qx.1 hj;omega
 ·rintro ⟨h1, h2⟩;exact ⟨y.toNat, Qx.2 (by omega), by omega⟩
theorem Ey {i : Nat} (h : i <= 1000000) : in64 (i : Int) := by unfold in64; omega
theorem E8 {N : List B8} {P : List Int} {n : Nat} (hn : n <= 1000000) (hP : ∀ j, 0 < j -> j < n -> 0 <= P.getD j 0 /\ P.getD j 0 < (j : Int)) : ∀ i, 0 < i -> i <= n -> CQ (Bn N P i)
 | 0, h, _ => absurd h (by decide)
 | 1, _, _ => by
  have e : Bn N P 1 = [⟨((0 : Nat) : Int), (N.getD 0 D0).f0, (N.getD 0 D0).f1, (N.getD 0 D0).f2, none, []⟩] := rfl;rw [e];refine ⟨by simp, ?_, ?_, ?_, ⟨fun _ => 0, ?_⟩, ?_, ?_⟩
  ·intro k hk i hi; rw [PC.1 hk] at hi; cases hi
  ·intro k hk p hp; rw [PC.1 hk] at hp; cases hp
  ·intro k hk; rw [PC.1 hk]; exact List.nodup_nil
  ·intro k hk p hp; rw [PC.1 hk] at hp; cases hp
  ·intro k hk; rw [PC.1 hk]; simp
  ·intro k hk; rw [PC.1 hk]; exact ⟨Int.le_refl _, by unfold in64; simp⟩
 | i + 2, _, h2 => by
  have ih := E8 (N := N) hn hP (i + 1) (Nat.succ_pos _) (by omega);obtain ⟨p1, p2⟩ := hP (i + 1) (by omega) (by omega);rw [Bn];rw [if_neg (by omega)];obtain ⟨pk, hpk⟩ : ∃ pk, CY (Bn N P (i + 1)) (P.getD (i + 1) 0) = some pk := by
   cases h : CY (Bn N P (i + 1)) (P.getD (i + 1) 0) with
   | some k => exact ⟨k, rfl⟩
   | none => exact absurd (D1.2 ⟨p1, p2⟩) (CJ.1 h)
  exact J7 (x := ⟨1, ((i + 1 : Nat) : Int), P.getD (i + 1) 0, 0, (N.getD (i + 1) D0).f0, (N.getD (i + 1) D0).f1, (N.getD (i + 1) D0).f2⟩) (f := fun k => k.wKids (k.kids ++ [((i + 1 : Nat) : Int)])) (fun _ => rfl) (fun _ => rfl) (fun k y => by show y ∈ k.kids ++ [_] ↔ _; simp [or_comm]) (fun k h3 h4 => by
   show (k.kids ++ [_]).Nodup
   rw [Si];exact ⟨h3, by simp, fun a ha b hb => by rw [PC.1 hb]; intro e; exact h4 (e ▸ ha)⟩) ih (CJ.2 (fun h => Int.lt_irrefl _ (D1.1 h).2)) (by show (0 : Int) <= ((i + 1 : Nat) : Int); omega) (Ey (by omega)) hpk
theorem KC {w0 w : Pe} {Z : Nat -> Prop} {pre X : List Bj} {F : List FA} {ad : Int -> Nat} {g : List Hk} {a : Nat} (id ki : Int) (tx tr : ByteArray) (S : Au w0 Z (Al a 80 #[.int .i64 id, .int .i64 ki, .string tx, .string tr, .slice none 0 0, .pointer none, .slice none 0 0] :: GL pre ad g X) F w)
  (hn : ∀ x ∈ g, x.k.id ≠ id /\ (∀ p, x.k.par = some p -> p ≠ id) /\ ∀ i ∈ x.k.kids, i ≠ id) :
  Au w0 Z (GL pre (Bz ad id a) (g ++ [BU id ki tx tr]) X) F w := by
 have S2 := S.with (S.st.row_nil 58 1)
 have e : F6 (Bz ad id a) g = F6 ad g := Mj (fun x hx => ⟨Ct _ _ (hn x hx).1, fun p hp => Ct _ _ ((hn x hx).2.1 p hp), fun i hi => Ct _ _ ((hn x hx).2.2 i hi)⟩);refine S2.perm ?_;unfold GL;rw [Kt, e];have e2 : F6 (Bz ad id a) [BU id ki tx tr] = [Al a 80 #[.int .i64 id, .int .i64 ki, .string tx, .string tr, .slice none 0 0, .pointer none, .slice none 0 0], Bw (.slice none 0 0) 58 1 0 []] := by
  show Jv _ _ ++ [] = _
  unfold Jv Dc NQ BU;simp only [DR];rfl
 rw [e2];refine (Qq _ _ _).trans ?_;have h1 : ∀ (a b : Bj) (l1 l2 l3 : List Bj), (a :: b :: (l1 ++ (l2 ++ l3))).Perm (l1 ++ ((l2 ++ [a, b]) ++ l3)) := fun a b l1 l2 l3 => by
  rw [PP];refine List.Perm.trans (l₂ := l1 ++ (a :: b :: (l2 ++ l3))) ?_ (QM _ ?_)
  ·exact (Q8 (l₁ := [a, b]) (l₂ := l1)).append_right (l2 ++ l3) |>.trans (by simp)  |> fun h => by simpa using h
  ·exact (by simpa using (Q8 (l₁ := [a, b]) (l₂ := l2)).append_right l3)
 exact h1 _ _ _ _ _
theorem D2 {P : Program} {ops : Array Oper} {o : Oper} {rest : List Oper} {a : Act} {Q : Exit -> Act -> Pe -> Prop} {w : Pe} (hg : o.guard = none) (t : TypeId) (m k x : Operand) (hop : o.op = Op.mapUpdate t m k x)
  (vm vk vx : Pd) (hm : a.eval m = vm) (hk : a.eval k = vk) (hx : a.eval x = vx) {w' : Pe} (hr : (R2 t vm vk vx).run P w = .ok () w') (h : wpList P ops Q rest (a.put o.dst (.tuple #[])) w') : wpList P ops Q (o :: rest) a w :=
 P7 hg (fun K hK => De hg t m k x hop vm vk vx hm hk hx hr (hK _ _ h))
end Go.Proofs.Q
namespace Go.Proofs.Q
open Go Go.RowKit Go.Lib Go.Sort Go.Proofs.V.Words Go.Proofs.V.SL
section
variable {w0 w w' : Pe} {Z Z' : Nat -> Prop} {F F' : List FA} {gb bm N N' : Nat} {pre X X' : List Bj} {ad : Int -> Nat} {ks : List Kn}
theorem AG.onX (H : AG w0 Z F gb bm pre X N ad ks w) (h : ∀ L, Au w0 Z (L ++ X) F w -> Au w0 Z' (L ++ X') F' w') : AG w0 Z' F' gb bm pre X' N ad ks w' := by
 obtain ⟨g, ids, m, e, hm, hi, S⟩ := H;refine ⟨g, ids, m, e, hm, hi, ?_⟩;unfold GL at S ⊢;rw [<- PP] at S ⊢;exact h _ S
theorem AG.getX {P : Prop} (H : AG w0 Z F gb bm pre X N ad ks w) (h : ∀ L, Au w0 Z (L ++ X) F w -> P) : P := by
 obtain ⟨g, ids, m, e, hm, hi, S⟩ := H;unfold GL at S;rw [<- PP] at S;exact h _ S
theorem AG.keep (H : AG w0 Z F gb bm pre X N ad ks w) (hb : Below w.heap.size w w') : AG w0 Z F gb bm pre X N ad ks w' := H.onX fun L S => S.keep hb
theorem AG.drew (H : AG w0 Z F gb bm pre X N ad ks w) : AG w0 Z F gb bm pre X N ad ks w.drew := H.keep ⟨rfl, rfl, rfl, Ps _, fun _ _ => rfl⟩
theorem AG.up (H : AG w0 Z F gb bm pre X N ad ks w) (h : N <= N') : AG w0 Z F gb bm pre X N' ad ks w := by
 obtain ⟨g, ids, m, e, hm, hi, S⟩ := H;exact ⟨g, ids, m, e, Qo hm h, hi, S⟩
theorem AG.below (H : AG w0 Z F gb bm pre X N ad ks w) : Below w0.heap.size w0 w := H.getX fun L S => S.below
theorem EP (L X : List Bj) (a : Bj) : (a :: (L ++ X)).Perm (L ++ a :: X) := (List.perm_middle (l₁ := L)).symm
theorem AG.box {g t : Nat} {cs : Array Pd} (H : AG w0 Z F gb bm pre X N ad ks w) (hg : g = w.heap.size) (hx : w'.heap[g]? = some (.cells cs t (0, 0))) (hb : Below w.heap.size w w') : AG w0 Z F gb bm pre (Al g t cs :: X) N ad ks w' :=
 H.onX fun L S => (S.box hg hx hb).perm (EP L X _)
theorem AG.add {a : Bj} (H : AG w0 Z F gb bm pre X N ad ks w) (h : ∀ L, Au w0 Z L F w -> Au w0 Z (a :: L) F w') : AG w0 Z F gb bm pre (a :: X) N ad ks w' :=
 H.onX fun L S => (h _ S).perm (EP L X _)
theorem AG.drop {a : Bj} (H : AG w0 Z F gb bm pre (a :: X) N ad ks w) : AG w0 Z F gb bm pre X N ad ks w :=
 H.onX fun L S => (S.perm (EP L X a).symm).drop
theorem AG.permX (H : AG w0 Z F gb bm pre X N ad ks w) (h : X.Perm X') : AG w0 Z F gb bm pre X' N ad ks w := H.onX fun L S => S.perm (QM L h)
theorem AG.blkAt {k g t : Nat} {cs : Array Pd} (H : AG w0 Z F gb bm pre X N ad ks w) (h : X[k]? = some (Al g t cs)) : w.heap[g]? = some (.cells cs t (0, 0)) :=
 H.getX fun L S => S.at_blk (L.length + k) (by rw [PY (by omega), Q2]; exact h)
theorem AG.setAt {k g t : Nat} {cs : Array Pd} (H : AG w0 Z F gb bm pre X N ad ks w) (h : X[k]? = some (Al g t cs)) (o : Nat) (u : Pd) : AG w0 Z F gb bm pre (X.set k (Al g t (cs.setIfInBounds o u))) N ad ks (w.setCell ⟨g, o, none⟩ u) :=
 H.onX fun L S => by
  have h2 : (L ++ X)[L.length + k]? = some (Al g t cs) := by rw [PY (by omega), Q2]; exact h
  have := S.of (S.st.set h2 o u)
  rwa [QN _ _ (by omega), Q2] at this
theorem AG.facts (H : AG w0 Z F gb bm pre X N ad ks w) {P : Prop} (h : ∀ L, Au w0 Z L F w -> P) : P := H.getX fun L S => h _ S
theorem AG.gbCell (H : AG w0 Z F gb bm pre X N ad ks w) : w.cell? ⟨gb, 0, none⟩ = some (.map (some bm)) := by
 obtain ⟨g, ids, m, e, hm, hi, S⟩ := H;exact (Aa (S.at_blk 0 rfl) 0).trans rfl
theorem AG.at_ (H : AG w0 Z F gb bm pre X N ad ks w) {x : Int} (hx : in64 x) (h : x ∈ ks.map (·.id)) : (SM 59 (.map (some bm)) (.int .i64 x) BK).run Try.prog w = .ok (.pointer (some ⟨ad x, 0, none⟩)) w := by
 obtain ⟨g, ids, m, e, hm, hi, S⟩ := H;have h1 := Ml S 1 rfl hx;rw [if_pos ((hi x).2 h)] at h1;exact h1
theorem AG.placeC (H : AG w0 Z F gb bm pre X N ad ks w) (I : CQ ks) {k : Kn} (hk : k ∈ ks) (i : Int) : PJ Try.prog 29 #[pk ad k.id, .int .i64 i] w fun e w' => e = .returned (.int .i64 (AO k.kids i)) /\ Below w.heap.size w w' := by
 obtain ⟨g, ids, m, rfl, hm, hi, S⟩ := H;obtain ⟨j, h, e1, rfl⟩ := E5 hk;exact Bq ad h.k h.v i _ (AR S e1) (C5 S e1) (fun y hy => by
  obtain ⟨z, hz, f1, _⟩ := I.kids h.k hk y hy;obtain ⟨jz, hz', g1, g2⟩ := E5 hz;rw [<- f1, <- g2, Aa (AR S g1) 0]; rfl)
theorem AG.nodeC (H : AG w0 Z F gb bm pre X N ad ks w) (I : CQ ks) (hl : ks.length <= 1000000) : ∃ n0, ∀ n, n0 <= n -> ∀ k ∈ ks, PJ Try.prog 22 #[pk ad k.id] w fun e w' => ∃ v3, e = .returned (.agg #[.int .i64 (BD ks n k.id).f0, .string (BD ks n k.id).f1, .string (BD ks n k.id).f2, v3]) /\ Kd.R AY 24 w' w.heap.size (fun _ => True) v3 (BD ks n k.id).f3 /\ Below w.heap.size w w' := by
 obtain ⟨g, ids, m, rfl, hm, hi, S⟩ := H;obtain ⟨n0, h0⟩ := JO S I (fun h hh => Qo (I.kids_len (PF.2 ⟨h, hh, rfl⟩)) hl);refine ⟨n0, fun n hn k hk => ?_⟩;obtain ⟨j, h, e1, rfl⟩ := E5 hk;exact h0 n hn j h e1
end
theorem Ip {ks : List Kn} (I : CQ ks) : ∃ n0, ∀ n m, n0 <= n -> n0 <= m -> ∀ k ∈ ks, BD ks n k.id = BD ks m k.id := by
 obtain ⟨d, hd⟩ := I.rank;obtain ⟨M, hM⟩ : ∃ M, ∀ h ∈ ks, d h.id <= M := by
  clear hd I
  induction ks with
  | nil => exact ⟨0, fun h hh => by cases hh⟩
  | cons x r ih =>
   obtain ⟨M, hM⟩ := ih;refine ⟨max M (d x.id), fun h hh => ?_⟩;rcases Qg.1 hh with e | hh
   ·rw [e]; exact Rh _ _
   ·exact Qo (hM h hh) (Rq _ _)
 have key : ∀ n m k, k ∈ ks -> M + 1 - d k.id <= n -> M + 1 - d k.id <= m -> BD ks n k.id = BD ks m k.id := by
  intro n
  induction n with
  | zero => intro m k hk h1 _; have := hM k hk; omega
  | succ n ih =>
   intro m k hk h1 h2;obtain ⟨m, rfl⟩ : ∃ m', m = m' + 1 := ⟨m - 1, by have := hM k hk; omega⟩;rw [BD, BD, E4 I.nodup hk];dsimp only
   congr 1
   apply QJ;intro y hy;obtain ⟨z, hz, e1, e2⟩ := I.kids k hk y hy;have h3 := hd z hz _ e2;have h4 := hM k hk;rw [<- e1];exact ih m z hz (by omega) (by omega)
 exact ⟨M + 1, fun n m h1 h2 k hk => key n m k hk (by omega) (by omega)⟩
noncomputable def Dq (ks : List Kn) : Nat := Classical.epsilon fun n0 => ∀ n m, n0 <= n -> n0 <= m -> ∀ k ∈ ks, BD ks n k.id = BD ks m k.id
theorem Fq {ks : List Kn} (I : CQ ks) : ∀ n m, Dq ks <= n -> Dq ks <= m -> ∀ k ∈ ks, BD ks n k.id = BD ks m k.id := Classical.epsilon_spec (Ip I)
noncomputable def BH (ks : List Kn) (i : Int) : B8 := BD ks (Dq ks) i
theorem EQ {ks : List Kn} (I : CQ ks) {k : Kn} (hk : k ∈ ks) : BH ks k.id = ⟨k.kind, k.text, k.trail, k.kids.map (BH ks)⟩ := by
 have h1 := Fq I (Dq ks) (Dq ks + 1) (Ps _) (Nat.le_succ _) k hk;unfold BH;rw [h1, BD, E4 I.nodup hk]
theorem AG.nodeT {w0 w : Pe} {Z : Nat -> Prop} {F : List FA} {gb bm N : Nat} {pre X : List Bj} {ad : Int -> Nat} {ks : List Kn} (H : AG w0 Z F gb bm pre X N ad ks w) (I : CQ ks) (hl : ks.length <= 1000000) {k : Kn} (hk : k ∈ ks) : PJ Try.prog 22 #[pk ad k.id] w fun e w' => ∃ v3, e = .returned (.agg #[.int .i64 (BH ks k.id).f0, .string (BH ks k.id).f1, .string (BH ks k.id).f2, v3]) /\ Kd.R AY 24 w' w.heap.size (fun _ => True) v3 (BH ks k.id).f3 /\ Below w.heap.size w w' := by
 obtain ⟨n0, h0⟩ := H.nodeC I hl;have h1 := h0 (max n0 (Dq ks)) (Rq _ _) k hk;rw [Fq I (max n0 (Dq ks)) (Dq ks) (Rh _ _) (Ps _) k hk] at h1;exact h1
theorem AG.set4X {w0 w : Pe} {Z : Nat -> Prop} {F : List FA} {gb bm N g t : Nat} {pre X : List Bj} {ad : Int -> Nat} {ks : List Kn} {c0 c1 c2 c3 : Pd} (H : AG w0 Z F gb bm pre X N ad ks w) (k : Nat) (hk : X[k]? = some (Al g t #[c0, c1, c2, c3])) (u0 u1 u2 u3 : Pd) :
  AG w0 Z F gb bm pre (X.set k (Al g t #[u0, u1, u2, u3])) N ad ks ((((w.setCell ⟨g, 0, none⟩ u0).setCell ⟨g, 1, none⟩ u1).setCell ⟨g, 2, none⟩ u2).setCell ⟨g, 3, none⟩ u3) := by
 have hl := (Pf.1 hk).1;have H1 := H.setAt hk 0 u0;have H2 := H1.setAt (k := k) (Q0 hl) 1 u1;have H3 := H2.setAt (k := k) (Q0 (by simpa using hl)) 2 u2;have H4 := H3.setAt (k := k) (Q0 (by simpa using hl)) 3 u3;simp only [List.set_set] at H4;exact H4
theorem AG.set7 {w0 w : Pe} {Z : Nat -> Prop} {F : List FA} {gb bm N g t : Nat} {pre X : List Bj} {ad : Int -> Nat} {ks : List Kn} {c0 c1 c2 c3 c4 c5 c6 : Pd} (H : AG w0 Z F gb bm pre (Al g t #[c0, c1, c2, c3, c4, c5, c6] :: X) N ad ks w) (u0 u1 u2 u3 u4 u5 u6 : Pd) :
  AG w0 Z F gb bm pre (Al g t #[u0, u1, u2, u3, u4, u5, u6] :: X) N ad ks (((((((w.setCell ⟨g, 0, none⟩ u0).setCell ⟨g, 1, none⟩ u1).setCell ⟨g, 2, none⟩ u2).setCell ⟨g, 3, none⟩ u3).setCell ⟨g, 4, none⟩ u4).setCell ⟨g, 5, none⟩ u5).setCell ⟨g, 6, none⟩ u6) :=
 by
 have H1 : AG w0 Z F gb bm pre (Al g t #[u0, c1, c2, c3, c4, c5, c6] :: X) N ad ks (w.setCell ⟨g, 0, none⟩ u0) := H.setAt (k := 0) rfl 0 u0;have H2 : AG w0 Z F gb bm pre (Al g t #[u0, u1, c2, c3, c4, c5, c6] :: X) N ad ks ((w.setCell ⟨g, 0, none⟩ u0).setCell ⟨g, 1, none⟩ u1) := H1.setAt (k := 0) rfl 1 u1;have H3 : AG w0 Z F gb bm pre (Al g t #[u0, u1, u2, c3, c4, c5, c6] :: X) N ad ks (((w.setCell ⟨g, 0, none⟩ u0).setCell ⟨g, 1, none⟩ u1).setCell ⟨g, 2, none⟩ u2) := H2.setAt (k := 0) rfl 2 u2;have H4 : AG w0 Z F gb bm pre (Al g t #[u0, u1, u2, u3, c4, c5, c6] :: X) N ad ks ((((w.setCell ⟨g, 0, none⟩ u0).setCell ⟨g, 1, none⟩ u1).setCell ⟨g, 2, none⟩ u2).setCell ⟨g, 3, none⟩ u3) := H3.setAt (k := 0) rfl 3 u3;have H5 : AG w0 Z F gb bm pre (Al g t #[u0, u1, u2, u3, u4, c5, c6] :: X) N ad ks (((((w.setCell ⟨g, 0, none⟩ u0).setCell ⟨g, 1, none⟩ u1).setCell ⟨g, 2, none⟩ u2).setCell ⟨g, 3, none⟩ u3).setCell ⟨g, 4, none⟩ u4) := H4.setAt (k := 0) rfl 4 u4;have H6 : AG w0 Z F gb bm pre (Al g t #[u0, u1, u2, u3, u4, u5, c6] :: X) N ad ks ((((((w.setCell ⟨g, 0, none⟩ u0).setCell ⟨g, 1, none⟩ u1).setCell ⟨g, 2, none⟩ u2).setCell ⟨g, 3, none⟩ u3).setCell ⟨g, 4, none⟩ u4).setCell ⟨g, 5, none⟩ u5) := H5.setAt (k := 0) rfl 5 u5;have H7 : AG w0 Z F gb bm pre (Al g t #[u0, u1, u2, u3, u4, u5, u6] :: X) N ad ks (((((((w.setCell ⟨g, 0, none⟩ u0).setCell ⟨g, 1, none⟩ u1).setCell ⟨g, 2, none⟩ u2).setCell ⟨g, 3, none⟩ u3).setCell ⟨g, 4, none⟩ u4).setCell ⟨g, 5, none⟩ u5).setCell ⟨g, 6, none⟩ u6) := H6.setAt (k := 0) rfl 6 u6;exact H7
theorem E9 {w : Pe} {g t : Nat} {c0 c1 c2 c3 c4 c5 c6 : Pd} (h : w.heap[g]? = some (.cells #[c0, c1, c2, c3, c4, c5, c6] t (0, 0))) :
  (w.cell? ⟨g, 0, none⟩ = some c0 /\ w.cell? ⟨g, 1, none⟩ = some c1 /\ w.cell? ⟨g, 2, none⟩ = some c2 /\ w.cell? ⟨g, 3, none⟩ = some c3 /\ w.cell? ⟨g, 4, none⟩ = some c4 /\ w.cell? ⟨g, 5, none⟩ = some c5 /\ w.cell? ⟨g, 6, none⟩ = some c6) /\
  w.frozen? ⟨g, 0, none⟩ = BK /\ w.frozen? ⟨g, 1, none⟩ = BK /\ w.frozen? ⟨g, 2, none⟩ = BK /\ w.frozen? ⟨g, 3, none⟩ = BK /\ w.frozen? ⟨g, 4, none⟩ = BK /\ w.frozen? ⟨g, 5, none⟩ = BK /\ w.frozen? ⟨g, 6, none⟩ = BK :=
 ⟨⟨(Aa h 0).trans rfl, (Aa h 1).trans rfl, (Aa h 2).trans rfl, (Aa h 3).trans rfl, (Aa h 4).trans rfl, (Aa h 5).trans rfl, (Aa h 6).trans rfl⟩, Ad h 0, Ad h 1, Ad h 2, Ad h 3, Ad h 4, Ad h 5, Ad h 6⟩
def DM (x : Dm) : Ed := ⟨x.f0, x.f1, x.f2, x.f3, x.f4, x.f5, x.f6⟩
noncomputable def BV : List Kn -> List Dm -> Nat -> (Nat ⊕ List Kn)
 | ks, [], _ => .inr ks
 | ks, x :: r, i => match Ce ks (DM x) with
  | none => .inl i
  | some ks' => BV ks' r (i + 1)
end Go.Proofs.Q
namespace Go.Proofs.Q
open Go Go.RowKit Go.Proofs.V.Words Go.Proofs.V.SL Go.Maps
def bE : Pd -> Option (DataW Unit × List MemPlace)
 | .bool b => some (.lit (.bool b), [])
 | _ => none
theorem MF {v : Pd} {ps : List MemPlace} {b : Bool} (h : bE v = some (.lit (.bool b), ps)) : v = .bool b := by
 unfold bE at h
 split at h
 ·injection h with h; injection h with h _; injection h with h; injection h with h; rw [h]
 ·cases h
structure Iq (D : DataW Unit) (K : Int -> Bool) : Prop where
 tidy : Tidy D
 has : ∀ i, Maps.has D (LI i) = K i
 at_ : ∀ i, K i = true -> D.atKey (LI i) (.lit (.bool BK)) = .lit (.bool true)
theorem Iq.nil : Iq (.map []) (fun _ => BK) := ⟨tidy_empty, fun i => by simp [Maps.has], fun i h => by cases h⟩
theorem Iq.put {D : DataW Unit} {K : Int -> Bool} (h : Iq D K) (x : Int) : Iq (D.put (LI x) (.lit (.bool true))) (fun i => K i || decide (i = x)) := by
 refine ⟨h.tidy.put (Et x) _, fun i => ?_, fun i hi => ?_⟩
 ·by_cases hix : i = x
  ·subst hix; rw [has_put_same h.tidy.isMap (Et i)]; simp
  ·rw [has_put_other (fun e => hix (by injection e)), h.has]; simp [hix]
 ·by_cases hix : i = x
  ·subst hix; rw [atKey_put_same h.tidy.isMap (Et i)]
  ·rw [atKey_put_other (fun e => hix (by injection e))];exact h.at_ i (by simpa [hix] using hi)
def Df (b m : Nat) (K : Int -> Bool) : Bj :=
  ⟨fun w f => (∀ j, f j ↔ j = b) /\ ∃ D, w.ownsMap Try.prog 3 bE b m D /\ Iq D K,
   fun h hs => ⟨h.1, by obtain ⟨D, ⟨es, clock, hb, r⟩, q⟩ := h.2; exact ⟨D, ⟨es, clock, (hs _ ((h.1 _).2 rfl)).trans hb, r⟩, q⟩⟩,
   fun h j hj => by rw [(h.1 j).1 hj]; obtain ⟨D, hm, _⟩ := h.2; exact hm.lt⟩
def NS (b r m : Nat) (K left : Int -> Bool) (cnt : Nat) : Bj :=
  ⟨fun w f => (∀ j, f j ↔ (j = b \/ j = r)) /\ ∃ D lf, w.ranges Try.prog 3 bE b r m D lf cnt /\ Iq D K /\ ∀ i, lf (LI i) = left i,
   fun h hs => ⟨h.1, by obtain ⟨D, lf, ⟨es, clock, since, seen, c0, hb, F, hm, hD, hr, rest⟩, q⟩ := h.2; exact ⟨D, lf, ⟨es, clock, since, seen, c0, (hs _ ((h.1 _).2 (.inl rfl))).trans hb, F, hm, hD, (hs _ ((h.1 _).2 (.inr rfl))).trans hr, rest⟩, q⟩⟩,
   fun h j hj => by obtain ⟨D, lf, hm, _⟩ := h.2; rcases (h.1 j).1 hj with e | e; rw [e]; exact hm.owns.lt; rw [e]; exact hm.lt⟩
section
variable {w0 w w' : Pe} {Z : Nat -> Prop} {L : List Bj} {F : List FA} {i b m r cnt : Nat} {K left : Int -> Bool}
theorem JP (S : Au w0 Z L F w) (hi : L[i]? = some (Df b m K)) : ∃ D, w.ownsMap Try.prog 3 bE b m D /\ Iq D K := by
 obtain ⟨f, hf, _⟩ := S.st.hs;obtain ⟨fa, ha, _⟩ := hf.at hi;exact ha.2
theorem Of (w : Pe) : (zeroValue 4).run Try.prog w = .ok (.bool BK) w := by
 simp
theorem KD (S : Au w0 Z L F w) (i : Nat) (hi : L[i]? = some (Df b m K)) {x : Int} (hx : in64 x) : (SM 74 (.map (some b)) (.int .i64 x) BK).run Try.prog w = .ok (.bool (K x)) w := by
 obtain ⟨D, hm, hN⟩ := JP S hi;obtain ⟨v, ps, hr, hv⟩ := hm.lookup Es Try.underlying74 (Of w) (zd := .lit (.bool BK)) (zp := []) rfl (KY hx);rw [hr];cases h : K x with
 | true => rw [hN.at_ x h] at hv; rw [MF hv]
 | false =>
  have hn : Maps.has D (LI x) = BK := by rw [hN.has, h]
  rw [atKey_of_not_has hn] at hv;rw [MF hv]
theorem Ir (S : Au w0 Z L F w) (i : Nat) (hi : L[i]? = some (Df b m K)) {x : Int} (hx : in64 x) (hm2 : m < R7) :
  ∃ w', (R2 74 (.map (some b)) (.int .i64 x) (.bool true)).run Try.prog w = .ok () w' /\ Au w0 Z (L.set i (Df b (m + 1) (fun j => K j || decide (j = x)))) F w' /\ w.mapTurned w' b := by
 obtain ⟨D, hm, hN⟩ := JP S hi;obtain ⟨w', hr, ho, ht⟩ := hm.store Es Try.underlying74 hm2 (KY hx) (val := .bool true) rfl;exact ⟨w', hr, S.of (S.st.upd hi (fun f hf => ⟨f, ⟨hf.1, _, ho, hN.put x⟩, fun j hj => .inl hj, (IJ.of_grown ht.grown).mono (fun j hj => (hf.1 j).2 (by injection hj with hj; exact hj.symm))⟩)), ht⟩
theorem Gk (S : Au w0 Z L F w) : Au w0 Z (Df w.heap.size 0 (fun _ => BK) :: L) F (w.alloc (.map #[] 0)) :=
 S.more (a := Df w.heap.size 0 (fun _ => BK)) (f := fun j => j = w.heap.size) (Ah (Pn _ _) _) ⟨fun _ => RY, _, World.ownsMap_made w Try.prog 3 bE, Iq.nil⟩ (fun j hj => Nat.le_of_eq hj.symm)
theorem Ly (S : Au w0 Z L F w) (i : Nat) (hi : L[i]? = some (Df b m K)) :
  ∃ w' cnt, (Instr.range 74 (.map (some b))).run Try.prog w = .ok (.pointer (some ⟨w.heap.size, 0, none⟩)) w' /\ Au w0 Z (L.set i (NS b w.heap.size m K K cnt)) F w' /\ w.heap.size < w'.heap.size /\ cnt <= m := by
 obtain ⟨D, hm, hN⟩ := JP S hi;have hcm : Maps.size D <= m := by
  obtain ⟨es, clock, hb, F, hs, rfl⟩ := hm;simpa [Maps.size, length_sorted] using hs
 obtain ⟨w', hr, hrg, hg, hsz⟩ := hm.range Es Try.underlying74;refine ⟨w', Maps.size D, hr, S.of (S.st.upd hi (fun f hf => ⟨fun j => j = b \/ j = w.heap.size, ⟨fun j => RY, D, _, hrg, hN, hN.has⟩, fun j hj => ?_, (IJ.of_grown hg).mono (fun j hj => by cases hj)⟩)), by omega, hcm⟩;rcases hj with hj | hj
 ·exact .inl ((hf.1 j).2 hj)
 ·exact .inr (by omega)
theorem MG (S : Au w0 Z L F w) (i : Nat) (hi : L[i]? = some (NS b r m K left cnt)) (ty : TypeId) :
  ((∀ x, left x = BK) /\ (Instr.next (.pointer (some ⟨r, 0, none⟩)) BK ty).run Try.prog w = .ok (.tuple #[.bool BK]) w) \/
  ∃ x w' cnt', left x = true /\ in64 x /\ (Instr.next (.pointer (some ⟨r, 0, none⟩)) BK ty).run Try.prog w = .ok (.tuple #[.bool true, .int .i64 x, .bool true]) w' /\ (Instr.entry (.pointer (some ⟨r, 0, none⟩))).run Try.prog w' = .ok (.tuple #[.int .i64 x, .bool true]) w' /\
   cnt' < cnt /\ Au w0 Z (L.set i (NS b r m K (fun j => left j && !decide (j = x)) cnt')) F w' /\ w'.heap.size = w.heap.size := by
 obtain ⟨f, hf, _⟩ := S.st.hs;obtain ⟨fa, ha, _⟩ := hf.at hi;obtain ⟨h1, D, lf, hrg, hN, hlf⟩ := ha;rcases hrg.next Es ty with ⟨_, hl, hr⟩ | ⟨key, v, kl, y, w', cnt', hkey, hlk, hv, hat, hrun, hrg', hlt, hgr, hsz, hen⟩
 ·exact .inl ⟨fun x => by rw [<- hlf, hl], hr⟩
 ·obtain ⟨x, rfl, rfl, hwx⟩ := Maps.keyOf_int_inv Try.underlying3 hkey;have hx : left x = true := by rw [<- hlf]; exact hlk
  have h64 : in64 x := by
   simp [Lit.wf, IntKind.min, IntKind.max, IntKind.signed, IntKind.bits] at hwx;unfold in64; omega
  have hK : K x = true := by
   rw [<- hN.has];obtain ⟨es, clock, since, seen, c0, hb, Ft, hs, hD, hr, hold, hc, hl1, hl2, _⟩ := hrg;obtain ⟨z, hz, he⟩ := hl2 _ hlk;rw [hD];exact List.any_eq_true.2 ⟨Go.WideElems.rg Try.prog 3 bE z, mem_sorted.2 (PF.2 ⟨z, hz, rfl⟩), by rw [he]; exact WideAt.sameKey_self (Et x)⟩
  have hv2 : v = .bool true := by
   have h3 := hat (.lit (.bool BK));rw [hN.at_ x hK] at h3;obtain ⟨y1, y2⟩ := y;dsimp only at h3;subst h3;exact MF hv
  subst hv2;refine .inr ⟨x, w', cnt', hx, h64, hrun, hen, hlt, S.of (S.st.upd hi (fun f hf => ⟨f, ⟨hf.1, D, _, hrg', hN, fun j => ?_⟩, fun j hj => .inl hj, (IJ.of_grown hgr).mono (fun j hj => (hf.1 j).2 (.inr (by injection hj with hj; exact hj.symm)))⟩)), hsz⟩
  show (lf (LI j) && !(LI j).sameKey (LI x)) = _
  rw [hlf]
  congr 2
  by_cases e : j = x
  ·subst e; rw [decide_eq_true rfl]; exact WideAt.sameKey_self (Et j)
  ·rw [decide_eq_false e];cases h : (LI j).sameKey (LI x) with
   | false => rfl
   | true => exact absurd (by have := WideAt.sameKey_eq h; injection this) e
end
end Go.Proofs.Q
namespace Go.Proofs.Q
open Go Go.RowKit Go.Proofs.V.Words Go.Proofs.V.SL
theorem Nu (W : Pe) (u v : Int) : (Op.equalIn 10000 50 (.agg #[.int .i64 u, .int .i64 v]) (.agg #[.int .i64 0, .int .i64 0])).run Try.prog W = .ok (decide (u = 0 /\ v = 0)) W := by
 obtain ⟨i0, hi, hzz⟩ := Option.map_eq_some_iff.1 Ca;have h := run_equalIn_array (P := Try.prog) W 9999 #[.int .i64 u, .int .i64 v] #[.int .i64 0, .int .i64 0] Try.underlying50 hi;rw [show (10000 : Nat) = 9999 + 1 from rfl, h];have hc : Try.prog.cellsOf 3 = 1 := by kernel_rfl
 have hp : ∀ (xs : Array Pd) (j : Nat) (x : Int), xs[j]? = some (.int .i64 x) -> (part 3 xs (j * 1)).run Try.prog W = .ok (.int .i64 x) W := fun xs j x hx => by
  have hu := Try.underlying3;simp [part, run_underlying hu, hx]
 have he : ∀ x : Int, (Op.equalIn 9999 3 (.int .i64 x) (.int .i64 0)).run Try.prog W = .ok (x == 0) W := fun x => run_equalIn_int W 9998 3 .i64 .i64 x 0 Try.underlying3
 rw [hc];have p0 : (part 3 #[.int .i64 u, .int .i64 v] (0 * 1)).run Try.prog W = .ok (.int .i64 u) W := hp _ 0 u rfl;have p1 : (part 3 #[.int .i64 u, .int .i64 v] (1 * 1)).run Try.prog W = .ok (.int .i64 v) W := hp _ 1 v rfl;have q0 : (part 3 #[.int .i64 0, .int .i64 0] (0 * 1)).run Try.prog W = .ok (.int .i64 0) W := hp _ 0 0 rfl;have q1 : (part 3 #[.int .i64 0, .int .i64 0] (1 * 1)).run Try.prog W = .ok (.int .i64 0) W := hp _ 1 0 rfl;rw [show Rw 2 = [0, 1] from rfl];by_cases h1 : u = 0
 ·have e1 : (u == 0) = true := by simp [h1]
  by_cases h2 : v = 0
  ·have e2 : (v == 0) = true := by simp [h2]
   simp only [Op.eqItems, RW, p0, p1, q0, q1, he, Rd, e1, e2, Bool.not_true, R5, if_false, RX];simp [h1, h2]
  ·have e2 : (v == 0) = BK := by simp [h2]
   simp only [Op.eqItems, RW, p0, p1, q0, q1, he, Rd, e1, e2, Bool.not_true, R5, if_false, SE, if_true, RX];simp [h2]
 ·have e1 : (u == 0) = BK := by simp [h1]
  simp only [Op.eqItems, RW, p0, q0, he, Rd, e1, SE, if_true, RX];simp [h1]
end Go.Proofs.Q
