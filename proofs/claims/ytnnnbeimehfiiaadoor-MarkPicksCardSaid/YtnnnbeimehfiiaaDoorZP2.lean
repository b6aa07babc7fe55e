/- The texts of this claim that lie below its row, in their order: KLabel KPg KPgM KWr0 KWr KRead KKn0 KKn KAs KMovW KAl. -/
import Derived.Lib.ConvBytes
import Derived.Laws.BytesArg
import Derived.Test.YtnnnbeimehfiiaaDoorZP1
/-! mark.Label, walked. -/
set_option linter.unusedVariables false
set_option linter.unusedSimpArgs false
namespace Go.Proofs.YtnnnbeimehfiiaaDoor.Q
open Go Go.RowKit Go.Proofs.YtnnnbeimehfiiaaDoorW.PrintWords Go.Proofs.YtnnnbeimehfiiaaDoorW.PrintLast Go.Proofs.YtnnnbeimehfiiaaDoorW.PrintMore Go.Proofs.YtnnnbeimehfiiaaDoorW.SL
attribute [local go_sem] max2_int min2_int max_two min_two max_three min_three max_four min_four
def fixC (c : UInt8) : UInt8 := if c < 32 ∨ c > 126 then 63 else c
def labB (s : ByteArray) : ByteArray := ⟨(Lib.trimRightB ((s.data.toList.take 200).map fixC) 32).toArray⟩
def bnum (c : UInt8) : Int := (c.toNat : Int)
/-- The row that is being changed. -/
def LabI (w : World) (g m : Nat) (t : List UInt8) (i : Nat) (W : World) : Prop :=
  ∃ cur : Array Value, W.heap[g]? = some (.cells cur 5 (m, m + 1)) ∧ cur.size = m ∧ (∀ j c, t[j]? = some c → cur[j]? = some (Value.int .u8 (bnum (if j < i then fixC c else c)))) ∧ Below w.heap.size w W
theorem LabI.cell {w : World} {g m : Nat} {t : List UInt8} {i : Nat} {W : World} (h : LabI w g m t i W) {c : UInt8} (hc : t[i]? = some c) : W.cell? ⟨g, i, none⟩ = some (.int .u8 (bnum c)) := by
  obtain ⟨cur, h1, h2, h3, _⟩ := h
  have := h3 i c hc
  rw [if_neg (Nat.lt_irrefl _)] at this
  unfold World.cell?
  rw [h1]
  exact this
theorem LabI.frozen {w : World} {g m : Nat} {t : List UInt8} {i : Nat} {W : World} (h : LabI w g m t i W) {c : UInt8} (hc : t[i]? = some c) : W.frozen? ⟨g, i, none⟩ = false := by
  obtain ⟨cur, h1, h2, h3, _⟩ := h
  have hlt : i < m := by rw [← h2]; exact (Array.getElem?_eq_some_iff.1 (h3 i c hc)).1
  simp [World.frozen?, h1]
  omega
theorem LabI.keep {w : World} {g m : Nat} {t : List UInt8} {i : Nat} {W : World} (h : LabI w g m t i W) {c : UInt8} (hc : t[i]? = some c) (hf : fixC c = c) : LabI w g m t (i + 1) W := by
  obtain ⟨cur, h1, h2, h3, h4⟩ := h
  refine ⟨cur, h1, h2, fun j d hd => ?_, h4⟩
  rw [h3 j d hd]
  by_cases hj : j < i
  · rw [if_pos hj, if_pos (by omega)]
  · by_cases hj2 : j = i
    · subst hj2; rw [hc] at hd; injection hd with hd; subst hd; rw [if_neg hj, if_pos (by omega), hf]
    · rw [if_neg hj, if_neg (by omega)]
theorem LabI.set {w : World} {g m : Nat} {t : List UInt8} {i : Nat} {W : World} (h : LabI w g m t i W) {c : UInt8} (hc : t[i]? = some c) (hf : fixC c = 63) (hg : w.heap.size ≤ g) : LabI w g m t (i + 1) (W.setCell ⟨g, i, none⟩ (.int .u8 63)) := by
  obtain ⟨cur, h1, h2, h3, h4⟩ := h
  have hlt : i < cur.size := (Array.getElem?_eq_some_iff.1 (h3 i c hc)).1
  refine ⟨cur.setIfInBounds i (.int .u8 63), ?_, by simpa using h2, fun j d hd => ?_, h4.setCell (p := ⟨g, i, none⟩) hg _⟩
  · exact Lib.heap_setCell_same (i := i) h1 _
  · by_cases hj : j = i
    · subst hj
      rw [hc] at hd; injection hd with hd; subst hd
      rw [if_pos (by omega), hf]
      simp [hlt]; rfl
    · rw [Array.getElem?_setIfInBounds_ne (by omega), h3 j d hd]
      by_cases hj2 : j < i
      · rw [if_pos hj2, if_pos (by omega)]
      · rw [if_neg hj2, if_neg (by omega)]
theorem bytesWorld_LabI (w : World) (s : ByteArray) : LabI w w.heap.size (Lib.bytesCells w 5 s).size s.data.toList 0 (Lib.bytesWorld w 5 s) := by
  refine ⟨_, Lib.bytesWorld_at_new w 5 s, rfl, fun j c hc => ?_, ⟨rfl, rfl, rfl, by rw [Lib.bytesWorld_size]; omega, fun k hk => Lib.bytesWorld_at_old w 5 s k hk⟩⟩
  have hlt : j < s.data.size := by have := (List.getElem?_eq_some_iff.1 hc).1; simpa using this
  rw [if_neg (by omega)]
  have : s.data[j]? = some c := by simpa using hc
  rw [Lib.bytesCells, Array.getElem?_append_left (by simpa using hlt), Array.getElem?_map, this]
  rfl
theorem LabI.text {w : World} {g m : Nat} {t : List UInt8} {W : World} (h : LabI w g m t t.length W) (i : Nat) (hi : i < t.length) : W.cell? ⟨g, 0 + i, none⟩ = some (.int .u8 (((t.map fixC).map bnum).getD i 0)) := by
  obtain ⟨cur, h1, h2, h3, _⟩ := h
  have := h3 i t[i] (List.getElem?_eq_getElem hi)
  rw [if_pos hi] at this
  unfold World.cell?
  rw [h1, Nat.zero_add]
  refine this.trans ?_
  simp [List.getD_eq_getElem?_getD, List.getElem?_eq_getElem hi]
theorem strOf_fix (t : List UInt8) : strOfNums (t.map bnum) = ⟨t.toArray⟩ := by
  unfold strOfNums
  congr 1
  rw [List.map_map]
  congr 1
  refine (List.map_congr_left fun c _ => ?_).trans (List.map_id t)
  simp [bnum]
theorem fix_lo {c : UInt8} (h : bnum c < 32) : fixC c = 63 := by
  unfold fixC bnum at *
  rw [if_pos (.inl (UInt8.lt_iff_toNat_lt.2 (by have : (32 : UInt8).toNat = 32 := rfl; omega)))]
theorem fix_hi {c : UInt8} (h : bnum c > 126) : fixC c = 63 := by
  unfold fixC bnum at *
  rw [if_pos (.inr (UInt8.lt_iff_toNat_lt.2 (by have : (126 : UInt8).toNat = 126 := rfl; omega)))]
theorem fix_mid {c : UInt8} (h : ¬ bnum c < 32) (h2 : ¬ bnum c > 126) : fixC c = c := by
  unfold fixC bnum at *
  rw [if_neg]
  rintro (h3 | h3)
  · have := UInt8.lt_iff_toNat_lt.1 h3; have : (32 : UInt8).toNat = 32 := rfl; omega
  · have := UInt8.lt_iff_toNat_lt.1 h3; have : (126 : UInt8).toNat = 126 := rfl; omega
set_option maxHeartbeats 16000000 in
set_option maxRecDepth 100000 in
theorem Label_calls (s : ByteArray) (w : World) (hs : s.size ≤ 9223372036854775807) :
    Calls Tryd.prog 14 #[.string s] w fun e w' => e = .returned (.string (labB s)) ∧ Below w.heap.size w w' := by
  have hcv : ∀ (W : World) (x : ByteArray), (convert 9 22 (.string x)).run Tryd.prog W = .ok (.slice (some ⟨W.heap.size, 0, none⟩) x.size (grownCap W x.size 0 5)) (Lib.bytesWorld W 5 x) := fun W x => Lib.run_convert_string_bytes W 9 22 5 x Tryd.underlying9 Tryd.underlying22 Tryd.underlying5
  have HS := Aside0.mk hs
  clear hs
  by_cases hcase : (s.size : Int) ≤ 200
  · have hcase2 := eq_true hcase
    have hres : labB s = ⟨(Lib.trimRightB (s.data.toList.map fixC) 32).toArray⟩ := by unfold labB; rw [List.take_of_length_le]; rw [Array.length_toList]; have : s.data.size = s.size := rfl; omega
    obtain ⟨R, hR⟩ : ∃ R, labB s = R := ⟨_, rfl⟩
    rw [hR] at hres ⊢
    replace hres := Aside0.mk hres
    clear hR
    obtain ⟨t, ht⟩ : ∃ t, t = s.data.toList := ⟨_, rfl⟩
    rw [← ht] at hres
    have htl : t.length = s.size := by rw [ht, Array.length_toList]; rfl
    have HI := Aside0.mk (bytesWorld_LabI w s)
    rw [← ht] at HI
    replace ht := Aside0.mk ht
    replace htl := Aside0.mk htl
    obtain ⟨m, hm⟩ : ∃ m, (Lib.bytesCells w 5 s).size = m := ⟨_, rfl⟩
    rw [hm] at HI
    clear hm
    go_enter Tryd.func14, Tryd.ntmps14
    go_wp2
    generalize Lib.bytesWorld w 5 s = w1 at HI ⊢
    go_loopg [14] s.size (fun kq v14 W => ∃ (ii : Int) (i : Nat), v14 = .int .i64 ii ∧ Aside0 (ii = (i : Int)) ∧ i ≤ s.size ∧ kq = s.size - i ∧ Aside0 (LabI w w.heap.size m t i W))
    case atStart => exact ⟨0, 0, rfl, ⟨rfl⟩, Nat.zero_le _, rfl, HI⟩
    case round =>
      obtain ⟨ii, i, rfl, hii, hi, hgk, hI⟩ := hrel
      obtain ⟨wb, rfl⟩ : ∃ q, q = wr := ⟨_, rfl⟩
      by_cases hin : ii < (s.size : Int)
      · have p0 : 0 ≤ ii := by have := hii.out; omega
        have e0 : ii.toNat = i := by have := hii.out; omega
        have hit : i < t.length := by rw [htl.out]; have := hii.out; omega
        obtain ⟨c, hc⟩ : ∃ c, t[i]? = some c := ⟨_, List.getElem?_eq_getElem hit⟩
        have hx0 : wb.cell? ⟨w.heap.size, ii.toNat, none⟩ = some (.int .u8 (bnum c)) := by rw [e0]; exact hI.out.cell hc
        have hf0 : wb.frozen? ⟨w.heap.size, ii.toNat, none⟩ = false := by rw [e0]; exact hI.out.frozen hc
        have hw1 : wrap64 (ii + 1) = ii + 1 := by have := HS.out; have := hii.out; unfold wrap64; omega
        replace e0 := Aside0.mk e0
        replace hc := Aside0.mk hc
        have hinb := eq_true hin
        have p0b := eq_true p0
        clear hit
        by_cases hlo : bnum c < 32
        · have hlo2 := eq_true hlo
          go_wp2
          go_roundg (s.size - (i + 1))
          case rel => exact ⟨wrap64 (ii + 1), i + 1, by first | rfl | (simp; done) | (simp [hw1]; done), ⟨by rw [hw1]; have := hii.out; omega⟩, by have := hii.out; omega, rfl, ⟨by have := hI.out.set hc.out (fix_lo hlo) (Nat.le_refl _); rwa [← e0.out] at this ⊢⟩⟩
          case measure => have := hii.out; omega
        · by_cases hhi : bnum c > 126
          · have hhi2 := eq_true hhi
            go_wp2
            go_roundg (s.size - (i + 1))
            case rel => exact ⟨wrap64 (ii + 1), i + 1, by first | rfl | (simp; done) | (simp [hw1]; done), ⟨by rw [hw1]; have := hii.out; omega⟩, by have := hii.out; omega, rfl, ⟨by have := hI.out.set hc.out (fix_hi hhi) (Nat.le_refl _); rwa [← e0.out] at this ⊢⟩⟩
            case measure => have := hii.out; omega
          · go_wp2
            go_roundg (s.size - (i + 1))
            case rel => exact ⟨wrap64 (ii + 1), i + 1, by first | rfl | (simp; done) | (simp [hw1]; done), ⟨by rw [hw1]; have := hii.out; omega⟩, by have := hii.out; omega, rfl, ⟨hI.out.keep hc.out (fix_mid (by omega) (by omega))⟩⟩
            case measure => have := hii.out; omega
      · have hi' : i = t.length := by rw [htl.out]; have := hii.out; omega
        have hI2 := hI.out
        rw [hi'] at hI2
        have hcv2 := run_convert_bytes_arg (P := Tryd.prog) wb 22 5 Tryd.underlying22 Tryd.underlying5 w.heap.size 0 s.size (grownCap w s.size 0 5) ((t.map fixC).map bnum) (by simp [htl.out]) (fun j hj => hI2.text j (by rw [htl.out]; exact hj)) 9 Tryd.underlying9
        rw [strOf_fix] at hcv2
        have hbl := Aside0.mk hI2.choose_spec.2.2.2
        clear hi' hI2
        go_wp2_with (go_at_call 30; refine (Any.strings_TrimRight_one Tryd.lays162 _ 32 (by decide) wb (by show (t.map fixC).toArray.size ≤ _; simp; rw [htl.out]; exact HS.out)).mono ?_; rintro e w3 ⟨rfl, rfl⟩)
        go_ret
        exact ⟨by rw [hres.out]; rfl, hbl.out⟩
  · have hcase1 : (200 : Int) < (s.size : Int) := by omega
    have hcase2 := eq_true hcase1
    have hm200 : min 200 s.size = 200 := by omega
    have hres : labB s = ⟨(Lib.trimRightB ((s.extract 0 200).data.toList.map fixC) 32).toArray⟩ := by unfold labB; simp
    obtain ⟨R, hR⟩ : ∃ R, labB s = R := ⟨_, rfl⟩
    rw [hR] at hres ⊢
    replace hres := Aside0.mk hres
    clear hR
    obtain ⟨t, ht⟩ : ∃ t, t = (s.extract 0 200).data.toList := ⟨_, rfl⟩
    rw [← ht] at hres
    have htl : t.length = 200 := by rw [ht, Array.length_toList]; show (s.extract 0 200).size = 200; simp; omega
    have HI := Aside0.mk (bytesWorld_LabI w (s.extract 0 200))
    rw [← ht] at HI
    replace ht := Aside0.mk ht
    replace htl := Aside0.mk htl
    obtain ⟨m, hm⟩ : ∃ m, (Lib.bytesCells w 5 (s.extract 0 200)).size = m := ⟨_, rfl⟩
    rw [hm] at HI
    clear hm
    go_enter Tryd.func14, Tryd.ntmps14
    go_wp2
    generalize Lib.bytesWorld w 5 (s.extract 0 200) = w1 at HI ⊢
    go_loopg [14] 200 (fun kq v14 W => ∃ (ii : Int) (i : Nat), v14 = .int .i64 ii ∧ Aside0 (ii = (i : Int)) ∧ i ≤ 200 ∧ kq = 200 - i ∧ Aside0 (LabI w w.heap.size m t i W))
    case atStart => exact ⟨0, 0, rfl, ⟨rfl⟩, Nat.zero_le _, rfl, HI⟩
    case round =>
      obtain ⟨ii, i, rfl, hii, hi, hgk, hI⟩ := hrel
      obtain ⟨wb, rfl⟩ : ∃ q, q = wr := ⟨_, rfl⟩
      by_cases hin : ii < (200 : Int)
      · have p0 : 0 ≤ ii := by have := hii.out; omega
        have e0 : ii.toNat = i := by have := hii.out; omega
        have hit : i < t.length := by rw [htl.out]; have := hii.out; omega
        obtain ⟨c, hc⟩ : ∃ c, t[i]? = some c := ⟨_, List.getElem?_eq_getElem hit⟩
        have hx0 : wb.cell? ⟨w.heap.size, ii.toNat, none⟩ = some (.int .u8 (bnum c)) := by rw [e0]; exact hI.out.cell hc
        have hf0 : wb.frozen? ⟨w.heap.size, ii.toNat, none⟩ = false := by rw [e0]; exact hI.out.frozen hc
        have hw1 : wrap64 (ii + 1) = ii + 1 := by have := HS.out; have := hii.out; unfold wrap64; omega
        replace e0 := Aside0.mk e0
        replace hc := Aside0.mk hc
        have hinb := eq_true hin
        have p0b := eq_true p0
        clear hit
        by_cases hlo : bnum c < 32
        · have hlo2 := eq_true hlo
          go_wp2
          go_roundg (200 - (i + 1))
          case rel => exact ⟨wrap64 (ii + 1), i + 1, by first | rfl | (simp; done) | (simp [hw1]; done), ⟨by rw [hw1]; have := hii.out; omega⟩, by have := hii.out; omega, rfl, ⟨by have := hI.out.set hc.out (fix_lo hlo) (Nat.le_refl _); rwa [← e0.out] at this ⊢⟩⟩
          case measure => have := hii.out; omega
        · by_cases hhi : bnum c > 126
          · have hhi2 := eq_true hhi
            go_wp2
            go_roundg (200 - (i + 1))
            case rel => exact ⟨wrap64 (ii + 1), i + 1, by first | rfl | (simp; done) | (simp [hw1]; done), ⟨by rw [hw1]; have := hii.out; omega⟩, by have := hii.out; omega, rfl, ⟨by have := hI.out.set hc.out (fix_hi hhi) (Nat.le_refl _); rwa [← e0.out] at this ⊢⟩⟩
            case measure => have := hii.out; omega
          · go_wp2
            go_roundg (200 - (i + 1))
            case rel => exact ⟨wrap64 (ii + 1), i + 1, by first | rfl | (simp; done) | (simp [hw1]; done), ⟨by rw [hw1]; have := hii.out; omega⟩, by have := hii.out; omega, rfl, ⟨hI.out.keep hc.out (fix_mid (by omega) (by omega))⟩⟩
            case measure => have := hii.out; omega
      · have hi' : i = t.length := by rw [htl.out]; have := hii.out; omega
        have hI2 := hI.out
        rw [hi'] at hI2
        have hcv2 := run_convert_bytes_arg (P := Tryd.prog) wb 22 5 Tryd.underlying22 Tryd.underlying5 w.heap.size 0 200 (grownCap w 200 0 5) ((t.map fixC).map bnum) (by simp [htl.out]) (fun j hj => hI2.text j (by rw [htl.out]; exact hj)) 9 Tryd.underlying9
        rw [strOf_fix] at hcv2
        have hbl := Aside0.mk hI2.choose_spec.2.2.2
        clear hi' hI2
        go_wp2_with (go_at_call 30; refine (Any.strings_TrimRight_one Tryd.lays162 _ 32 (by decide) wb (by show (t.map fixC).toArray.size ≤ _; simp; rw [htl.out]; decide)).mono ?_; rintro e w3 ⟨rfl, rfl⟩)
        go_ret
        exact ⟨by rw [hres.out]; rfl, hbl.out⟩
end Go.Proofs.YtnnnbeimehfiiaaDoor.Q
/-! mark's page: what lies in it; its methods. -/
set_option linter.unusedVariables false
set_option linter.unusedSimpArgs false
namespace Go.Proofs.YtnnnbeimehfiiaaDoor.Q
open Go Go.RowKit Go.Proofs.YtnnnbeimehfiiaaDoorW.PrintWords Go.Proofs.YtnnnbeimehfiiaaDoorW.PrintLast Go.Proofs.YtnnnbeimehfiiaaDoorW.PrintMore Go.Proofs.YtnnnbeimehfiiaaDoorW.SL
attribute [local go_sem] max2_int min2_int max_two min_two max_three min_three max_four min_four
/-- A page in block b (of the call's own, from B on) that holds the bytes l. -/
def Pg (B b : Nat) (l : List Int) (w : World) : Prop := LibA.IsBuffer 73 (fun _ => none) 5 B b 0 (l.map (Value.int .u8)) w
theorem us_one (l : List Int) : ∀ v ∈ l.map (Value.int .u8), v.oneCell' = true := fun v hv => by obtain ⟨_, _, rfl⟩ := List.mem_map.1 hv; rfl
/-- What a page's method leaves as it was. -/
def Pk (B b : Nat) (w w' : World) : Prop := Below B w w' ∧ Lib.OthersKept 5 (some b) w w'
theorem Pk.refl (B b : Nat) (w : World) : Pk B b w w := ⟨Below.refl _ _, Lib.OthersKept.refl _ _ _⟩
theorem Pk.trans {B b : Nat} {w w1 w2 : World} (h : Pk B b w w1) (k : Pk B b w1 w2) : Pk B b w w2 := ⟨h.1.trans k.1, h.2.trans k.2⟩
theorem Pg.below {B b : Nat} {l : List Int} {w w' : World} (h : Pg B b l w) (hb : Below w.heap.size w w') : Pg B b l w' := by
  obtain ⟨hB, v, lr, h3, ho, hn⟩ := h
  have hlt := h3.lt
  exact ⟨hB, v, lr, h3.of_heap (hb.block b hlt), own_move ho (fun k hk => hb.block k (own_lt ho k hk)), hn⟩
theorem Pk.below {B b : Nat} {w w1 w2 : World} (h : Pk B b w w1) (hB : B ≤ w1.heap.size) (hb : Below w1.heap.size w1 w2) : Pk B b w w2 :=
  ⟨h.1.trans (below_lo hb hB), fun k o hk hb2 ho => by
    have h1 := h.2 k o hk hb2 ho
    rw [hb.block k (Array.getElem?_eq_some_iff.1 h1).1]; exact h1⟩
theorem drewN_below {w w' : World} (h : ∃ n, w' = w.drewN n) : Below w.heap.size w w' := by obtain ⟨n, rfl⟩ := h; exact pw_below_drewN (Below.refl _ _) n
set_option maxHeartbeats 4000000 in
set_option maxRecDepth 100000 in
/-- (*bytes.Buffer).Write at a page. -/
theorem pg_write (B b : Nat) (l x : List Int) (A : Option Addr) (c : Nat) (w : World) (h : Pg B b l w) (hBw : B ≤ w.heap.size) (hx : Kd.C B8 w A x.length x) (hA : x ≠ [] → ∀ a, A = some a → a.block ≠ b) (hlim : l.length + x.length ≤ 140737488355328) :
    Calls Tryd.prog 34 #[.pointer (some ⟨b, 0, none⟩), .slice A x.length c] w fun e w' => e = .returned (.tuple #[.int .i64 (x.length : Int), .nilIface]) ∧ Pg B b (l ++ x) w' ∧ Pk B b w w' := by
  by_cases hx0 : x ≠ []
  · obtain ⟨a, rfl, _⟩ := hx.2.2 (by cases x with | nil => exact absurd rfl hx0 | cons _ _ => simp)
    replace hA := hA hx0
    refine (Any.Buffer_Write_at Tryd.lays180 73 (fun _ => none) B b 0 (l.map (Value.int .u8)) (x.map (Value.int .u8)) a x.length c w h hBw (us_one l) (by simp) (hA a rfl) (fun j v hj => ?_) (us_one x) (by simpa using hlim)).mono ?_
    · have hjl : j < x.length := by have := (List.getElem?_eq_some_iff.1 hj).1; simpa using this
      obtain ⟨ad', he, hc⟩ := Kd.at_int hx (j : Int) (by omega) (by omega)
      injection he with he
      subst he
      simp only [Int.toNat_natCast] at hc
      rw [hc, ← hj, rd_get hjl]
      simp [List.getElem?_eq_getElem hjl]
    · rintro e w' ⟨rfl, h1, h2, h3⟩
      exact ⟨rfl, by unfold Pg; rw [List.map_append]; exact h1, h2, h3⟩
  · have hx0 : x = [] := Classical.not_not.1 hx0
    subst hx0
    obtain ⟨hB, v0, lr, hbk, -, -⟩ := id h
    have c2 : w.cell? ⟨b, 0 + 2, none⟩ = some (.int .i8 lr) := hbk.c2
    have f2 : w.frozen? ⟨b, 0 + 2, none⟩ = false := hbk.f (0 + 2)
    have h' := LibA.IsBuffer.setLast h 0
    have hbel0 : Below B w (w.setCell ⟨b, 0 + 2, none⟩ (.int .i8 0)) := (Below.refl B w).setCell (p := ⟨b, 0 + 2, none⟩) hB _
    have hk0 : Lib.OthersKept 5 (some b) w (w.setCell ⟨b, 0 + 2, none⟩ (.int .i8 0)) := (Lib.OthersKept.refl _ _ w).setCell ⟨b, 0 + 2, none⟩ rfl _
    clear hbk v0
    have hinfo : (Tryd.prog.info? 5).map (·.size) = some 1 := by kernel_rfl
    have hce : ∀ d dLen dCap W c, (Builtin.copy_ #[22, 22] 3 #[.slice d dLen dCap, .slice A 0 c]).run Tryd.prog W = .ok (goInt 0) W := fun d dLen dCap W c => run_copy_none W 22 22 3 5 d A dLen dCap 0 c Tryd.underlying22 hinfo (by simp)
    replace hlim := Aside0.mk hlim
    replace hA := Aside0.mk hA
    replace hx := Aside0.mk hx
    simp only [Nat.zero_add] at *
    go_enter Tryd.func34, Tryd.ntmps34
    go_wp2_with (go_at_call 49; refine (Any.Buffer_tryGrow_at { Tryd.lays180 with } 73 (fun _ => none) B b 0 0 (l.map (Value.int .u8)) _ ?_).mono ?_)
    · exact h'
    rintro e W1 (⟨rfl, xs, hxl, hI, hbel, hk, hg⟩ | ⟨rfl, rfl, hnr⟩)
    · clear h' c2 f2
      have hx0 : xs = [] := List.eq_nil_of_length_eq_zero hxl
      subst hx0
      rw [List.append_nil] at hI
      have hI2 : Pg B b l W1 := hI
      replace hI2 := Aside0.mk hI2
      have hk2 : Pk B b w W1 := ⟨hbel0.trans hbel, hk0.trans hk⟩
      replace hk2 := Aside0.mk hk2
      obtain ⟨-, lr2, hc⟩ := hI.cases
      clear hI hk hbel hg
      rcases hc with ⟨hb0, hbk2⟩ | ⟨g, cap, cur, hbk2, -, -, hnc, hcm, -, -, -⟩
      · have hl0 : l = [] := by simpa using hb0
        subst hl0
        have d0 : W1.cell? ⟨b, 0, none⟩ = some (.slice none 0 0) := hbk2.c0
        go_wp2
        go_ret2
        exact ⟨by first | rfl | simp, by simpa using hI2.out, hk2.out⟩
      · rw [List.length_map] at hbk2 hnc
        have d0 : W1.cell? ⟨b, 0, none⟩ = some (.slice (some ⟨g, 0, none⟩) l.length cap) := hbk2.c0
        unfold maxLen at hcm
        go_wp2
        all_goals (go_ret2; exact ⟨by first | rfl | simp, by simpa using hI2.out, hk2.out⟩)
    · obtain ⟨_, _, _, _, hlt⟩ := hnr
      omega
/-- A string's bytes. -/
def sb (s : ByteArray) : List Int := s.data.toList.map bnum
theorem sb_cells (s : ByteArray) : Lib.byteCells s.data.toList = (sb s).map (Value.int .u8) := by simp [Lib.byteCells, sb, bnum]
theorem sb_len (s : ByteArray) : (sb s).length = s.size := by simp [sb]
theorem pg_str (B b : Nat) (l : List Int) (s : ByteArray) (w : World) (h : Pg B b l w) (hBw : B ≤ w.heap.size) (hlim : l.length + s.size ≤ 140737488355328) :
    Calls Tryd.prog 54 #[.pointer (some ⟨b, 0, none⟩), .string s] w fun e w' => e = .returned (.tuple #[.int .i64 (s.size : Int), .nilIface]) ∧ Pg B b (l ++ sb s) w' ∧ Pk B b w w' := by
  refine (Any.Buffer_WriteString_at Tryd.lays178 73 (fun _ => none) B b 0 (l.map (Value.int .u8)) s w h hBw (us_one l) (by simpa using hlim)).mono ?_
  rintro e w' ⟨rfl, h1, h2, h3⟩
  exact ⟨rfl, by unfold Pg; rw [List.map_append, ← sb_cells]; exact h1, h2, h3⟩
theorem pg_byte (B b : Nat) (l : List Int) (x : Int) (w : World) (h : Pg B b l w) (hBw : B ≤ w.heap.size) (hlim : l.length + 1 ≤ 140737488355328) :
    Calls Tryd.prog 53 #[.pointer (some ⟨b, 0, none⟩), .int .u8 x] w fun e w' => e = .returned .nilIface ∧ Pg B b (l ++ [x]) w' ∧ Pk B b w w' := by
  refine (Any.Buffer_WriteByte_at Tryd.lays179 73 (fun _ => none) B b 0 (l.map (Value.int .u8)) x w h hBw (us_one l) (by simpa using hlim)).mono ?_
  rintro e w' ⟨rfl, h1, h2, h3⟩
  exact ⟨rfl, by unfold Pg; rw [List.map_append]; exact h1, h2, h3⟩
theorem pg_len (B b : Nat) (l : List Int) (w : World) (h : Pg B b l w) :
    Calls Tryd.prog 51 #[.pointer (some ⟨b, 0, none⟩)] w fun e w' => e = .returned (.int .i64 (l.length : Int)) ∧ Below w.heap.size w w' := by
  refine (Any.Buffer_Len_at Tryd.lays181 73 (fun _ => none) B b 0 (l.map (Value.int .u8)) w h).mono ?_
  rintro e w' ⟨rfl, h1⟩
  exact ⟨by rw [List.length_map], drewN_below h1⟩
set_option maxHeartbeats 4000000 in
set_option maxRecDepth 100000 in
theorem pg_bytes (B b : Nat) (l : List Int) (w : World) (h : Pg B b l w) :
    Calls Tryd.prog 52 #[.pointer (some ⟨b, 0, none⟩)] w fun e w' => ∃ A c, e = .returned (.slice A l.length c) ∧ l.length ≤ c ∧ Kd.C B8 w' A l.length l ∧ Below w.heap.size w w' := by
  obtain ⟨hB, v, lr, h3, ho, hn⟩ := h
  obtain ⟨A, c, rfl, hc, hF⟩ := ownF_F (w := w) (Z := fun _ => True) (v := v) (xs := l) ⟨fun _ _ => trivial, by have := own_weaken ho (Nat.zero_le _); simpa [us8] using this⟩
  have hC : ∀ n, Kd.C B8 (w.drewN n) A l.length l := fun n => Kd.C_below (Kd.F_now hF) (pw_below_drewN (Below.refl _ _) n)
  have hC1 : Kd.C B8 w.drew A l.length l := Kd.C_below (Kd.F_now hF) (below_drew1 (Below.refl _ _))
  have hmx : c ≤ 9223372036854775807 := by
    rcases ho.2 with ⟨h1, _⟩ | ⟨g, cap, cur, h1, _, _, _, hcm, _⟩
    · injection h1 with _ _ h1; omega
    · injection h1 with _ _ h1; simp only [maxLen] at hcm; omega
  have c0 : w.cell? ⟨b, 0, none⟩ = some (.slice A l.length c) := h3.c0
  have c1 : w.cell? ⟨b, 1, none⟩ = some (.int .i64 0) := h3.c1
  have mixed := Tryd.lays183.mixed
  have HC := Aside0.mk (⟨hc, hC, hC1⟩ : _ ∧ _ ∧ _)
  have hcl : (l.length : Int) ≤ (c : Int) := by omega
  clear hF ho h3 hn hC hC1 hc
  cases A with
  | none =>
    go_enter Tryd.func52, Tryd.ntmps52
    go_wp2
    go_region_o
    all_goals (go_wp2; go_ret; first | exact ⟨_, _, rfl, HC.out.1, HC.out.2.2, below_drew1 (Below.refl _ _)⟩ | exact ⟨_, _, rfl, HC.out.1, by have := HC.out.2.2; simpa using this, below_drew1 (Below.refl _ _)⟩)
  | some a =>
    go_enter Tryd.func52, Tryd.ntmps52
    go_wp2
    go_region_o
    all_goals (go_wp2; go_ret; first | exact ⟨_, _, rfl, HC.out.1, HC.out.2.2, below_drew1 (Below.refl _ _)⟩ | exact ⟨_, _, rfl, HC.out.1, by have := HC.out.2.2; simpa using this, below_drew1 (Below.refl _ _)⟩)
theorem Tryd.Builder_Extra_105 : Builder.Extra Tryd.prog Tryd.lays105_ren := {
  sizeBuilder := by kernel_rfl
  liesBuilder := by kernel_rfl
  t5 := Tryd.underlying5
  a5 := Tryd.isAgg5
  z5 := Tryd.sizeOf5
  v5 := Tryd.zeroValue5
  infoByte := by kernel_rfl
  cellsByte := by kernel_rfl
  sizeByte := by kernel_rfl
  neB5 := by decide }
/-- strings.Repeat of one byte. -/
theorem rep_calls (x : UInt8) (n : Nat) (w : World) (hn : n ≤ 16777216) : Calls Tryd.prog 55 #[.string ⟨#[x]⟩, .int .i64 (n : Int)] w fun e w' => e = .returned (.string ⟨(List.replicate n x).toArray⟩) ∧ Below w.heap.size w w' := by
  refine (Any.strings_Repeat Tryd.lays105 Tryd.Builder_Extra_105 ⟨#[x]⟩ n w (by omega) (by show 1 * n ≤ _; omega)).mono ?_
  rintro e w' ⟨rfl, h⟩
  refine ⟨?_, h⟩
  have : ∀ k, Lib.repeatL [x] k = List.replicate k x := fun k => by
    induction k with
    | zero => rfl
    | succ k ih => show [x] ++ Lib.repeatL [x] k = _; rw [ih]; rfl
  rw [← this]
end Go.Proofs.YtnnnbeimehfiiaaDoor.Q
-- Written by a program of this session (wip/gen_pg.py) for this claim; Lean checks it.
/-! mark's page: shut, lines, marker, out, walked. -/
set_option linter.unusedVariables false
set_option linter.unusedSimpArgs false
namespace Go.Proofs.YtnnnbeimehfiiaaDoor.Q
open Go Go.RowKit Go.Proofs.YtnnnbeimehfiiaaDoorW.PrintWords Go.Proofs.YtnnnbeimehfiiaaDoorW.PrintLast Go.Proofs.YtnnnbeimehfiiaaDoorW.PrintMore Go.Proofs.YtnnnbeimehfiiaaDoorW.SL
attribute [local go_sem] max2_int min2_int max_two min_two max_three min_three max_four min_four
def mmark.T0 : Bool × List (List Nat × List Nat) := (true, [([], []), ([0], [0]), ([1], [1]), ([], []), ([], []), ([3, 4], [3, 4]), ([2, 5, 5], [2, 5])])
def mmark.B0 : List Nat := [0, 1, 3, 0, 0, 24, 63]
theorem mmark.tab0 : rtab .any (opsOf Tryd.f36 0) = mmark.T0 := by kernel_rfl
theorem mmark.bits0 : waitsOk mmark.T0.2 mmark.B0 = true := by kernel_rfl
/-- A newline behind the last line, if it lacks one. -/
def endNl (l : List Int) : List Int := match l.getLast? with | some x => if x = 10 then l else l ++ [10] | none => []
theorem endNl_nil : endNl [] = [] := rfl
theorem endNl_snoc (r : List Int) (x : Int) : endNl (r ++ [x]) = if x = 10 then r ++ [x] else r ++ [x] ++ [10] := by simp [endNl]
theorem last_C {w : World} {A : Option Addr} {r : List Int} {x : Int} (h : Kd.C B8 w A (r ++ [x]).length (r ++ [x])) : ∃ ad, A = some ad ∧ w.cell? (ad.add r.length) = some (.int .u8 x) := by
  obtain ⟨ad, hA, hc⟩ := Kd.at_int h (r.length : Int) (by omega) (by simp; omega)
  refine ⟨ad, hA, ?_⟩
  simp only [Int.toNat_natCast] at hc
  rw [hc, rd_get (by simp)]
  simp
theorem Pk.of_below {B b : Nat} {w w' : World} (hB : B ≤ w.heap.size) (h : Below w.heap.size w w') : Pk B b w w' := (Pk.refl B b w).below hB h
theorem Pg.lt {B b : Nat} {l : List Int} {w : World} (h : Pg B b l w) : b < w.heap.size := LibA.IsBuffer.lt h
theorem Pk.size {B b : Nat} {w w' : World} (h : Pk B b w w') : w.heap.size ≤ w'.heap.size := h.1.size
set_option maxHeartbeats 8000000 in
set_option maxRecDepth 100000 in
theorem shut_calls (B b : Nat) (l : List Int) (w : World) (h : Pg B b l w) (hBw : B ≤ w.heap.size) (hlim : l.length + 1 ≤ 140737488355328) :
    Calls Tryd.prog 35 #[.pointer (some ⟨b, 0, none⟩)] w fun e w' => e = .returned (.tuple #[]) ∧ Pg B b (endNl l) w' ∧ Pk B b w w' := by
  rcases List.eq_nil_or_concat l with rfl | ⟨r, x, hl⟩
  · have H := Aside0.mk h; have HB := Aside0.mk hBw
    clear h hBw hlim
    rw [endNl_nil]
    go_enter Tryd.func35, Tryd.ntmps35
    go_wp2_with (go_at_call 51; refine (pg_len B b [] w H.out).mono ?_; rintro e w1 ⟨rfl, hb1⟩)
    (try simp only [Exit.inBlock, Exit.then])
    refine bodyPost_end (results_none rfl _ _ _) rfl ?_
    exact ⟨rfl, H.out.below hb1, Pk.of_below HB.out hb1⟩
  · have hl2 : l = r ++ [x] := by simpa using hl
    subst hl2
    clear hl
    have hln : (r ++ [x]).length = r.length + 1 := by simp
    have hpos := eq_true (show (0 : Int) < (r.length : Int) + 1 by omega)
    have hw0 : wrap64 (r.length : Int) = (r.length : Int) := by rw [hln] at hlim; unfold wrap64; omega
    have hlt := eq_true (show (r.length : Int) < (r.length : Int) + 1 by omega)
    have LEN : ∀ W, Pg B b (r ++ [x]) W → Calls Tryd.prog 51 #[.pointer (some ⟨b, 0, none⟩)] W fun e w' => e = .returned (.int .i64 ((r.length + 1 : Nat) : Int)) ∧ Below W.heap.size W w' := fun W hW => by
      have := pg_len B b (r ++ [x]) W hW; rwa [hln] at this
    have BYT : ∀ W, Pg B b (r ++ [x]) W → Calls Tryd.prog 52 #[.pointer (some ⟨b, 0, none⟩)] W fun e w' => ∃ ad c, e = .returned (.slice (some ad) (r.length + 1) c) ∧ w'.cell? (ad.add r.length) = some (.int .u8 x) ∧ Below W.heap.size W w' := fun W hW => by
      refine (pg_bytes B b (r ++ [x]) W hW).mono ?_
      rintro e w' ⟨A, c, rfl, hc, hC, hb⟩
      obtain ⟨ad, rfl, hx⟩ := last_C hC
      exact ⟨ad, c, by rw [hln], hx, hb⟩
    have H := Aside0.mk h; have HB := Aside0.mk hBw; have HL := Aside0.mk hlim
    replace LEN := Aside0.mk LEN; replace BYT := Aside0.mk BYT
    clear h hBw hlim hln
    rw [endNl_snoc]
    by_cases hx10 : x = 10
    · subst hx10
      rw [if_pos rfl]
      go_enter Tryd.func35, Tryd.ntmps35
      go_wp2_with (first | (go_at_call 51; refine (LEN.out w H.out).mono ?_; rintro e w1 ⟨rfl, hb1⟩; have H1 := H.out.below hb1) | (go_at_call 52; refine (BYT.out w1 H1).mono ?_; rintro e w2 ⟨ad, c, rfl, hx, hb2⟩; have hb := hb1.trans (below_lo hb2 hb1.size)))
      (try simp only [Exit.inBlock, Exit.then])
      refine bodyPost_end (results_none rfl _ _ _) rfl ?_
      exact ⟨rfl, H.out.below hb, Pk.of_below HB.out hb⟩
    · rw [if_neg hx10]
      have hne := eq_false hx10
      have hbf : (x == 10) = false := by rw [beq_eq_false_iff_ne]; exact hx10
      go_enter Tryd.func35, Tryd.ntmps35
      go_wp2_with (first | (go_at_call 51; refine (LEN.out w H.out).mono ?_; rintro e w1 ⟨rfl, hb1⟩; have H1 := H.out.below hb1) | (go_at_call 52; refine (BYT.out w1 H1).mono ?_; rintro e w2 ⟨ad, c, rfl, hx, hb2⟩; have hb := hb1.trans (below_lo hb2 hb1.size)) | (go_at_call 53; refine (pg_byte B b (r ++ [x]) 10 w2 (H.out.below hb) (Nat.le_trans HB.out hb.size) HL.out).mono ?_; rintro e w3 ⟨rfl, hp3, hk3⟩))
      (try simp only [Exit.inBlock, Exit.then])
      refine bodyPost_end (results_none rfl _ _ _) rfl ?_
      exact ⟨rfl, hp3, (Pk.of_below HB.out hb).trans hk3⟩
set_option maxHeartbeats 8000000 in
set_option maxRecDepth 100000 in
theorem lines_calls (B b : Nat) (l x : List Int) (A : Option Addr) (c : Nat) (w : World) (h : Pg B b l w) (hBw : B ≤ w.heap.size) (hx : Kd.C B8 w A x.length x) (hA : x ≠ [] → ∀ a, A = some a → a.block ≠ b) (hlim : l.length + x.length + 1 ≤ 140737488355328) :
    Calls Tryd.prog 37 #[.pointer (some ⟨b, 0, none⟩), .slice A x.length c] w fun e w' => e = .returned (.tuple #[]) ∧ Pg B b (endNl (l ++ x)) w' ∧ Pk B b w w' := by
  have H := Aside0.mk h; have HB := Aside0.mk hBw; have HL := Aside0.mk hlim; have HX := Aside0.mk hx; have HA := Aside0.mk hA
  clear h hBw hlim hx hA
  go_enter Tryd.func37, Tryd.ntmps37
  go_wp2_with (first | (go_at_call 34; refine (pg_write B b l x A c w H.out HB.out HX.out HA.out (by have := HL.out; omega)).mono ?_; rintro e w1 ⟨rfl, hp1, hk1⟩) | (go_at_call 35; refine (shut_calls B b (l ++ x) w1 hp1 (Nat.le_trans HB.out hk1.size) (by have := HL.out; simp; omega)).mono ?_; rintro e w2 ⟨rfl, hp2, hk2⟩))
  (try simp only [Exit.inBlock, Exit.then])
  refine bodyPost_end (results_none rfl _ _ _) rfl ?_
  exact ⟨rfl, hp2, hk1.trans hk2⟩
set_option maxHeartbeats 8000000 in
set_option maxRecDepth 100000 in
/-- bytes.Clone. -/
theorem bclone_calls (A : Option Addr) (c : Nat) (xs : List Int) (w : World) (hl : xs.length ≤ 140737488355328) (hr : Kd.C B8 w A xs.length xs) :
    Calls Tryd.prog 56 #[.slice A xs.length c] w fun e w' => ∃ A' c', e = .returned (.slice A' xs.length c') ∧ xs.length ≤ c' ∧ Kd.C B8 w' A' xs.length xs ∧ Below w.heap.size w w' := by
  obtain ⟨i0, hi, hz0, hz1, hz2⟩ := info_parts inf5
  have q22 : ∀ (w : World) (a : Option Addr) (n c n' c' : Nat), (binOp .eql 22 (.slice a n c) (.slice none n' c')).run Tryd.prog w = .ok (.bool a.isNone) w := fun w a n c n' c' => Lib.run_eql_slice_nil w _ _ a n c n' c' Tryd.underlying22
  have HR := Aside0.mk hr
  have HL := Aside0.mk hl
  clear hr hl
  cases A with
  | none =>
    have hx0 : xs = [] := by
      cases xs with
      | nil => rfl
      | cons y r => obtain ⟨a, ha, _⟩ := HR.out.2.2 (by simp); cases ha
    subst hx0
    go_enter Tryd.func56, Tryd.ntmps56
    go_wp2
    go_ret
    exact ⟨none, 0, rfl, Nat.le_refl _, HR.out, Below.refl _ _⟩
  | some ad =>
    go_enter Tryd.func56, Tryd.ntmps56
    go_wp2_with (at_builtin; refine wpList_append_own _ rfl _ _ 22 rfl w.heap.size 5 i0 (.int .u8 0) 1 1 Tryd.underlying22 hi hz0 hz1 hz2 rfl (by decide) _ _ _ rfl (World.ownsRow_made w #[] 0 (Nat.le_refl _) (Nat.zero_le _) rfl) ad xs.length c (xs.map (Value.int .u8)) rfl ?qc1 ?qc2 ?qc3 ?qc4 ?qc5 ?qc6 ?_)
    case qc1 => simp
    case qc2 =>
      intro j u hj
      have hjl : j < xs.length := by
        have := (List.getElem?_eq_some_iff.1 hj).1
        simpa using this
      refine Lib.cell?_alloc_some _ ?_
      obtain ⟨ad', he, hc⟩ := Kd.at_int HR.out (j : Int) (by omega) (by omega)
      injection he with he
      subst he
      simp only [Int.toNat_natCast] at hc
      rw [hc, ← hj]
      simp [rd, List.getD_eq_getElem?_getD, List.getElem?_eq_getElem hjl]
    case qc3 => intro u hu; obtain ⟨x, _, rfl⟩ := List.mem_map.1 hu; rfl
    case qc4 => have := HL.out; unfold maxLen; omega
    case qc5 => have := HL.out; omega
    case qc6 => simp
    intro v' w1 hown hgrow hnil
    have hB := Aside0.mk (((Below.refl _ w).alloc (Nat.le_refl _) _).grown hgrow (by simp) (by intro k hk; simp [Value.ownBlock] at hk; omega))
    obtain ⟨A', c', rfl, hc', hF⟩ := ownF_F (w := w1) (Z := fun _ => True) (v := v') (xs := xs) ⟨fun _ _ => trivial, by have := own_weaken hown (Nat.zero_le _); simpa [us8] using this⟩
    replace hF := Aside0.mk hF
    clear hown hgrow hnil
    go_wp2
    go_ret
    exact ⟨A', c', rfl, hc', Kd.F_now hF.out, hB.out⟩
set_option maxHeartbeats 8000000 in
set_option maxRecDepth 100000 in
theorem out_calls (B b : Nat) (l : List Int) (w : World) (h : Pg B b l w) (hlim : l.length ≤ 140737488355328) :
    Calls Tryd.prog 38 #[.pointer (some ⟨b, 0, none⟩)] w fun e w' => ∃ A' c', e = .returned (.slice A' l.length c') ∧ l.length ≤ c' ∧ Kd.C B8 w' A' l.length l ∧ Below w.heap.size w w' := by
  have H := Aside0.mk h; have HL := Aside0.mk hlim
  clear h hlim
  go_enter Tryd.func38, Tryd.ntmps38
  go_wp2_with (first | (go_at_call 52; refine (pg_bytes B b l w H.out).mono ?_; rintro e w1 ⟨A, c, rfl, hc, hC, hb1⟩; replace hC := Aside0.mk hC) | (go_at_call 56; refine (bclone_calls A c l w1 HL.out hC.out).mono ?_; rintro e w2 ⟨A2, c2, rfl, hc2, hC2, hb2⟩; have HH := Aside0.mk (⟨hc2, hC2, hb1.trans (below_lo hb2 hb1.size)⟩ : _ ∧ _ ∧ _); clear hc2 hC2 hc))
  go_ret
  exact ⟨A2, c2, rfl, HH.out.1, HH.out.2.1, HH.out.2.2⟩
def repB (x : UInt8) (n : Nat) : ByteArray := ⟨(List.replicate n x).toArray⟩
theorem sb_rep (x : UInt8) (n : Nat) : sb (repB x n) = List.replicate n (bnum x) := by simp [sb, repB]
theorem sb_app (a b : ByteArray) : sb (a ++ b) = sb a ++ sb b := by simp [sb]
/-- A marker's line. -/
def mkLine (x : UInt8) (n : Nat) (s : ByteArray) : List Int := List.replicate n (bnum x) ++ (if labB s = ⟨#[]⟩ then [] else 32 :: sb (labB s)) ++ [10]
theorem labB_size (s : ByteArray) : (labB s).size ≤ 200 := by
  show (Lib.trimRightB ((s.data.toList.take 200).map fixC) 32).toArray.size ≤ 200
  have h1 : ∀ (l : List UInt8) (c : UInt8), (Lib.trimRightB l c).length ≤ l.length := fun l c => by
    unfold Lib.trimRightB
    rw [List.length_reverse]
    exact Nat.le_trans (List.dropWhile_sublist _).length_le (by simp)
  rw [List.size_toArray]
  refine Nat.le_trans (h1 _ _) ?_
  rw [List.length_map, List.length_take]
  omega
set_option maxHeartbeats 8000000 in
set_option maxRecDepth 100000 in
theorem marker_calls (B pb : Nat) (l : List Int) (x : UInt8) (n : Nat) (s : ByteArray) (w : World) (h : Pg B pb l w) (hBw : B ≤ w.heap.size) (hn : n ≤ 16777216) (hs : s.size ≤ 9223372036854775807) (hlim : l.length + n + 300 ≤ 140737488355328) :
    Calls Tryd.prog 36 #[.pointer (some ⟨pb, 0, none⟩), .string ⟨#[x]⟩, .int .i64 (n : Int), .string s] w fun e w' => e = .returned (.tuple #[]) ∧ Pg B pb (l ++ mkLine x n s) w' ∧ Pk B pb w w' := by
  have hln : (sb (repB x n)).length = n := by rw [sb_rep, List.length_replicate]
  have hsz := labB_size s
  obtain ⟨t, ht⟩ : ∃ t, labB s = t := ⟨_, rfl⟩
  rw [ht] at hsz
  have hml : mkLine x n s = sb (repB x n) ++ (if t = ⟨#[]⟩ then [] else 32 :: sb t) ++ [10] := by unfold mkLine; rw [sb_rep, ht]
  rw [hml]
  have hrs : (repB x n).size = n := by rw [← sb_len]; exact hln
  have H := Aside0.mk h; have HB := Aside0.mk hBw; have HL := Aside0.mk hlim; have HN := Aside0.mk hn; have HS := Aside0.mk hs; have HT := Aside0.mk ht; have HLN := Aside0.mk hln; have HSZ := Aside0.mk hsz; have HRS := Aside0.mk hrs
  clear h hBw hlim hn hs ht hml hln hrs
  obtain ⟨RB, hRB⟩ : ∃ RB, RB = repB x n := ⟨_, rfl⟩
  rw [← hRB] at HLN HRS ⊢
  replace hRB := Aside0.mk hRB
  by_cases ht0 : t = ⟨#[]⟩
  · rw [if_pos ht0]
    subst ht0
    go_enter Tryd.func36, Tryd.ntmps36
    go_wp2
    have E := trivial
    refine start_ (n := 7) (S := fun w' => True) (ds := []) #[false, false, false, false, false, false, false] (by kernel_rfl) rfl rfl trivial (fun hHeld => ?_)
    refine with_tabW mmark.tab0 mmark.bits0 (fun HT_ HW_ => ?_)
    have H1 : Aside0 (Pg B pb l w.drew) := ⟨H.out.below (below_drew1 (Below.refl _ _))⟩
    have HB1 : Aside0 (B ≤ w.drew.heap.size) := ⟨HB.out⟩
    have HK1 : Aside0 (Pk B pb w w.drew) := ⟨Pk.of_below HB.out (below_drew1 (Below.refl _ _))⟩
    generalize w.drew = wd at H1 HB1 HK1 hHeld ⊢
    refine pure_ (i := 0) (N := some 9) (v := ?_) (a' := ?_) #[true, false, false, false, false, false, false] rfl rfl (any_of HT_.out (by kernel_rfl)) (fun _ _ _ h => h) (Or.inl ⟨by rfl, ?_⟩) ?_ ?_
    rotate_left
    · intro w'
      go_simp
      with_reducible rfl
    rotate_left
    · simp only [Act.put, List.setIfInBounds_toArray, List.set_cons_zero, List.set_cons_succ, i64_w, i32_w]
      rfl
    refine pure_ (i := 1) (N := some 10) (v := ?_) (a' := ?_) #[true, true, false, false, false, false, false] rfl rfl (any_of HT_.out (by kernel_rfl)) (fun _ _ _ h => h) (Or.inl ⟨by rfl, ?_⟩) ?_ ?_
    rotate_left
    · intro w'
      go_simp
      with_reducible rfl
    rotate_left
    · simp only [Act.put, List.setIfInBounds_toArray, List.set_cons_zero, List.set_cons_succ, i64_w, i32_w]
      rfl
    refine pure_ (i := 2) (N := some 11) (v := ?_) (a' := ?_) #[true, true, true, false, false, false, false] rfl rfl (any_of HT_.out (by kernel_rfl)) (fun _ _ _ h => h) (Or.inl ⟨by rfl, ?_⟩) ?_ ?_
    rotate_left
    · intro w'
      go_simp
      with_reducible rfl
    rotate_left
    · simp only [Act.put, List.setIfInBounds_toArray, List.set_cons_zero, List.set_cons_succ, i64_w, i32_w]
      rfl
    refine pure_ (i := 3) (N := some 12) (v := ?_) (a' := ?_) #[true, true, true, true, false, false, false] rfl rfl (any_of HT_.out (by kernel_rfl)) (fun _ _ _ h => h) (Or.inl ⟨by rfl, ?_⟩) ?_ ?_
    rotate_left
    · intro w'
      go_simp
      with_reducible rfl
    rotate_left
    · simp only [Act.put, List.setIfInBounds_toArray, List.set_cons_zero, List.set_cons_succ, i64_w, i32_w]
      rfl
    refine pure_ (i := 4) (N := some 13) (v := ?_) (a' := ?_) #[true, true, true, true, true, false, false] rfl rfl (any_of HT_.out (by kernel_rfl)) (fun _ _ _ h => h) (Or.inl ⟨by rfl, ?_⟩) ?_ ?_
    rotate_left
    · intro w'
      go_simp
      with_reducible rfl
    rotate_left
    · simp only [Act.put, List.setIfInBounds_toArray, List.set_cons_zero, List.set_cons_succ, i64_w, i32_w]
      rfl
    refine inv_at [5, 6] (fun a0_ b a w' => a = putSel a0_ b [(5, 14, .string RB), (6, 15, .tuple #[.int .i64 (RB.size : Int), .nilIface])] ∧ (b 6 = false → Below wd.heap.size wd w') ∧ (b 6 = true → Pg B pb (l ++ sb RB) w' ∧ Pk B pb w w')) HT_.out HW_.out (by kernel_rfl) (by kernel_rfl) ?_ ?_ ?_
    · exact ⟨by simp only [putSel, Bool.false_eq_true, if_false], fun _ => Below.refl _ _, fun h_ => absurd h_ (by decide)⟩
    · skip
      clear E
      refine steps_cons ?_ ?_
      · rintro b a w' ⟨ha, Q_E, Q_F⟩ hb_ hon hoff
        refine ⟨_, rfl, fun K hK => ?_⟩
        have e12 : a.tmps[12]? = some (.string ⟨#[x]⟩) := by rw [ha]; exact (putSel_off rfl).trans rfl
        have e13 : a.tmps[13]? = some (.int .i64 (n : Int)) := by rw [ha]; exact (putSel_off rfl).trans rfl
        replace ha := Aside0.mk ha
        have E := Aside0.mk (Q_E (hoff 6 (by kernel_rfl)))
        refine goes_ Tryd.func55 (by kernel_rfl) rfl #[.string ⟨#[x]⟩, .int .i64 (n : Int)] (by rfl) rfl rfl (by first | (simp only [List.map_toArray, List.map_cons, List.map_nil, Act.eval, Array.getD_eq_getD_getElem?, Option.getD_some, e12, e13]; done) | (simp only [List.map_toArray, List.map_cons, List.map_nil, Act.eval, Array.getD_eq_getD_getElem?, Option.getD_some, e12, e13]; rfl)) ?_
        refine (rep_calls x n _ HN.out).mono ?_
        rw [show (⟨(List.replicate n x).toArray⟩ : ByteArray) = RB from hRB.out.symm]
        rintro e w24 ⟨rfl, hb⟩
        refine ⟨_, rfl, ?_⟩
        have E3_ := E.out.trans (below_lo hb E.out.size)
        refine hK.out _ _ ⟨(by rw [ha.out]; exact putSel_upk 0 hb_ rfl rfl rfl), fun _ => E3_, fun h0_ => absurd ((hoff 6 (by kernel_rfl)).symm.trans h0_) (by decide)⟩
      refine steps_cons ?_ ?_
      · rintro b a w' ⟨ha, Q_E, Q_F⟩ hb_ hon hoff
        refine ⟨_, rfl, fun K hK => ?_⟩
        have e11 : a.tmps[11]? = some (.pointer (some ⟨pb, 0, none⟩)) := by rw [ha]; exact (putSel_off rfl).trans rfl
        have e14 : a.tmps[14]? = some (.string RB) := by rw [ha]; exact putSel_on (e := (5, 14, .string RB)) 0 rfl rfl (hon 5 (by kernel_rfl)) rfl
        replace ha := Aside0.mk ha
        have E := Aside0.mk (Q_E hb_)
        refine goes_ Tryd.func54 (by kernel_rfl) rfl #[.pointer (some ⟨pb, 0, none⟩), .string RB] (by rfl) rfl rfl (by first | (simp only [List.map_toArray, List.map_cons, List.map_nil, Act.eval, Array.getD_eq_getD_getElem?, Option.getD_some, e11, e14]; done) | (simp only [List.map_toArray, List.map_cons, List.map_nil, Act.eval, Array.getD_eq_getD_getElem?, Option.getD_some, e11, e14]; rfl)) ?_
        refine (pg_str B pb l RB _ (H1.out.below E.out) (Nat.le_trans HB1.out E.out.size) (by have := HL.out; have := HRS.out; omega)).mono ?_
        rintro e w24 ⟨rfl, hp, hk⟩
        refine ⟨_, rfl, ?_⟩
        have E3_ := And.intro hp (HK1.out.trans ((Pk.of_below HB1.out E.out).trans hk))
        refine hK.out _ _ ⟨(by rw [ha.out]; exact putSel_upk 1 hb_ rfl rfl rfl), fun h0_ => absurd ((up_self b 6).symm.trans h0_) (by decide), fun _ => E3_⟩
      exact steps_nil
    · rintro b a w' hall ⟨ha, Q_E, Q_F⟩
      clear E
      have hb5_ := hall 5 (by kernel_rfl)
      have hb6_ := hall 6 (by kernel_rfl)
      subst ha
      simp only [putSel, hb5_, hb6_, if_true, Act.put, List.setIfInBounds_toArray, List.set_cons_zero, List.set_cons_succ]
      clear Q_E
      have F := Aside0.mk (Q_F hb6_)
      clear Q_F
      clear hall hb5_ hb6_
      go_wp2_with (first | (go_at_call 14; refine (Label_calls s w' HS.out).mono ?_; rw [HT.out]; rintro e w3 ⟨rfl, hb3⟩; have hP3 := F.out.1.below hb3; have hK3 := F.out.2.below (Nat.le_trans HB.out F.out.2.size) hb3) | (go_at_call 53; refine (pg_byte B pb (l ++ sb RB) 10 w3 hP3 (Nat.le_trans HB.out hK3.size) (by have := HL.out; have := HLN.out; simp; omega)).mono ?_; rintro e w4 ⟨rfl, hP4, hK4⟩))
      (try simp only [Exit.inBlock, Exit.then])
      refine bodyPost_end (results_none rfl _ _ _) rfl ?_
      exact ⟨rfl, by simpa using hP4, hK3.trans hK4⟩
  · rw [if_neg ht0]
    have hbne := eq_false ht0
    have hti : t.toList.isEmpty = false := by
      rw [Lib.toList_data, Bool.eq_false_iff]
      intro h_
      apply ht0
      have h2_ := List.isEmpty_iff.1 h_
      cases t with | mk d => congr 1; cases d with | mk dl => simp at h2_; rw [h2_]
    have hsl : (9223372036854775807 < 1 + t.size) = False := eq_false (by have := HSZ.out; omega)
    have hsl2 : (9223372036854775807 < t.size + 1) = False := eq_false (by have := HSZ.out; omega)
    go_enter Tryd.func36, Tryd.ntmps36
    go_wp2
    have E := trivial
    refine start_ (n := 7) (S := fun w' => True) (ds := []) #[false, false, false, false, false, false, false] (by kernel_rfl) rfl rfl trivial (fun hHeld => ?_)
    refine with_tabW mmark.tab0 mmark.bits0 (fun HT_ HW_ => ?_)
    have H1 : Aside0 (Pg B pb l w.drew) := ⟨H.out.below (below_drew1 (Below.refl _ _))⟩
    have HB1 : Aside0 (B ≤ w.drew.heap.size) := ⟨HB.out⟩
    have HK1 : Aside0 (Pk B pb w w.drew) := ⟨Pk.of_below HB.out (below_drew1 (Below.refl _ _))⟩
    generalize w.drew = wd at H1 HB1 HK1 hHeld ⊢
    refine pure_ (i := 0) (N := some 9) (v := ?_) (a' := ?_) #[true, false, false, false, false, false, false] rfl rfl (any_of HT_.out (by kernel_rfl)) (fun _ _ _ h => h) (Or.inl ⟨by rfl, ?_⟩) ?_ ?_
    rotate_left
    · intro w'
      go_simp
      with_reducible rfl
    rotate_left
    · simp only [Act.put, List.setIfInBounds_toArray, List.set_cons_zero, List.set_cons_succ, i64_w, i32_w]
      rfl
    refine pure_ (i := 1) (N := some 10) (v := ?_) (a' := ?_) #[true, true, false, false, false, false, false] rfl rfl (any_of HT_.out (by kernel_rfl)) (fun _ _ _ h => h) (Or.inl ⟨by rfl, ?_⟩) ?_ ?_
    rotate_left
    · intro w'
      go_simp
      with_reducible rfl
    rotate_left
    · simp only [Act.put, List.setIfInBounds_toArray, List.set_cons_zero, List.set_cons_succ, i64_w, i32_w]
      rfl
    refine pure_ (i := 2) (N := some 11) (v := ?_) (a' := ?_) #[true, true, true, false, false, false, false] rfl rfl (any_of HT_.out (by kernel_rfl)) (fun _ _ _ h => h) (Or.inl ⟨by rfl, ?_⟩) ?_ ?_
    rotate_left
    · intro w'
      go_simp
      with_reducible rfl
    rotate_left
    · simp only [Act.put, List.setIfInBounds_toArray, List.set_cons_zero, List.set_cons_succ, i64_w, i32_w]
      rfl
    refine pure_ (i := 3) (N := some 12) (v := ?_) (a' := ?_) #[true, true, true, true, false, false, false] rfl rfl (any_of HT_.out (by kernel_rfl)) (fun _ _ _ h => h) (Or.inl ⟨by rfl, ?_⟩) ?_ ?_
    rotate_left
    · intro w'
      go_simp
      with_reducible rfl
    rotate_left
    · simp only [Act.put, List.setIfInBounds_toArray, List.set_cons_zero, List.set_cons_succ, i64_w, i32_w]
      rfl
    refine pure_ (i := 4) (N := some 13) (v := ?_) (a' := ?_) #[true, true, true, true, true, false, false] rfl rfl (any_of HT_.out (by kernel_rfl)) (fun _ _ _ h => h) (Or.inl ⟨by rfl, ?_⟩) ?_ ?_
    rotate_left
    · intro w'
      go_simp
      with_reducible rfl
    rotate_left
    · simp only [Act.put, List.setIfInBounds_toArray, List.set_cons_zero, List.set_cons_succ, i64_w, i32_w]
      rfl
    refine inv_at [5, 6] (fun a0_ b a w' => a = putSel a0_ b [(5, 14, .string RB), (6, 15, .tuple #[.int .i64 (RB.size : Int), .nilIface])] ∧ (b 6 = false → Below wd.heap.size wd w') ∧ (b 6 = true → Pg B pb (l ++ sb RB) w' ∧ Pk B pb w w')) HT_.out HW_.out (by kernel_rfl) (by kernel_rfl) ?_ ?_ ?_
    · exact ⟨by simp only [putSel, Bool.false_eq_true, if_false], fun _ => Below.refl _ _, fun h_ => absurd h_ (by decide)⟩
    · skip
      clear E
      refine steps_cons ?_ ?_
      · rintro b a w' ⟨ha, Q_E, Q_F⟩ hb_ hon hoff
        refine ⟨_, rfl, fun K hK => ?_⟩
        have e12 : a.tmps[12]? = some (.string ⟨#[x]⟩) := by rw [ha]; exact (putSel_off rfl).trans rfl
        have e13 : a.tmps[13]? = some (.int .i64 (n : Int)) := by rw [ha]; exact (putSel_off rfl).trans rfl
        replace ha := Aside0.mk ha
        have E := Aside0.mk (Q_E (hoff 6 (by kernel_rfl)))
        refine goes_ Tryd.func55 (by kernel_rfl) rfl #[.string ⟨#[x]⟩, .int .i64 (n : Int)] (by rfl) rfl rfl (by first | (simp only [List.map_toArray, List.map_cons, List.map_nil, Act.eval, Array.getD_eq_getD_getElem?, Option.getD_some, e12, e13]; done) | (simp only [List.map_toArray, List.map_cons, List.map_nil, Act.eval, Array.getD_eq_getD_getElem?, Option.getD_some, e12, e13]; rfl)) ?_
        refine (rep_calls x n _ HN.out).mono ?_
        rw [show (⟨(List.replicate n x).toArray⟩ : ByteArray) = RB from hRB.out.symm]
        rintro e w24 ⟨rfl, hb⟩
        refine ⟨_, rfl, ?_⟩
        have E3_ := E.out.trans (below_lo hb E.out.size)
        refine hK.out _ _ ⟨(by rw [ha.out]; exact putSel_upk 0 hb_ rfl rfl rfl), fun _ => E3_, fun h0_ => absurd ((hoff 6 (by kernel_rfl)).symm.trans h0_) (by decide)⟩
      refine steps_cons ?_ ?_
      · rintro b a w' ⟨ha, Q_E, Q_F⟩ hb_ hon hoff
        refine ⟨_, rfl, fun K hK => ?_⟩
        have e11 : a.tmps[11]? = some (.pointer (some ⟨pb, 0, none⟩)) := by rw [ha]; exact (putSel_off rfl).trans rfl
        have e14 : a.tmps[14]? = some (.string RB) := by rw [ha]; exact putSel_on (e := (5, 14, .string RB)) 0 rfl rfl (hon 5 (by kernel_rfl)) rfl
        replace ha := Aside0.mk ha
        have E := Aside0.mk (Q_E hb_)
        refine goes_ Tryd.func54 (by kernel_rfl) rfl #[.pointer (some ⟨pb, 0, none⟩), .string RB] (by rfl) rfl rfl (by first | (simp only [List.map_toArray, List.map_cons, List.map_nil, Act.eval, Array.getD_eq_getD_getElem?, Option.getD_some, e11, e14]; done) | (simp only [List.map_toArray, List.map_cons, List.map_nil, Act.eval, Array.getD_eq_getD_getElem?, Option.getD_some, e11, e14]; rfl)) ?_
        refine (pg_str B pb l RB _ (H1.out.below E.out) (Nat.le_trans HB1.out E.out.size) (by have := HL.out; have := HRS.out; omega)).mono ?_
        rintro e w24 ⟨rfl, hp, hk⟩
        refine ⟨_, rfl, ?_⟩
        have E3_ := And.intro hp (HK1.out.trans ((Pk.of_below HB1.out E.out).trans hk))
        refine hK.out _ _ ⟨(by rw [ha.out]; exact putSel_upk 1 hb_ rfl rfl rfl), fun h0_ => absurd ((up_self b 6).symm.trans h0_) (by decide), fun _ => E3_⟩
      exact steps_nil
    · rintro b a w' hall ⟨ha, Q_E, Q_F⟩
      clear E
      have hb5_ := hall 5 (by kernel_rfl)
      have hb6_ := hall 6 (by kernel_rfl)
      subst ha
      simp only [putSel, hb5_, hb6_, if_true, Act.put, List.setIfInBounds_toArray, List.set_cons_zero, List.set_cons_succ]
      clear Q_E
      have F := Aside0.mk (Q_F hb6_)
      clear Q_F
      clear hall hb5_ hb6_
      go_wp2_with (first | (go_at_call 14; refine (Label_calls s w' HS.out).mono ?_; rw [HT.out]; rintro e w3 ⟨rfl, hb3⟩; have hP3 := F.out.1.below hb3; have hK3 := F.out.2.below (Nat.le_trans HB.out F.out.2.size) hb3) | (go_at_call 54; go_loud (refine (pg_str B pb (l ++ sb RB) _ w3 hP3 (Nat.le_trans HB.out hK3.size) (by have := HL.out; have := HLN.out; have := HSZ.out; have h32_ : (⟨#[32]⟩ : ByteArray).size = 1 := rfl; simp; omega)).mono ?_; rintro e w4 ⟨rfl, hP4, hK4⟩)) | (go_at_call 53; refine (pg_byte B pb _ 10 w4 hP4 (Nat.le_trans HB.out (Nat.le_trans hK3.size hK4.size)) (by have := HL.out; have := HLN.out; have := HSZ.out; have h32_ : (⟨#[32]⟩ : ByteArray).size = 1 := rfl; simp [sb_len]; have := HRS.out; omega)).mono ?_; rintro e w5 ⟨rfl, hP5, hK5⟩))
      (try simp only [Exit.inBlock, Exit.then])
      refine bodyPost_end (results_none rfl _ _ _) rfl ?_
      refine ⟨rfl, ?_, (hK3.trans hK4).trans hK5⟩
      rw [sb_app] at hP5
      have e32 : sb ⟨#[32]⟩ = [32] := rfl
      rw [e32] at hP5
      simpa using hP5
end Go.Proofs.YtnnnbeimehfiiaaDoor.Q
/-! mark.Write in plain Lean; what the walk needs of it. -/
set_option linter.unusedVariables false
set_option linter.unusedSimpArgs false
namespace Go.Proofs.YtnnnbeimehfiiaaDoor.Q
open Go Go.RowKit Go.Proofs.YtnnnbeimehfiiaaDoorW.PrintWords Go.Proofs.YtnnnbeimehfiiaaDoorW.SL
def wrReg (n : Nat) (s0 s1 s2 : ByteArray) (acc : List Int) (p : Pt) : List Int :=
  endNl (endNl (endNl (acc ++ mkLine 60 n s0 ++ p.s0) ++ mkLine 124 n s1 ++ p.s1) ++ mkLine 61 n ⟨#[]⟩ ++ p.s2) ++ mkLine 62 n s2
def wrPart (n : Nat) (s0 s1 s2 : ByteArray) (last : Bool) (acc : List Int) (p : Pt) : List Int :=
  if p.region then wrReg n s0 s1 s2 acc p else if last then acc ++ p.text else endNl (acc ++ p.text)
def wrAll (n : Nat) (s0 s1 s2 : ByteArray) : List Pt → List Int → List Int
  | [], acc => acc
  | p :: r, acc => wrAll n s0 s1 s2 r (wrPart n s0 s1 s2 r.isEmpty acc p)
def writeOf (n : Int) (s0 s1 s2 : ByteArray) (ps : List Pt) : List Int × Int :=
  if n ≥ 1 ∧ n ≤ 16777216 then (wrAll n.toNat s0 s1 s2 ps [], 0) else ([], 1)
theorem endNl_le (l : List Int) : (endNl l).length ≤ l.length + 1 := by
  rcases List.eq_nil_or_concat l with rfl | ⟨r, x, h⟩
  · simp [endNl_nil]
  · have h2 : l = r ++ [x] := by simpa using h
    subst h2
    rw [endNl_snoc]
    split <;> simp
theorem mkLine_le (x : UInt8) (n : Nat) (s : ByteArray) : (mkLine x n s).length ≤ n + 202 := by
  have h1 := labB_size s
  have h2 := sb_len (labB s)
  unfold mkLine
  split <;> simp <;> omega
theorem wrAll_next {n : Nat} {s0 s1 s2 : ByteArray} {ps : List Pt} {i : Nat} {p : Pt} {acc R : List Int} (h : wrAll n s0 s1 s2 (ps.drop i) acc = R) (hp : ps[i]? = some p) : wrAll n s0 s1 s2 (ps.drop (i + 1)) (wrPart n s0 s1 s2 (decide (i + 1 = ps.length)) acc p) = R := by
  have hlt := (List.getElem?_eq_some_iff.1 hp).1
  have hpe := (List.getElem?_eq_some_iff.1 hp).2
  rw [List.drop_eq_getElem_cons hlt, hpe] at h
  rw [← h]
  show _ = wrAll n s0 s1 s2 (ps.drop (i + 1)) (wrPart n s0 s1 s2 (ps.drop (i + 1)).isEmpty acc p)
  congr 2
  by_cases hi : i + 1 = ps.length
  · rw [List.drop_of_length_le (by omega)]; simp [hi]
  · have : ps.drop (i + 1) ≠ [] := by intro h; have := congrArg List.length h; simp at this; omega
    cases hd : ps.drop (i + 1) with
    | nil => exact absurd hd this
    | cons a r => simp [hi]
/-- The box of the part in hand: five cells. -/
def BoxP (g : Nat) (cs : Array Value) (w : World) : Prop := w.heap[g]? = some (.cells cs 50 (0, 0))
theorem BoxP.keep {g : Nat} {cs : Array Value} {w w' : World} (h : BoxP g cs w) (hb : Below w.heap.size w w') : BoxP g cs w' := by
  unfold BoxP at *
  rw [hb.block g (Array.getElem?_eq_some_iff.1 h).1]; exact h
theorem BoxP.pk {g B pb : Nat} {cs : Array Value} {w w' : World} (h : BoxP g cs w) (hg : g ≠ pb) (hk : Pk B pb w w') : BoxP g cs w' :=
  hk.2 g _ h (by intro e; injection e with e; exact hg e) (by intro c fz e; injection e with _ e _; exact absurd e (by decide))
theorem BoxP.cells {g : Nat} {a b c d e : Value} {w : World} (h : BoxP g #[a, b, c, d, e] w) : w.cell? ⟨g, 0, none⟩ = some a ∧ w.cell? ⟨g, 1, none⟩ = some b ∧ w.cell? ⟨g, 2, none⟩ = some c ∧ w.cell? ⟨g, 3, none⟩ = some d ∧ w.cell? ⟨g, 4, none⟩ = some e :=
  ⟨(blk_cell h 0).trans rfl, (blk_cell h 1).trans rfl, (blk_cell h 2).trans rfl, (blk_cell h 3).trans rfl, (blk_cell h 4).trans rfl⟩
theorem row_apart {w : World} {A : Option Addr} {xs : List Int} {m pb : Nat} (h : Kd.F B8 w (fun k => k < m) A xs.length xs) (hm : m ≤ pb) : xs ≠ [] → ∀ a, A = some a → a.block ≠ pb := by
  intro hx a ha
  subst ha
  have hl : 0 < xs.length := by cases xs with | nil => exact absurd rfl hx | cons _ _ => simp
  obtain ⟨a', cs, e, _, _, _, hok⟩ := Kd.F_get h 0 (0 : Int) (by omega) (by omega)
  injection e with e
  subst e
  have := hok (by decide)
  omega
/-- A page with a bound of its length. -/
def Pq (pb m : Nat) (l : List Int) (w : World) : Prop := Pg pb pb l w ∧ pb ≤ w.heap.size ∧ l.length ≤ m
theorem marker_st {pb m : Nat} {l : List Int} {w : World} (h : Pq pb m l w) (x : UInt8) (n : Nat) (s : ByteArray) (hn : n ≤ 16777216) (hs : s.size ≤ 9223372036854775807) (hm : m + 16777600 ≤ 140737488355328) :
    Calls Tryd.prog 36 #[.pointer (some ⟨pb, 0, none⟩), .string ⟨#[x]⟩, .int .i64 (n : Int), .string s] w fun e w' => e = .returned (.tuple #[]) ∧ Pq pb (m + 16777418) (l ++ mkLine x n s) w' ∧ Pk pb pb w w' := by
  refine (marker_calls pb pb l x n s w h.1 h.2.1 hn hs (by have := h.2.2; omega)).mono ?_
  rintro e w' ⟨rfl, h1, h2⟩
  exact ⟨rfl, ⟨h1, Nat.le_trans h.2.1 h2.size, by have := h.2.2; have := mkLine_le x n s; simp; omega⟩, h2⟩
theorem lines_st {pb m : Nat} {l : List Int} {w : World} (h : Pq pb m l w) (x : List Int) (A : Option Addr) (c : Nat) (hx : Kd.C B8 w A x.length x) (hA : x ≠ [] → ∀ a, A = some a → a.block ≠ pb) (hl : x.length ≤ 5000000) (hm : m + 5000001 ≤ 140737488355328) :
    Calls Tryd.prog 37 #[.pointer (some ⟨pb, 0, none⟩), .slice A x.length c] w fun e w' => e = .returned (.tuple #[]) ∧ Pq pb (m + 5000001) (endNl (l ++ x)) w' ∧ Pk pb pb w w' := by
  refine (lines_calls pb pb l x A c w h.1 h.2.1 hx hA (by have := h.2.2; omega)).mono ?_
  rintro e w' ⟨rfl, h1, h2⟩
  exact ⟨rfl, ⟨h1, Nat.le_trans h.2.1 h2.size, by have := h.2.2; have := endNl_le (l ++ x); simp at this ⊢; omega⟩, h2⟩
theorem write_st {pb m : Nat} {l : List Int} {w : World} (h : Pq pb m l w) (x : List Int) (A : Option Addr) (c : Nat) (hx : Kd.C B8 w A x.length x) (hA : x ≠ [] → ∀ a, A = some a → a.block ≠ pb) (hl : x.length ≤ 5000000) (hm : m + 5000001 ≤ 140737488355328) :
    Calls Tryd.prog 34 #[.pointer (some ⟨pb, 0, none⟩), .slice A x.length c] w fun e w' => e = .returned (.tuple #[.int .i64 (x.length : Int), .nilIface]) ∧ Pq pb (m + 5000001) (l ++ x) w' ∧ Pk pb pb w w' := by
  refine (pg_write pb pb l x A c w h.1 h.2.1 hx hA (by have := h.2.2; omega)).mono ?_
  rintro e w' ⟨rfl, h1, h2⟩
  exact ⟨rfl, ⟨h1, Nat.le_trans h.2.1 h2.size, by have := h.2.2; simp; omega⟩, h2⟩
theorem shut_st {pb m : Nat} {l : List Int} {w : World} (h : Pq pb m l w) (hm : m + 5000001 ≤ 140737488355328) :
    Calls Tryd.prog 35 #[.pointer (some ⟨pb, 0, none⟩)] w fun e w' => e = .returned (.tuple #[]) ∧ Pq pb (m + 1) (endNl l) w' ∧ Pk pb pb w w' := by
  refine (shut_calls pb pb l w h.1 h.2.1 (by have := h.2.2; omega)).mono ?_
  rintro e w' ⟨rfl, h1, h2⟩
  exact ⟨rfl, ⟨h1, Nat.le_trans h.2.1 h2.size, by have := h.2.2; have := endNl_le l; omega⟩, h2⟩
/-- What a round reads: the labels, the part in hand, the part's rows. -/
structure Rd3 (w wA w1 : World) (pb lb g : Nat) (s0 s1 s2 : ByteArray) (p : Pt) (A1 A2 A3 A4 : Option Addr) (c1 c2 c3 c4 : Nat) (W : World) : Prop where
  l0 : W.cell? ⟨lb, 0, none⟩ = some (.string s0)
  l1 : W.cell? ⟨lb, 1, none⟩ = some (.string s1)
  l2 : W.cell? ⟨lb, 2, none⟩ = some (.string s2)
  b0 : W.cell? ⟨g, 0, none⟩ = some (.bool p.region)
  b1 : W.cell? ⟨g, 1, none⟩ = some (.slice A1 p.text.length c1)
  b2 : W.cell? ⟨g, 2, none⟩ = some (.slice A2 p.s0.length c2)
  b3 : W.cell? ⟨g, 3, none⟩ = some (.slice A3 p.s1.length c3)
  b4 : W.cell? ⟨g, 4, none⟩ = some (.slice A4 p.s2.length c4)
  h1 : Kd.C B8 W A1 p.text.length p.text
  h2 : Kd.C B8 W A2 p.s0.length p.s0
  h3 : Kd.C B8 W A3 p.s1.length p.s1
  h4 : Kd.C B8 W A4 p.s2.length p.s2
  bA : Below pb wA W
theorem Rd3.of {w wA w1 : World} {pb lb g : Nat} {s0 s1 s2 : ByteArray} {p : Pt} {A1 A2 A3 A4 : Option Addr} {c1 c2 c3 c4 : Nat} (hl : wA.heap[lb]? = some (.cells #[.string s0, .string s1, .string s2] 39 (0, 0))) (hlb : lb < pb)
    (hbx : BoxP g #[.bool p.region, .slice A1 p.text.length c1, .slice A2 p.s0.length c2, .slice A3 p.s1.length c3, .slice A4 p.s2.length c4] w1) (hg : g ≠ pb) (hwp : w.heap.size ≤ pb) (h1 : Below pb wA w1)
    (g1 : Kd.F B8 w1 (fun k => k < w.heap.size) A1 p.text.length p.text) (g2 : Kd.F B8 w1 (fun k => k < w.heap.size) A2 p.s0.length p.s0) (g3 : Kd.F B8 w1 (fun k => k < w.heap.size) A3 p.s1.length p.s1) (g4 : Kd.F B8 w1 (fun k => k < w.heap.size) A4 p.s2.length p.s2) :
    ∀ W, Pk pb pb w1 W → Rd3 w wA w1 pb lb g s0 s1 s2 p A1 A2 A3 A4 c1 c2 c3 c4 W := fun W hk => by
  have hW : Below pb wA W := h1.trans hk.1
  have hL := (hW.block lb hlb).trans hl
  have hB := (hbx.pk hg hk).cells
  have st : ∀ k, k < w.heap.size → W.heap[k]? = w1.heap[k]? := fun k hk2 => hk.1.block k (by omega)
  exact ⟨(blk_cell hL 0).trans rfl, (blk_cell hL 1).trans rfl, (blk_cell hL 2).trans rfl, hB.1, hB.2.1, hB.2.2.1, hB.2.2.2.1, hB.2.2.2.2, Kd.F_now (Kd.F_step g1 (fun k hk _ => st k hk)), Kd.F_now (Kd.F_step g2 (fun k hk _ => st k hk)), Kd.F_now (Kd.F_step g3 (fun k hk _ => st k hk)), Kd.F_now (Kd.F_step g4 (fun k hk _ => st k hk)), hW⟩
end Go.Proofs.YtnnnbeimehfiiaaDoor.Q
-- Written by a program of this session (wip/gen_write.py) for this claim; Lean checks it.
/-! mark.Write, walked. -/
set_option linter.unusedVariables false
set_option linter.unusedSimpArgs false
namespace Go.Proofs.YtnnnbeimehfiiaaDoor.Q
open Go Go.RowKit Go.Proofs.YtnnnbeimehfiiaaDoorW.PrintWords Go.Proofs.YtnnnbeimehfiiaaDoorW.PrintLast Go.Proofs.YtnnnbeimehfiiaaDoorW.PrintMore Go.Proofs.YtnnnbeimehfiiaaDoorW.SL
attribute [local go_sem] max2_int min2_int max_two min_two max_three min_three max_four min_four
set_option maxHeartbeats 16000000 in
set_option maxRecDepth 100000 in
theorem Write_calls (n : Int) (s0 s1 s2 : ByteArray) (A : Option Addr) (c : Nat) (ps : List Pt) (w : World) (hr : Kd.C kP w A ps.length ps) (hc : ps.length ≤ c) (hps : ps.length ≤ 1000) (hf : ∀ p ∈ ps, p.text.length ≤ 5000000 ∧ p.s0.length ≤ 5000000 ∧ p.s1.length ≤ 5000000 ∧ p.s2.length ≤ 5000000)
    (hs0 : s0.size ≤ 9223372036854775807) (hs1 : s1.size ≤ 9223372036854775807) (hs2 : s2.size ≤ 9223372036854775807) :
    Calls Tryd.prog 19 #[.int .i64 n, .agg #[.string s0, .string s1, .string s2], .slice A ps.length c] w fun e w' => ∃ (A' : Option Addr) (c' : Nat), e = .returned (.tuple #[.slice A' (writeOf n s0 s1 s2 ps).1.length c', .int .i64 (writeOf n s0 s1 s2 ps).2]) ∧ (writeOf n s0 s1 s2 ps).1.length ≤ c' ∧ Kd.C B8 w' A' (writeOf n s0 s1 s2 ps).1.length (writeOf n s0 s1 s2 ps).1 ∧ Below w.heap.size w w' := by
 have HX := Aside0.mk (Kd.C_F kP_heap hr)
 have HC := Aside0.mk hc; have HPS := Aside0.mk hps; have HF := Aside0.mk hf; have HS0 := Aside0.mk hs0; have HS1 := Aside0.mk hs1; have HS2 := Aside0.mk hs2
 clear hr hc hps hf hs0 hs1 hs2
 by_cases hn : n ≥ 1 ∧ n ≤ 16777216
 · have hright : mark_right.f n = some true := by unfold mark_right.f; rw [if_pos hn.1]; simp [hn.2]
   obtain ⟨N, hN⟩ := Int.eq_ofNat_of_zero_le (by omega : 0 ≤ n)
   have hN1 : 1 ≤ N := by omega
   have hN2 : N ≤ 16777216 := by omega
   have hres : writeOf n s0 s1 s2 ps = (wrAll N s0 s1 s2 ps [], 0) := by unfold writeOf; rw [if_pos hn, hN]; rfl
   obtain ⟨R, hR⟩ : ∃ R, wrAll N s0 s1 s2 ps [] = R := ⟨_, rfl⟩
   rw [hres, hR]
   have HRT := Aside0.mk hright
   clear hres hn hright
   subst hN
   replace hR := Aside0.mk hR
   replace hN1 := Aside0.mk hN1
   replace hN2 := Aside0.mk hN2
   go_enter Tryd.func19, Tryd.ntmps19
   go_wp2_with (go_at_call 24; refine (mark_right.calls _ true _ HRT.out).mono ?_; rintro e w2 ⟨rfl, hb1⟩; replace hb1 := drawn_below hb1)
   have hlt2 : w.heap.size < w2.heap.size := by have := hb1.size; simp at this; omega
   have hbA0 : Below w.heap.size w w2 := (below_alloc (Below.refl _ _) _).trans (below_lo hb1 (by simp))
   have hlb : w2.heap[w.heap.size]? = some (.cells #[.string s0, .string s1, .string s2] 39 (0, 0)) := (hb1.block _ (by simp)).trans (heap_alloc_new w _)
   obtain ⟨pb, hpb⟩ : ∃ pb, pb = w2.heap.size := ⟨_, rfl⟩
   obtain ⟨lb, hlb0⟩ : ∃ lb, lb = w.heap.size := ⟨_, rfl⟩
   obtain ⟨wA, hwA⟩ : ∃ wA, wA = w2.alloc (Obj.cells #[Value.slice none 0 0, Value.int IntKind.i64 0, Value.int IntKind.i8 0] 73) := ⟨_, rfl⟩
   have hPg0 : Pg pb pb [] wA := LibA.zero_isBuffer (Nat.le_refl _) (LibA.three_whole (by rw [hwA, hpb]; exact heap_alloc_new w2 _))
   have hbA : Below w.heap.size w wA := by rw [hwA]; exact hbA0.trans (below_lo (below_alloc (Below.refl _ _) _) hbA0.size)
   have hlbA : wA.heap[lb]? = some (.cells #[.string s0, .string s1, .string s2] 39 (0, 0)) := by rw [hwA, hlb0]; exact ((below_alloc (Below.refl w2.heap.size w2) _).block _ hlt2).trans hlb
   have hsA : pb < wA.heap.size := by rw [hwA, hpb]; simp
   have hpw : w.heap.size ≤ pb ∧ lb < pb := by omega
   rw [← hpb, ← hwA, ← hlb0]
   have HA := Aside0.mk (⟨hPg0, hbA, hlbA, hsA, hpw⟩ : _ ∧ _ ∧ _ ∧ _ ∧ _)
   clear hlt2 hbA0 hlb hPg0 hbA hlbA hsA hpw hwA hpb hb1 hlb0
   go_loopg [16] ps.length (fun kq v16 W => ∃ (ii : Int) (i : Nat) (acc : List Int), v16 = .int .i64 ii ∧ Aside0 (ii = (i : Int)) ∧ i ≤ ps.length ∧ kq = ps.length - i ∧ Aside0 (wrAll N s0 s1 s2 (ps.drop i) acc = R) ∧ Aside0 (acc.length ≤ i * 200000000) ∧ Aside0 (Pg pb pb acc W ∧ Below pb wA W))
   case atStart => exact ⟨0, 0, [], rfl, ⟨rfl⟩, Nat.zero_le _, rfl, hR, ⟨Nat.le_refl _⟩, ⟨HA.out.1, Below.refl _ _⟩⟩
   case round =>
    obtain ⟨ii, i, acc, rfl, hii, hi, hgk, hall, hal, hI⟩ := hrel
    obtain ⟨wb, rfl⟩ : ∃ q, q = wr := ⟨_, rfl⟩
    by_cases hin : ii < (ps.length : Int)
    · have p0 : 0 ≤ ii := by have := hii.out; omega
      have hbw : Below w.heap.size w wb := HA.out.2.1.trans (below_lo hI.out.2 HA.out.2.2.2.2.1)
      obtain ⟨ad, x, A1, c1, A2, c2, A3, c3, A4, c4, rfl, hxi, hok, hx0, hx1, hx2, hx3, hx4, g1, g2, g3, g4⟩ := at_Pt (Kd.F_step HX.out (fun k hk _ => hbw.block k hk)) ii p0 hin
      have e0 : ii.toNat = i := by have := hii.out; omega
      rw [e0] at hxi
      have hxm := HF.out x (List.mem_of_getElem? hxi)
      have hsz : wA.heap.size ≤ wb.heap.size := hI.out.2.size
      have hg : pb < wb.heap.size := Nat.lt_of_lt_of_le HA.out.2.2.2.1 hsz
      have hw1 : wrap64 (ii + 1) = ii + 1 := by have := hii.out; have := HPS.out; unfold wrap64; omega
      have hw2 : wrap64 ((ps.length : Int) - 1) = (ps.length : Int) - 1 := by have := HPS.out; unfold wrap64; omega
      have G := Aside0.mk (⟨g1, g2, g3, g4, hxi, hxm, hg, hi, hgk⟩ : _ ∧ _ ∧ _ ∧ _ ∧ _ ∧ _ ∧ _ ∧ _ ∧ _)
      have hinb := eq_true hin
      have p0b := eq_true p0
      obtain ⟨rg, T, S0, S1, S2⟩ := x
      simp only at hx0 hx1 hx2 hx3 hx4
      replace e0 := Aside0.mk e0
      have hbw' := Aside0.mk hbw
      clear g1 g2 g3 g4 hxi hok hxm hsz hg hbw hi hgk
      cases rg with
      | false =>
        by_cases hlast : i + 1 = ps.length
        · have hcl := eq_false (show ¬ ii < (ps.length : Int) - 1 by have := hii.out; omega)
          have hcl2 := eq_true (show (ps.length : Int) - 1 ≤ ii by have := hii.out; omega)
          have hnext : wrAll N s0 s1 s2 (ps.drop (i + 1)) (acc ++ T) = R := by
            have := wrAll_next hall.out G.out.2.2.2.2.1
            simpa [wrPart, hlast] using this
          replace hnext := Aside0.mk hnext
          go_upto_region 7 with (fail)
          have FACT := Aside0.mk (Rd3.of (w := w) (wA := wA) (lb := lb) (g := wb.heap.size) (p := ⟨false, T, S0, S1, S2⟩) HA.out.2.2.1 HA.out.2.2.2.2.2 (heap_alloc_new wb _) (by have := G.out.2.2.2.2.2.2.1; omega) HA.out.2.2.2.2.1 (hI.out.2.trans (below_lo (below_alloc (Below.refl _ _) (Obj.cells #[Value.bool false, Value.slice A1 T.length c1, Value.slice A2 S0.length c2, Value.slice A3 S1.length c3, Value.slice A4 S2.length c4] 50)) (by have := G.out.2.2.2.2.2.2.1; omega)))
            (Kd.F_step G.out.1.2 (fun k hk hl => (below_alloc (Below.refl wb.heap.size wb) _).block k hl)) (Kd.F_step G.out.2.1.2 (fun k hk hl => (below_alloc (Below.refl wb.heap.size wb) _).block k hl)) (Kd.F_step G.out.2.2.1.2 (fun k hk hl => (below_alloc (Below.refl wb.heap.size wb) _).block k hl)) (Kd.F_step G.out.2.2.2.1.2 (fun k hk hl => (below_alloc (Below.refl wb.heap.size wb) _).block k hl)))
          have P : Aside0 (Pq pb (i * 200000000) acc (wb.alloc (Obj.cells #[Value.bool false, Value.slice A1 T.length c1, Value.slice A2 S0.length c2, Value.slice A3 S1.length c3, Value.slice A4 S2.length c4] 50))) := ⟨hI.out.1.below (below_alloc (Below.refl _ _) _), by have := G.out.2.2.2.2.2.2.1; simp; omega, hal.out⟩
          have hi3 : i ≤ 1000 := Nat.le_trans G.out.2.2.2.2.2.2.2.1 HPS.out
          generalize wb.alloc (Obj.cells #[Value.bool false, Value.slice A1 T.length c1, Value.slice A2 S0.length c2, Value.slice A3 S1.length c3, Value.slice A4 S2.length c4] 50) = w1 at FACT P ⊢
          have K := Aside0.mk (Pk.refl pb pb w1)
          have FX := Aside0.mk (FACT.out _ K.out)
          have fl0 := FX.out.l0
          have fl1 := FX.out.l1
          have fl2 := FX.out.l2
          have fb0 := FX.out.b0
          have fb1 := FX.out.b1
          have fb2 := FX.out.b2
          have fb3 := FX.out.b3
          have fb4 := FX.out.b4
          simp only at fb0 fb1 fb2 fb3 fb4
          clear hx0 hx1 hx2 hx3 hx4
          go_wp2_with (first | (go_at_call 36; refine (marker_st P.out _ N _ hN2.out (by first | exact HS0.out | exact HS1.out | exact HS2.out | decide) (by omega)).mono ?_; rintro e wN ⟨rfl, hp, hk⟩; replace K := Aside0.mk (K.out.trans hk); replace P := Aside0.mk hp; replace FX := Aside0.mk (FACT.out _ K.out); clear hp hk; clear fl0 fl1 fl2 fb0 fb1 fb2 fb3 fb4; have fl0 := FX.out.l0; have fl1 := FX.out.l1; have fl2 := FX.out.l2; have fb0 := FX.out.b0; have fb1 := FX.out.b1; have fb2 := FX.out.b2; have fb3 := FX.out.b3; have fb4 := FX.out.b4; simp only at fb0 fb1 fb2 fb3 fb4) | (go_at_call 37; refine (lines_st P.out _ _ _ (by first | exact FX.out.h2 | exact FX.out.h3 | exact FX.out.h4) (by first | exact row_apart G.out.2.1.2 HA.out.2.2.2.2.1 | exact row_apart G.out.2.2.1.2 HA.out.2.2.2.2.1 | exact row_apart G.out.2.2.2.1.2 HA.out.2.2.2.2.1) (by have := G.out.2.2.2.2.2.1; first | exact this.2.1 | exact this.2.2.1 | exact this.2.2.2) (by omega)).mono ?_; rintro e wN ⟨rfl, hp, hk⟩; replace K := Aside0.mk (K.out.trans hk); replace P := Aside0.mk hp; replace FX := Aside0.mk (FACT.out _ K.out); clear hp hk; clear fl0 fl1 fl2 fb0 fb1 fb2 fb3 fb4; have fl0 := FX.out.l0; have fl1 := FX.out.l1; have fl2 := FX.out.l2; have fb0 := FX.out.b0; have fb1 := FX.out.b1; have fb2 := FX.out.b2; have fb3 := FX.out.b3; have fb4 := FX.out.b4; simp only at fb0 fb1 fb2 fb3 fb4) | (go_at_call 34; refine (write_st P.out _ _ _ FX.out.h1 (row_apart G.out.1.2 HA.out.2.2.2.2.1) G.out.2.2.2.2.2.1.1 (by omega)).mono ?_; rintro e wN ⟨rfl, hp, hk⟩; replace K := Aside0.mk (K.out.trans hk); replace P := Aside0.mk hp; replace FX := Aside0.mk (FACT.out _ K.out); clear hp hk; clear fl0 fl1 fl2 fb0 fb1 fb2 fb3 fb4; have fl0 := FX.out.l0; have fl1 := FX.out.l1; have fl2 := FX.out.l2; have fb0 := FX.out.b0; have fb1 := FX.out.b1; have fb2 := FX.out.b2; have fb3 := FX.out.b3; have fb4 := FX.out.b4; simp only at fb0 fb1 fb2 fb3 fb4) | (go_at_call 35; refine (shut_st P.out (by omega)).mono ?_; rintro e wN ⟨rfl, hp, hk⟩; replace K := Aside0.mk (K.out.trans hk); replace P := Aside0.mk hp; replace FX := Aside0.mk (FACT.out _ K.out); clear hp hk; clear fl0 fl1 fl2 fb0 fb1 fb2 fb3 fb4; have fl0 := FX.out.l0; have fl1 := FX.out.l1; have fl2 := FX.out.l2; have fb0 := FX.out.b0; have fb1 := FX.out.b1; have fb2 := FX.out.b2; have fb3 := FX.out.b3; have fb4 := FX.out.b4; simp only at fb0 fb1 fb2 fb3 fb4))
          go_roundg (ps.length - (i + 1))
          case rel => exact ⟨wrap64 (ii + 1), i + 1, _, by first | rfl | (simp; done) | (simp [hw1]; done), ⟨by rw [hw1]; have := hii.out; omega⟩, by have := hii.out; omega, rfl, Aside0.mk hnext.out, ⟨Nat.le_trans P.out.2.2 (by omega)⟩, ⟨P.out.1, FX.out.bA⟩⟩
          case measure => have := hii.out; have := G.out.2.2.2.2.2.2.2.2; omega
        · have hcl := eq_true (show ii < (ps.length : Int) - 1 by have := hii.out; omega)
          have hnext : wrAll N s0 s1 s2 (ps.drop (i + 1)) (endNl (acc ++ T)) = R := by
            have := wrAll_next hall.out G.out.2.2.2.2.1
            simpa [wrPart, hlast] using this
          replace hnext := Aside0.mk hnext
          go_upto_region 7 with (fail)
          have FACT := Aside0.mk (Rd3.of (w := w) (wA := wA) (lb := lb) (g := wb.heap.size) (p := ⟨false, T, S0, S1, S2⟩) HA.out.2.2.1 HA.out.2.2.2.2.2 (heap_alloc_new wb _) (by have := G.out.2.2.2.2.2.2.1; omega) HA.out.2.2.2.2.1 (hI.out.2.trans (below_lo (below_alloc (Below.refl _ _) (Obj.cells #[Value.bool false, Value.slice A1 T.length c1, Value.slice A2 S0.length c2, Value.slice A3 S1.length c3, Value.slice A4 S2.length c4] 50)) (by have := G.out.2.2.2.2.2.2.1; omega)))
            (Kd.F_step G.out.1.2 (fun k hk hl => (below_alloc (Below.refl wb.heap.size wb) _).block k hl)) (Kd.F_step G.out.2.1.2 (fun k hk hl => (below_alloc (Below.refl wb.heap.size wb) _).block k hl)) (Kd.F_step G.out.2.2.1.2 (fun k hk hl => (below_alloc (Below.refl wb.heap.size wb) _).block k hl)) (Kd.F_step G.out.2.2.2.1.2 (fun k hk hl => (below_alloc (Below.refl wb.heap.size wb) _).block k hl)))
          have P : Aside0 (Pq pb (i * 200000000) acc (wb.alloc (Obj.cells #[Value.bool false, Value.slice A1 T.length c1, Value.slice A2 S0.length c2, Value.slice A3 S1.length c3, Value.slice A4 S2.length c4] 50))) := ⟨hI.out.1.below (below_alloc (Below.refl _ _) _), by have := G.out.2.2.2.2.2.2.1; simp; omega, hal.out⟩
          have hi3 : i ≤ 1000 := Nat.le_trans G.out.2.2.2.2.2.2.2.1 HPS.out
          generalize wb.alloc (Obj.cells #[Value.bool false, Value.slice A1 T.length c1, Value.slice A2 S0.length c2, Value.slice A3 S1.length c3, Value.slice A4 S2.length c4] 50) = w1 at FACT P ⊢
          have K := Aside0.mk (Pk.refl pb pb w1)
          have FX := Aside0.mk (FACT.out _ K.out)
          have fl0 := FX.out.l0
          have fl1 := FX.out.l1
          have fl2 := FX.out.l2
          have fb0 := FX.out.b0
          have fb1 := FX.out.b1
          have fb2 := FX.out.b2
          have fb3 := FX.out.b3
          have fb4 := FX.out.b4
          simp only at fb0 fb1 fb2 fb3 fb4
          clear hx0 hx1 hx2 hx3 hx4
          go_wp2_with (first | (go_at_call 36; refine (marker_st P.out _ N _ hN2.out (by first | exact HS0.out | exact HS1.out | exact HS2.out | decide) (by omega)).mono ?_; rintro e wN ⟨rfl, hp, hk⟩; replace K := Aside0.mk (K.out.trans hk); replace P := Aside0.mk hp; replace FX := Aside0.mk (FACT.out _ K.out); clear hp hk; clear fl0 fl1 fl2 fb0 fb1 fb2 fb3 fb4; have fl0 := FX.out.l0; have fl1 := FX.out.l1; have fl2 := FX.out.l2; have fb0 := FX.out.b0; have fb1 := FX.out.b1; have fb2 := FX.out.b2; have fb3 := FX.out.b3; have fb4 := FX.out.b4; simp only at fb0 fb1 fb2 fb3 fb4) | (go_at_call 37; refine (lines_st P.out _ _ _ (by first | exact FX.out.h2 | exact FX.out.h3 | exact FX.out.h4) (by first | exact row_apart G.out.2.1.2 HA.out.2.2.2.2.1 | exact row_apart G.out.2.2.1.2 HA.out.2.2.2.2.1 | exact row_apart G.out.2.2.2.1.2 HA.out.2.2.2.2.1) (by have := G.out.2.2.2.2.2.1; first | exact this.2.1 | exact this.2.2.1 | exact this.2.2.2) (by omega)).mono ?_; rintro e wN ⟨rfl, hp, hk⟩; replace K := Aside0.mk (K.out.trans hk); replace P := Aside0.mk hp; replace FX := Aside0.mk (FACT.out _ K.out); clear hp hk; clear fl0 fl1 fl2 fb0 fb1 fb2 fb3 fb4; have fl0 := FX.out.l0; have fl1 := FX.out.l1; have fl2 := FX.out.l2; have fb0 := FX.out.b0; have fb1 := FX.out.b1; have fb2 := FX.out.b2; have fb3 := FX.out.b3; have fb4 := FX.out.b4; simp only at fb0 fb1 fb2 fb3 fb4) | (go_at_call 34; refine (write_st P.out _ _ _ FX.out.h1 (row_apart G.out.1.2 HA.out.2.2.2.2.1) G.out.2.2.2.2.2.1.1 (by omega)).mono ?_; rintro e wN ⟨rfl, hp, hk⟩; replace K := Aside0.mk (K.out.trans hk); replace P := Aside0.mk hp; replace FX := Aside0.mk (FACT.out _ K.out); clear hp hk; clear fl0 fl1 fl2 fb0 fb1 fb2 fb3 fb4; have fl0 := FX.out.l0; have fl1 := FX.out.l1; have fl2 := FX.out.l2; have fb0 := FX.out.b0; have fb1 := FX.out.b1; have fb2 := FX.out.b2; have fb3 := FX.out.b3; have fb4 := FX.out.b4; simp only at fb0 fb1 fb2 fb3 fb4) | (go_at_call 35; refine (shut_st P.out (by omega)).mono ?_; rintro e wN ⟨rfl, hp, hk⟩; replace K := Aside0.mk (K.out.trans hk); replace P := Aside0.mk hp; replace FX := Aside0.mk (FACT.out _ K.out); clear hp hk; clear fl0 fl1 fl2 fb0 fb1 fb2 fb3 fb4; have fl0 := FX.out.l0; have fl1 := FX.out.l1; have fl2 := FX.out.l2; have fb0 := FX.out.b0; have fb1 := FX.out.b1; have fb2 := FX.out.b2; have fb3 := FX.out.b3; have fb4 := FX.out.b4; simp only at fb0 fb1 fb2 fb3 fb4))
          go_roundg (ps.length - (i + 1))
          case rel => exact ⟨wrap64 (ii + 1), i + 1, _, by first | rfl | (simp; done) | (simp [hw1]; done), ⟨by rw [hw1]; have := hii.out; omega⟩, by have := hii.out; omega, rfl, Aside0.mk hnext.out, ⟨Nat.le_trans P.out.2.2 (by omega)⟩, ⟨P.out.1, FX.out.bA⟩⟩
          case measure => have := hii.out; have := G.out.2.2.2.2.2.2.2.2; omega
      | true =>
        have hnext : wrAll N s0 s1 s2 (ps.drop (i + 1)) (wrReg N s0 s1 s2 acc ⟨true, T, S0, S1, S2⟩) = R := by
          have := wrAll_next hall.out G.out.2.2.2.2.1
          simpa [wrPart] using this
        replace hnext := Aside0.mk hnext
        unfold wrReg at hnext
        go_upto_region 7 with (fail)
        have FACT := Aside0.mk (Rd3.of (w := w) (wA := wA) (lb := lb) (g := wb.heap.size) (p := ⟨true, T, S0, S1, S2⟩) HA.out.2.2.1 HA.out.2.2.2.2.2 (heap_alloc_new wb _) (by have := G.out.2.2.2.2.2.2.1; omega) HA.out.2.2.2.2.1 (hI.out.2.trans (below_lo (below_alloc (Below.refl _ _) (Obj.cells #[Value.bool true, Value.slice A1 T.length c1, Value.slice A2 S0.length c2, Value.slice A3 S1.length c3, Value.slice A4 S2.length c4] 50)) (by have := G.out.2.2.2.2.2.2.1; omega)))
          (Kd.F_step G.out.1.2 (fun k hk hl => (below_alloc (Below.refl wb.heap.size wb) _).block k hl)) (Kd.F_step G.out.2.1.2 (fun k hk hl => (below_alloc (Below.refl wb.heap.size wb) _).block k hl)) (Kd.F_step G.out.2.2.1.2 (fun k hk hl => (below_alloc (Below.refl wb.heap.size wb) _).block k hl)) (Kd.F_step G.out.2.2.2.1.2 (fun k hk hl => (below_alloc (Below.refl wb.heap.size wb) _).block k hl)))
        have P : Aside0 (Pq pb (i * 200000000) acc (wb.alloc (Obj.cells #[Value.bool true, Value.slice A1 T.length c1, Value.slice A2 S0.length c2, Value.slice A3 S1.length c3, Value.slice A4 S2.length c4] 50))) := ⟨hI.out.1.below (below_alloc (Below.refl _ _) _), by have := G.out.2.2.2.2.2.2.1; simp; omega, hal.out⟩
        have hi3 : i ≤ 1000 := Nat.le_trans G.out.2.2.2.2.2.2.2.1 HPS.out
        generalize wb.alloc (Obj.cells #[Value.bool true, Value.slice A1 T.length c1, Value.slice A2 S0.length c2, Value.slice A3 S1.length c3, Value.slice A4 S2.length c4] 50) = w1 at FACT P ⊢
        have K := Aside0.mk (Pk.refl pb pb w1)
        have FX := Aside0.mk (FACT.out _ K.out)
        have fl0 := FX.out.l0
        have fl1 := FX.out.l1
        have fl2 := FX.out.l2
        have fb0 := FX.out.b0
        have fb1 := FX.out.b1
        have fb2 := FX.out.b2
        have fb3 := FX.out.b3
        have fb4 := FX.out.b4
        simp only at fb0 fb1 fb2 fb3 fb4
        clear hx0 hx1 hx2 hx3 hx4
        go_wp2_with (first | (go_at_call 36; refine (marker_st P.out _ N _ hN2.out (by first | exact HS0.out | exact HS1.out | exact HS2.out | decide) (by omega)).mono ?_; rintro e wN ⟨rfl, hp, hk⟩; replace K := Aside0.mk (K.out.trans hk); replace P := Aside0.mk hp; replace FX := Aside0.mk (FACT.out _ K.out); clear hp hk; clear fl0 fl1 fl2 fb0 fb1 fb2 fb3 fb4; have fl0 := FX.out.l0; have fl1 := FX.out.l1; have fl2 := FX.out.l2; have fb0 := FX.out.b0; have fb1 := FX.out.b1; have fb2 := FX.out.b2; have fb3 := FX.out.b3; have fb4 := FX.out.b4; simp only at fb0 fb1 fb2 fb3 fb4) | (go_at_call 37; refine (lines_st P.out _ _ _ (by first | exact FX.out.h2 | exact FX.out.h3 | exact FX.out.h4) (by first | exact row_apart G.out.2.1.2 HA.out.2.2.2.2.1 | exact row_apart G.out.2.2.1.2 HA.out.2.2.2.2.1 | exact row_apart G.out.2.2.2.1.2 HA.out.2.2.2.2.1) (by have := G.out.2.2.2.2.2.1; first | exact this.2.1 | exact this.2.2.1 | exact this.2.2.2) (by omega)).mono ?_; rintro e wN ⟨rfl, hp, hk⟩; replace K := Aside0.mk (K.out.trans hk); replace P := Aside0.mk hp; replace FX := Aside0.mk (FACT.out _ K.out); clear hp hk; clear fl0 fl1 fl2 fb0 fb1 fb2 fb3 fb4; have fl0 := FX.out.l0; have fl1 := FX.out.l1; have fl2 := FX.out.l2; have fb0 := FX.out.b0; have fb1 := FX.out.b1; have fb2 := FX.out.b2; have fb3 := FX.out.b3; have fb4 := FX.out.b4; simp only at fb0 fb1 fb2 fb3 fb4) | (go_at_call 34; refine (write_st P.out _ _ _ FX.out.h1 (row_apart G.out.1.2 HA.out.2.2.2.2.1) G.out.2.2.2.2.2.1.1 (by omega)).mono ?_; rintro e wN ⟨rfl, hp, hk⟩; replace K := Aside0.mk (K.out.trans hk); replace P := Aside0.mk hp; replace FX := Aside0.mk (FACT.out _ K.out); clear hp hk; clear fl0 fl1 fl2 fb0 fb1 fb2 fb3 fb4; have fl0 := FX.out.l0; have fl1 := FX.out.l1; have fl2 := FX.out.l2; have fb0 := FX.out.b0; have fb1 := FX.out.b1; have fb2 := FX.out.b2; have fb3 := FX.out.b3; have fb4 := FX.out.b4; simp only at fb0 fb1 fb2 fb3 fb4) | (go_at_call 35; refine (shut_st P.out (by omega)).mono ?_; rintro e wN ⟨rfl, hp, hk⟩; replace K := Aside0.mk (K.out.trans hk); replace P := Aside0.mk hp; replace FX := Aside0.mk (FACT.out _ K.out); clear hp hk; clear fl0 fl1 fl2 fb0 fb1 fb2 fb3 fb4; have fl0 := FX.out.l0; have fl1 := FX.out.l1; have fl2 := FX.out.l2; have fb0 := FX.out.b0; have fb1 := FX.out.b1; have fb2 := FX.out.b2; have fb3 := FX.out.b3; have fb4 := FX.out.b4; simp only at fb0 fb1 fb2 fb3 fb4))
        go_roundg (ps.length - (i + 1))
        case rel => exact ⟨wrap64 (ii + 1), i + 1, _, by first | rfl | (simp; done) | (simp [hw1]; done), ⟨by rw [hw1]; have := hii.out; omega⟩, by have := hii.out; omega, rfl, Aside0.mk hnext.out, ⟨Nat.le_trans P.out.2.2 (by omega)⟩, ⟨P.out.1, FX.out.bA⟩⟩
        case measure => have := hii.out; have := G.out.2.2.2.2.2.2.2.2; omega
    · have hi' : i = ps.length := by have := hii.out; omega
      have hacc : acc = R := by have := hall.out; rw [hi', List.drop_of_length_le (Nat.le_refl _)] at this; exact this
      subst hacc
      have hlen : acc.length ≤ 140737488355328 := by have := hal.out; have := HPS.out; omega
      replace hlen := Aside0.mk hlen
      clear hi'
      go_wp2_with (go_at_call 38; refine (out_calls pb pb acc wb hI.out.1 hlen.out).mono ?_; rintro e w5 ⟨A5, c5, rfl, hc5, hC5, hb5⟩; have HH := Aside0.mk (⟨hc5, hC5, hb5⟩ : _ ∧ _ ∧ _); clear hc5 hC5 hb5)
      refine bodyPost_ret (results_tmp2 rfl _ _ _) rfl ?_
      refine ⟨A5, c5, rfl, HH.out.1, HH.out.2.1, ?_⟩
      have hbw : Below w.heap.size w wb := HA.out.2.1.trans (below_lo hI.out.2 HA.out.2.2.2.2.1)
      exact hbw.trans (below_lo HH.out.2.2 hbw.size)
 · have hright : mark_right.f n = some false := by
     unfold mark_right.f
     by_cases h : n ≥ 1
     · rw [if_pos h]; have : ¬ n ≤ 16777216 := fun h2 => hn ⟨h, h2⟩; simp [this]
     · rw [if_neg h]
   have hres : writeOf n s0 s1 s2 ps = ([], 1) := by unfold writeOf; rw [if_neg hn]
   rw [hres]
   clear hn hres
   go_enter Tryd.func19, Tryd.ntmps19
   go_wp2_with (go_at_call 24; refine (mark_right.calls _ false _ hright).mono ?_; rintro e w1 ⟨rfl, hb1⟩; replace hb1 := drawn_below hb1)
   refine bodyPost_ret (results_tmp2 rfl _ _ _) rfl ?_
   exact ⟨none, 0, rfl, Nat.zero_le _, Kd.C_nil B8 _, (below_alloc (Below.refl _ _) _).trans (below_lo hb1 (by simp))⟩
end Go.Proofs.YtnnnbeimehfiiaaDoor.Q
-- Written by a program of this session (wip/gen_read.py) for this claim; Lean checks it.
/-! mark.Read, walked. -/
set_option linter.unusedVariables false
set_option linter.unusedSimpArgs false
namespace Go.Proofs.YtnnnbeimehfiiaaDoor.Q
open Go Go.RowKit Go.Proofs.YtnnnbeimehfiiaaDoorW.PrintWords Go.Proofs.YtnnnbeimehfiiaaDoorW.PrintLast Go.Proofs.YtnnnbeimehfiiaaDoorW.PrintMore Go.Proofs.YtnnnbeimehfiiaaDoorW.SL
attribute [local go_sem] max2_int min2_int max_two min_two max_three min_three max_four min_four
def mread.T17 : Bool × List (List Nat × List Nat) := (true, [([], []), ([], []), ([], []), ([2], [2]), ([], []), ([], []), ([], []), ([6], [6]), ([4, 5], [4, 5]), ([8], [8]), ([9, 7], [7, 9]), ([10], [10]), ([], []), ([11, 12], [11, 12]), ([0, 1], [0, 1]), ([14], [14]), ([15, 3, 0, 1, 2, 3, 4, 5, 6, 7, 8, 9, 10, 11, 12, 13], [3, 15]), ([16, 13, 13, 0, 1, 2, 3, 4, 5, 6, 7, 8, 9, 10, 11, 12, 13], [13, 16])])
def mread.B17 : List Nat := [0, 0, 0, 4, 0, 0, 0, 64, 48, 304, 1008, 2032, 0, 8176, 3, 16387, 65535, 131071]
theorem mread.tab17 : rtab .any (opsOf Tryd.f9 17) = mread.T17 := by kernel_rfl
theorem mread.bits17 : waitsOk mread.T17.2 mread.B17 = true := by kernel_rfl
theorem inf50 : (Tryd.prog.info? 50).map (fun i => (i.zero, i.size, i.bytes)) = some (some (.agg #[.bool false, .slice none 0 0, .slice none 0 0, .slice none 0 0, .slice none 0 0]), 5, 104) := by kernel_rfl
set_option maxHeartbeats 16000000 in
set_option maxRecDepth 100000 in
theorem read_calls (n : Int) (A : Option Addr) (c : Nat) (b : List Int) (w : World) (hr : Kd.C B8 w A b.length b) (hc : b.length ≤ c) (hb : ∀ x ∈ b, byte x) (hlen : b.length ≤ 5000000) :
  Calls Tryd.prog 9 #[.int .i64 n, .slice A b.length c] w fun e w' => ∃ (A' : Option Addr) (c' : Nat), e = .returned (.tuple #[.slice A' (readOf n b).1.length c', .int .i64 (readOf n b).2]) ∧ (readOf n b).1.length ≤ c' ∧ Kd.C kP w' A' (readOf n b).1.length (readOf n b).1 ∧ Below w.heap.size w w' := by
 have HR := Aside0.mk hr; have HC := Aside0.mk hc; have HB := Aside0.mk hb; have HLEN := Aside0.mk hlen
 clear hr hc hb hlen
 by_cases hn : n ≥ 1 ∧ n ≤ 16777216
 · have hright : mark_right.f n = some true := by unfold mark_right.f; rw [if_pos hn.1]; simp [hn.2]
   obtain ⟨N, hN⟩ := Int.eq_ofNat_of_zero_le (by omega : 0 ≤ n)
   have hN1 : 1 ≤ N := by omega
   have hres : readOf n b = match rdAll N (linesOf b) ([], 0) with | some (ps, st) => if st = 0 then (ps, 0) else ([], 5) | none => ([], 5) := by
     unfold readOf; rw [if_pos hn, hN]; rfl
   obtain ⟨R, hR⟩ : ∃ R, readOf n b = R := ⟨_, rfl⟩
   rw [hR] at hres ⊢
   have HRES := Aside0.mk hres; have HRT := Aside0.mk hright
   clear hres hR hn hright
   subst hN
   obtain ⟨L, hL⟩ : ∃ L, linesOf b = L := ⟨_, rfl⟩
   rw [hL] at HRES
   have HLN := Aside0.mk (show L.length ≤ 5000000 by rw [← hL]; exact Nat.le_trans (linesOf_len b) HLEN.out)
   have HLX := Aside0.mk (show ∀ x ∈ L, x ≠ [] ∧ (∀ y ∈ x, byte y) ∧ x.length ≤ 5000000 by rw [← hL]; exact fun x hx => ⟨linesOf_ne b x hx, linesOf_all byte b x HB.out hx, Nat.le_trans (linesOf_mem b x hx) HLEN.out⟩)
   replace hL := Aside0.mk hL
   go_enter Tryd.func9, Tryd.ntmps9
   go_wp2_with (first | (go_at_call 24; refine (mark_right.calls _ true _ HRT.out).mono ?_; rintro e w1 ⟨rfl, hb1⟩; replace hb1 := drawn_below hb1) | (go_at_call 25; refine (split_calls A c b _ (Kd.C_below HR.out hb1) HC.out HB.out (by have := HLEN.out; omega)).mono ?_; rintro e w2 ⟨vl, rfl, hR, hb2⟩; rw [hL.out] at hR; obtain ⟨AL, cL, rfl, hrd⟩ := rd_R hR; replace hR := Aside0.mk hR))
   have hF0 : ∀ a ∈ [rdV kB AL cL L], a.P w2 (fun k => k < w2.heap.size) := by
     intro a ha; rw [List.mem_singleton] at ha; subst ha
     exact FA.step _ hrd (fun _ _ _ => rfl) (fun k hk => hk.2)
   have HS := Aside0.mk (RdI.start (Stt.start w2 hF0))
   have hB2 := Aside0.mk (hb1.trans (below_lo hb2 hb1.size))
   clear hF0 hrd hb1 hb2
   go_loopg [6, 7, 18] L.length (fun kq v6 v7 v18 w'' => ∃ (ps : List Pt) (ii sti : Int) (i : Nat), v18 = .int .i64 ii ∧ Aside0 (ii = (i : Int)) ∧ v7 = .int .i64 sti ∧ (sti = 0 ∨ sti = 1 ∨ sti = 2 ∨ sti = 3) ∧ i ≤ L.length ∧ kq = L.length - i ∧ Aside0 (rdAll N (L.take i) ([], 0) = some (ps, sti.toNat)) ∧ Aside0 (Sz ps i) ∧ Aside0 (RdI w2 [rdV kB AL cL L] ps v6 w''))
   case atStart => exact ⟨[], 0, 0, 0, rfl, ⟨rfl⟩, rfl, .inl rfl, Nat.zero_le _, rfl, ⟨rfl⟩, ⟨sz_nil⟩, HS⟩
   case round =>
    obtain ⟨ps, ii, sti, i, rfl, hii, rfl, hst, hi, hgk, hall, hsz, hI⟩ := hrel
    obtain ⟨wb, rfl⟩ : ∃ q, q = wr := ⟨_, rfl⟩
    by_cases hin : ii < (L.length : Int)
    · have p0 : 0 ≤ ii := by have := hii.out; omega
      obtain ⟨Z, hZ⟩ := hI.out.fr
      have hrd : (rdV kB AL cL L).P wb Z := hZ _ (by simp)
      obtain ⟨al, cs, eA, hcl, hFK, hcc, _⟩ := Kd.F_get hrd.2 [] ii p0 hin
      subst eA
      obtain ⟨x, hx⟩ : ∃ x, x = L.getD ii.toNat [] := ⟨_, rfl⟩
      rw [← hx] at hFK
      have hxi : L[i]? = some x := by
        rw [hx, hii.out]; have : i < L.length := by have := hii.out; omega
        simp [List.getD_eq_getElem?_getD, List.getElem?_eq_getElem this]
      have hxm := HLX.out x (List.mem_of_getElem? hxi)
      obtain ⟨AX, cX, rfl, hxc, hxC⟩ := Kd.FK_now hFK
      obtain ⟨ax, rfl, _⟩ := hxC.2.2 (by have := hxm.1; cases x with | nil => exact absurd rfl this | cons _ _ => simp)
      have hx0 : wb.cell? (al.add (ii.toNat * 1)) = some (.slice (some ax) x.length cX) := hcc 0 _ rfl
      have hx0' : wb.cell? (al.add ii.toNat) = some (.slice (some ax) x.length cX) := by simpa using hx0
      have HX := Aside0.mk (⟨hxi, hxm, hxc, hxC, hi, hgk⟩ : _ ∧ _ ∧ _ ∧ _ ∧ _ ∧ _)
      have HMK := Aside0.mk (markerOf_calls N hN1 (some ax) cX x wb hxC hxc hxm.2.1 (by have := hxm.2.2; omega))
      have hnext := Aside0.mk (rdAll_next hall.out hxi)
      have hsg := mkOf_cases hN1 x
      have hi5_ : i ≤ 5000000 := by have := HLN.out; omega
      obtain ⟨Ao, co, evo, hoc, _⟩ := hI.out.out
      obtain ⟨m, hm⟩ : ∃ m, m = ps.length := ⟨_, rfl⟩
      rw [← hm] at evo
      subst evo
      replace hm := Aside0.mk hm
      have hw1 : wrap64 (ii + 1) = ii + 1 := by have := hii.out; unfold wrap64; omega
      have hinb := eq_true hin
      have p0b := eq_true p0
      have hi5 : i ≤ 5000000 := by have := HLN.out; omega
      have hps5 := Aside0.mk (Nat.le_trans hsz.out.1 hi5)
      clear hZ hrd hcl hFK hcc hx hxi hxm hxc hxC hi hgk hoc
      obtain ⟨sg, hsgq⟩ : ∃ sg, mkOf N x = sg := ⟨_, rfl⟩
      rw [hsgq] at hsg HMK
      replace hsgq := Aside0.mk hsgq
      rcases hsg with rfl | hsg
      · rcases hst with rfl | rfl | rfl | rfl
        · skip
          have hx1_ : wb.cell? (al.add i) = some (.slice (some ax) x.length cX) := by have := hx0'; rwa [show ii.toNat = i by have := hii.out; omega] at this
          have HIX := Aside0.mk (hI.out.wider (rdV B8 (some ax) cX x) (fun Z hZ => row_kept (hZ _ List.mem_cons_self) HX.out.1 hx1_))
          clear hx1_
          obtain rfl | ⟨fr, ⟨rg, T, S0, S1, S2⟩, rfl⟩ := snoc_cases ps
          · obtain rfl : m = 0 := hm.out
            have hyes : rdStep N ([], 0) x = some ([] ++ [addF (nwPt false) x 0], 0) := by simp [rdStep, hsgq.out, addF]
            go_wp2_with (first | ((go_at_call 26; refine HMK.out.mono ?_; rintro e w3 ⟨rfl, hb3⟩); have hI3 := HIX.out.keep hb3) | ((with_reducible refine gate_builtin (b := .append) (xs := #[.tmp 44, .tmp 46]) rfl ?_); at_builtin; refine app_push rfl (.tmp 44) (.tmp 46) 104 rfl Tryd.underlying23 inf50 (by decide) hI3 hps5.out _ rfl false rfl rfl ?_; intro Ao2 co2 w4 hI4; obtain ⟨Zx, hZx⟩ := hI4.fr; have hxC4 := Kd.F_now (hZx (rdV B8 (some ax) cX x) (by simp)).2; obtain ⟨ad4, _, vk_, e1, hreg, hcell, hown, hstep⟩ := hI4.at0 0 (by decide) x; obtain ⟨ak_, ck_, rfl, _⟩ := own_form hown; injection e1 with e1 _ ec; subst e1 ec) | ((with_reducible refine gate_builtin (b := .append) (xs := #[.tmp 56, .tmp 57]) rfl ?_); at_builtin; refine app_spread rfl (.tmp 56) (.tmp 57) rfl Tryd.underlying22 inf5 _ _ _ x ax cX rfl rfl hown (hxC4) ?hl ?_; (case hl => simp [fld]; have := HX.out.2.1.2.2; omega); intro v5_ w5 ho5 hg5 hat5; obtain ⟨A5, c5, rfl, _⟩ := own_form ho5; obtain ⟨hk1, hk2, hI5⟩ := hstep w5 _ ho5 hg5 hat5))
            go_roundg (L.length - (i + 1))
            case rel => exact ⟨[] ++ [addF (nwPt false) x 0], wrap64 (ii + 1), 0, i + 1, by first | rfl | (simp; done) | (simp [hw1]; done), ⟨by rw [hw1]; have := hii.out; omega⟩, by first | rfl | (simp; done), by simp, by have := hii.out; omega, rfl, Aside0.mk (hnext.out.trans hyes), ⟨sz_app hsz.out false HX.out.2.1.2.2 0⟩, ⟨hI5.less⟩⟩
            case measure => have := hii.out; have := HX.out.2.2.2.2.2; omega
          · obtain rfl : m = fr.length + 1 := by rw [hm.out]; simp
            have hwj : wrap64 (fr.length : Int) = (fr.length : Int) := by have := hps5.out; simp at this; unfold wrap64; omega
            cases rg with
            | false =>
              have hyes : rdStep N (fr ++ [⟨false, T, S0, S1, S2⟩], 0) x = some (fr ++ [addF ⟨false, T, S0, S1, S2⟩ x 0], 0) := by simp [rdStep, hsgq.out, onLast_snoc, addF, addText]
              obtain ⟨ad, cap, vk, e1, hreg, hcell, hown, _⟩ := hI.out.at 0 (by decide) x
              obtain ⟨ak, ck, rfl, _⟩ := own_form hown
              injection e1 with eA _ ec
              subst eA ec
              have hreg0 := Aside0.mk hreg
              have hcell0 := Aside0.mk hcell
              clear hreg hcell hown
              go_wp2_with (first | ((go_at_call 26; refine HMK.out.mono ?_; rintro e w3 ⟨rfl, hb3⟩); have hI3 := hI.out.keep hb3; obtain ⟨_, _, vk_, e1, hreg, hcell, hown, hstep⟩ := hI3.at 0 (by decide) x; obtain ⟨ak_, ck_, rfl, _⟩ := own_form hown; injection e1 with e1 _ ec; injection e1 with e1; subst e1 ec) | ((with_reducible refine gate_builtin (b := .append) (xs := #[.tmp 56, .tmp 57]) rfl ?_); at_builtin; refine app_spread rfl (.tmp 56) (.tmp 57) rfl Tryd.underlying22 inf5 _ _ _ x ax cX rfl rfl hown (Kd.C_below HX.out.2.2.2.1 hb3) ?hl ?_; (case hl => have := sz_fld (hsz.out.2 _ (List.mem_append_right _ List.mem_cons_self)) 0; have := hi5; have := HX.out.2.1.2.2; simp only [fld] at *; omega); intro v5_ w5 ho5 hg5 hat5; obtain ⟨A5, c5, rfl, _⟩ := own_form ho5; obtain ⟨hk1, hk2, hI5⟩ := hstep w5 _ ho5 hg5 hat5))
              go_roundg (L.length - (i + 1))
              case rel => exact ⟨fr ++ [addF ⟨false, T, S0, S1, S2⟩ x 0], wrap64 (ii + 1), 0, i + 1, by first | rfl | (simp; done) | (simp [hw1]; done), ⟨by rw [hw1]; have := hii.out; omega⟩, by first | rfl | (simp; done), by simp, by have := hii.out; omega, rfl, Aside0.mk (hnext.out.trans hyes), ⟨sz_add hsz.out x HX.out.2.1.2.2 0⟩, ⟨hI5⟩⟩
              case measure => have := hii.out; have := HX.out.2.2.2.2.2; omega
            | true =>
              have hfl : (fr ++ [(⟨true, T, S0, S1, S2⟩ : Pt)]).length = fr.length + 1 := by simp
              have hwj1 : wrap64 ((fr.length : Int) + 1) = (fr.length : Int) + 1 := by have := hps5.out; simp at this; unfold wrap64; omega
              replace hfl := Aside0.mk hfl
              have hyes : rdStep N (fr ++ [⟨true, T, S0, S1, S2⟩], 0) x = some ((fr ++ [⟨true, T, S0, S1, S2⟩]) ++ [addF (nwPt false) x 0], 0) := by simp [rdStep, hsgq.out, addF]
              obtain ⟨ad, cap, vk, e1, hreg, hcell, hown, _⟩ := hI.out.at 0 (by decide) x
              obtain ⟨ak, ck, rfl, _⟩ := own_form hown
              injection e1 with eA _ ec
              subst eA ec
              have hreg0 := Aside0.mk hreg
              clear hreg hcell hown
              go_wp2_with (first | ((go_at_call 26; refine HMK.out.mono ?_; rintro e w3 ⟨rfl, hb3⟩); have hI3 := HIX.out.keep hb3; obtain ⟨_, _, vk_, e1, hreg, hcell, hown, hstep⟩ := hI3.at 0 (by decide) x; injection e1 with e1 _ ec; injection e1 with e1; subst e1 ec; clear hcell hown hstep) | ((with_reducible refine gate_builtin (b := .append) (xs := #[.tmp 44, .tmp 46]) rfl ?_); at_builtin; refine app_push rfl (.tmp 44) (.tmp 46) 104 rfl Tryd.underlying23 inf50 (by decide) hI3 hps5.out _ hfl.out false rfl rfl ?_; intro Ao2 co2 w4 hI4; obtain ⟨Zx, hZx⟩ := hI4.fr; have hxC4 := Kd.F_now (hZx (rdV B8 (some ax) cX x) (by simp)).2; obtain ⟨ad4, _, vk_, e1, hreg, hcell, hown, hstep⟩ := hI4.atj 0 (by decide) x hfl.out; obtain ⟨ak_, ck_, rfl, _⟩ := own_form hown; injection e1 with e1 _ ec; subst e1 ec) | ((with_reducible refine gate_builtin (b := .append) (xs := #[.tmp 56, .tmp 57]) rfl ?_); at_builtin; refine app_spread rfl (.tmp 56) (.tmp 57) rfl Tryd.underlying22 inf5 _ _ _ x ax cX rfl rfl hown (hxC4) ?hl ?_; (case hl => simp [fld]; have := HX.out.2.1.2.2; omega); intro v5_ w5 ho5 hg5 hat5; obtain ⟨A5, c5, rfl, _⟩ := own_form ho5; obtain ⟨hk1, hk2, hI5⟩ := hstep w5 _ ho5 hg5 hat5))
              go_roundg (L.length - (i + 1))
              case rel => exact ⟨_, wrap64 (ii + 1), 0, i + 1, by first | rfl | (simp; done) | (simp [hw1]; done), ⟨by rw [hw1]; have := hii.out; omega⟩, by first | rfl | (simp; done), by simp, by have := hii.out; omega, rfl, Aside0.mk (hnext.out.trans hyes), ⟨sz_app hsz.out false HX.out.2.1.2.2 0⟩, ⟨hI5.less⟩⟩
              case measure => have := hii.out; have := HX.out.2.2.2.2.2; omega
        · skip
          have hpn : ps ≠ [] := rdAll_ne hall.out (fun h => absurd rfl h) (by simp)
          obtain rfl | ⟨fr, p, rfl⟩ := snoc_cases ps
          · exact absurd rfl hpn
          clear hpn
          obtain rfl : m = fr.length + 1 := by rw [hm.out]; simp
          have hwj : wrap64 (fr.length : Int) = (fr.length : Int) := by have := hps5.out; simp at this; unfold wrap64; omega
          have hyes : rdStep N (fr ++ [p], 1) x = some (fr ++ [addF p x 1], 1) := by simp [rdStep, hsgq.out, onLast_snoc, addF, addSide]
          replace hyes := Aside0.mk hyes
          obtain ⟨ad, cap, vk, e1, _, _, _, _⟩ := hI.out.at 1 (by decide) x
          injection e1 with eA _ ec
          subst eA ec
          have hq0 : wrap64 0 = 0 := by unfold wrap64; omega
          have hjj := eq_true (show (fr.length : Int) < (fr.length : Int) + 1 by omega)
          go_wp2_with ((go_at_call 26; refine HMK.out.mono ?_; rintro e w3 ⟨rfl, hb3⟩))
          have hIw := hI.out.keep (below_drew1 hb3)
          have hXw := Kd.C_below HX.out.2.2.2.1 (below_drew1 hb3)
          obtain ⟨_, _, vk, e1, _, hcell, hown, hstep⟩ := hIw.at 1 (by decide) x
          obtain ⟨ak, ck, rfl, _⟩ := own_form hown
          injection e1 with e1 _ ec
          injection e1 with e1
          subst e1 ec
          have hln : (fld p 1).length + x.length ≤ 140737488355328 := by
            have := sz_fld (hsz.out.2 p (List.mem_append_right _ List.mem_cons_self)) 1
            have := hi5; have := HX.out.2.1.2.2; omega
          replace hln := Aside0.mk hln
          have hst_ : ∀ w1 v1, P1 w3.drew (.slice ak (fld p 1).length ck) (fld p 1) x v1 w1 → _ := fun w1 v1 h => hstep w1 v1 h.1 h.2.1 h.2.2
          replace hst_ := Aside0.mk hst_
          replace hown := Aside0.mk hown
          replace hXw := Aside0.mk hXw
          clear hstep hIw
          have E0 := trivial
          refine start_ (n := 18) (S := fun w' => True) (ds := []) #[false, false, false, false, false, false, false, false, false, false, false, false, false, false, false, false, false, false] (by kernel_rfl) rfl rfl trivial (fun hHeld => ?_)
          refine with_tabW mread.tab17 mread.bits17 (fun HT_ HW_ => ?_)
          generalize w3.drew = wd at hcell hown hst_ hXw hHeld ⊢
          refine pure_ (i := 0) (N := some 64) (v := ?_) (a' := ?_) #[true, false, false, false, false, false, false, false, false, false, false, false, false, false, false, false, false, false] rfl rfl (any_of HT_.out (by kernel_rfl)) (fun _ _ _ h => h) (Or.inl ⟨by rfl, ?_⟩) ?_ ?_
          rotate_left
          · intro w'
            go_simp
            with_reducible rfl
          rotate_left
          · simp only [Act.put, List.setIfInBounds_toArray, List.set_cons_zero, List.set_cons_succ, i64_w, i32_w]
            rfl
          refine pure_ (i := 1) (N := some 65) (v := ?_) (a' := ?_) #[true, true, false, false, false, false, false, false, false, false, false, false, false, false, false, false, false, false] rfl rfl (any_of HT_.out (by kernel_rfl)) (fun _ _ _ h => h) (Or.inl ⟨by rfl, ?_⟩) ?_ ?_
          rotate_left
          · intro w'
            go_simp
            with_reducible rfl
          rotate_left
          · simp only [Act.put, List.setIfInBounds_toArray, List.set_cons_zero, List.set_cons_succ, i64_w, i32_w]
            rfl
          refine pure_ (i := 2) (N := some 66) (v := ?_) (a' := ?_) #[true, true, true, false, false, false, false, false, false, false, false, false, false, false, false, false, false, false] rfl rfl (any_of HT_.out (by kernel_rfl)) (fun _ _ _ h => h) (Or.inl ⟨by rfl, ?_⟩) ?_ ?_
          rotate_left
          · intro w'
            go_simp
            with_reducible rfl
          rotate_left
          · simp only [Act.put, List.setIfInBounds_toArray, List.set_cons_zero, List.set_cons_succ, i64_w, i32_w]
            rfl
          refine pure_ (i := 3) (N := some 67) (v := ?_) (a' := ?_) #[true, true, true, true, false, false, false, false, false, false, false, false, false, false, false, false, false, false] rfl rfl (any_of HT_.out (by kernel_rfl)) (fun _ _ _ h => h) (Or.inl ⟨by rfl, ?_⟩) ?_ ?_
          rotate_left
          · intro w'
            go_simp
            with_reducible rfl
          rotate_left
          · simp only [Act.put, List.setIfInBounds_toArray, List.set_cons_zero, List.set_cons_succ, i64_w, i32_w]
            rfl
          refine pure_ (i := 4) (N := some 68) (v := ?_) (a' := ?_) #[true, true, true, true, true, false, false, false, false, false, false, false, false, false, false, false, false, false] rfl rfl (any_of HT_.out (by kernel_rfl)) (fun _ _ _ h => h) (Or.inl ⟨by rfl, ?_⟩) ?_ ?_
          rotate_left
          · intro w'
            go_simp
            with_reducible rfl
          rotate_left
          · simp only [Act.put, List.setIfInBounds_toArray, List.set_cons_zero, List.set_cons_succ, i64_w, i32_w]
            rfl
          refine pure_ (i := 5) (N := some 69) (v := ?_) (a' := ?_) #[true, true, true, true, true, true, false, false, false, false, false, false, false, false, false, false, false, false] rfl rfl (any_of HT_.out (by kernel_rfl)) (fun _ _ _ h => h) (Or.inl ⟨by rfl, ?_⟩) ?_ ?_
          rotate_left
          · intro w'
            go_simp
            with_reducible rfl
          rotate_left
          · simp only [Act.put, List.setIfInBounds_toArray, List.set_cons_zero, List.set_cons_succ, i64_w, i32_w]
            rfl
          refine pure_ (i := 6) (N := some 70) (v := ?_) (a' := ?_) #[true, true, true, true, true, true, true, false, false, false, false, false, false, false, false, false, false, false] rfl rfl (any_of HT_.out (by kernel_rfl)) (fun _ _ _ h => h) (Or.inl ⟨by rfl, ?_⟩) ?_ ?_
          rotate_left
          · intro w'
            go_simp
            with_reducible rfl
          rotate_left
          · simp only [Act.put, List.setIfInBounds_toArray, List.set_cons_zero, List.set_cons_succ, i64_w, i32_w]
            rfl
          refine pure_ (i := 7) (N := some 71) (v := ?_) (a' := ?_) #[true, true, true, true, true, true, true, true, false, false, false, false, false, false, false, false, false, false] rfl rfl (any_of HT_.out (by kernel_rfl)) (fun _ _ _ h => h) (Or.inl ⟨by rfl, ?_⟩) ?_ ?_
          rotate_left
          · intro w'
            go_simp
            with_reducible rfl
          rotate_left
          · simp only [Act.put, List.setIfInBounds_toArray, List.set_cons_zero, List.set_cons_succ, i64_w, i32_w]
            rfl
          refine pure_ (i := 8) (N := some 72) (v := ?_) (a' := ?_) #[true, true, true, true, true, true, true, true, true, false, false, false, false, false, false, false, false, false] rfl rfl (any_of HT_.out (by kernel_rfl)) (fun _ _ _ h => h) (Or.inl ⟨by rfl, ?_⟩) ?_ ?_
          rotate_left
          · intro w'
            go_simp
            with_reducible rfl
          rotate_left
          · simp only [Act.put, List.setIfInBounds_toArray, List.set_cons_zero, List.set_cons_succ, i64_w, i32_w]
            rfl
          refine pure_ (i := 9) (N := some 73) (v := ?_) (a' := ?_) #[true, true, true, true, true, true, true, true, true, true, false, false, false, false, false, false, false, false] rfl rfl (any_of HT_.out (by kernel_rfl)) (fun _ _ _ h => h) (Or.inl ⟨by rfl, ?_⟩) ?_ ?_
          rotate_left
          · intro w'
            go_simp
            with_reducible rfl
          rotate_left
          · simp only [Act.put, List.setIfInBounds_toArray, List.set_cons_zero, List.set_cons_succ, i64_w, i32_w]
            rfl
          refine pure_ (i := 10) (N := some 74) (v := ?_) (a' := ?_) #[true, true, true, true, true, true, true, true, true, true, true, false, false, false, false, false, false, false] rfl rfl (any_of HT_.out (by kernel_rfl)) (fun _ _ _ h => h) (Or.inl ⟨by rfl, ?_⟩) ?_ ?_
          rotate_left
          · intro w'
            go_simp
            with_reducible rfl
          rotate_left
          · simp only [Act.put, List.setIfInBounds_toArray, List.set_cons_zero, List.set_cons_succ, i64_w, i32_w]
            rfl
          refine pure_ (i := 12) (N := some 76) (v := ?_) (a' := ?_) #[true, true, true, true, true, true, true, true, true, true, true, false, true, false, false, false, false, false] rfl rfl (any_of HT_.out (by kernel_rfl)) (fun _ _ _ h => h) (Or.inl ⟨by rfl, ?_⟩) ?_ ?_
          rotate_left
          · intro w'
            go_simp
            with_reducible rfl
          rotate_left
          · simp only [Act.put, List.setIfInBounds_toArray, List.set_cons_zero, List.set_cons_succ, i64_w, i32_w]
            rfl
          refine pure_ (i := 14) (N := some 78) (v := ?_) (a' := ?_) #[true, true, true, true, true, true, true, true, true, true, true, false, true, false, true, false, false, false] rfl rfl (any_of HT_.out (by kernel_rfl)) (fun _ _ _ h => h) (Or.inl ⟨by rfl, ?_⟩) ?_ ?_
          rotate_left
          · intro w'
            go_simp
            with_reducible rfl
          rotate_left
          · simp only [Act.put, List.setIfInBounds_toArray, List.set_cons_zero, List.set_cons_succ, i64_w, i32_w]
            rfl
          refine pure_ (i := 15) (N := some 79) (v := ?_) (a' := ?_) #[true, true, true, true, true, true, true, true, true, true, true, false, true, false, true, true, false, false] rfl rfl (any_of HT_.out (by kernel_rfl)) (fun _ _ _ h => h) (Or.inl ⟨by rfl, ?_⟩) ?_ ?_
          rotate_left
          · intro w'
            go_simp
            with_reducible rfl
          rotate_left
          · simp only [Act.put, List.setIfInBounds_toArray, List.set_cons_zero, List.set_cons_succ, i64_w, i32_w]
            rfl
          refine inv_at [11, 13, 16, 17] (fun a0_ b a w' => ∃ (vv : Value), a = putSel a0_ b [(11, 75, .slice ak (fld p 1).length ck), (13, 77, vv), (16, 80, .pointer (some ⟨(ad.add (fr.length * 5)).block, (ad.add (fr.length * 5)).off + 2, none⟩))] ∧ (b 13 = false → w' = wd) ∧ (b 13 = true → b 17 = false → P1 wd (.slice ak (fld p 1).length ck) (fld p 1) x vv w') ∧ (b 17 = true → P2 wd (.slice ak (fld p 1).length ck) (fld p 1) x ⟨(ad.add (fr.length * 5)).block, (ad.add (fr.length * 5)).off + 2, none⟩ vv w')) HT_.out HW_.out (by kernel_rfl) (by kernel_rfl) ?_ ?_ ?_
          · exact ⟨.bool false, by simp only [putSel, Bool.false_eq_true, if_false], fun _ => rfl, fun h_ => absurd h_ (by decide), fun h_ => absurd h_ (by decide)⟩
          · skip
            clear E0
            refine steps_cons ?_ ?_
            · rintro b a w' ⟨vv, ha, Q_E0, Q_E1, Q_E2⟩ hb_ hon hoff
              refine ⟨_, rfl, fun K hK => ?_⟩
              have e74 : a.tmps[74]? = some (.pointer (some ⟨(ad.add (fr.length * 5)).block, (ad.add (fr.length * 5)).off + 2, none⟩)) := by rw [ha]; exact (putSel_off rfl).trans rfl
              replace ha := Aside0.mk ha
              have E0 := Aside0.mk (Q_E0 (hoff 13 (by kernel_rfl)))
              have hw_ := E0.out
              have hc_ := hcell
              rw [← hw_] at hc_
              refine value_ (w1 := w') (v := .slice ak (fld p 1).length ck) (by rfl) rfl ?_ ?_
              · go_simp
                (try simp only [i64_w])
                try rfl
              refine hK.out _ _ ⟨vv, (by rw [ha.out]; exact putSel_upk 0 hb_ rfl rfl rfl), Q_E0, fun h0_ _ => absurd ((hoff 13 (by kernel_rfl)).symm.trans h0_) (by decide), fun h0_ => absurd ((hoff 17 (by kernel_rfl)).symm.trans h0_) (by decide)⟩
            refine steps_cons ?_ ?_
            · rintro b a w' ⟨vv, ha, Q_E0, Q_E1, Q_E2⟩ hb_ hon hoff
              refine ⟨_, rfl, fun K hK => ?_⟩
              have e75 : a.tmps[75]? = some (.slice ak (fld p 1).length ck) := by rw [ha]; exact putSel_on (e := (11, 75, .slice ak (fld p 1).length ck)) 0 rfl rfl (hon 11 (by kernel_rfl)) rfl
              have e76 : a.tmps[76]? = some (.slice (some ax) x.length cX) := by rw [ha]; exact (putSel_off rfl).trans rfl
              replace ha := Aside0.mk ha
              have E0 := Aside0.mk (Q_E0 hb_)
              have hw_ := E0.out
              refine app_spread_step (by rfl) (.tmp 75) (.tmp 76) rfl Tryd.underlying22 inf5 (.slice ak (fld p 1).length ck) _ (us8 (fld p 1)) x ax cX (eval_of e75) (eval_of e76) (hw_ ▸ hown.out) (hw_ ▸ hXw.out) hln.out ?_
              intro v1 w1 ho hg hat
              have S3_ : P1 wd (.slice ak (fld p 1).length ck) (fld p 1) x v1 w1 := ⟨ho, hw_ ▸ hg, hw_ ▸ hat⟩
              refine hK.out _ _ ⟨v1, (by rw [ha.out]; exact putSel_upk 1 hb_ rfl rfl rfl), fun h0_ => absurd ((up_self b 13).symm.trans h0_) (by decide), fun _ _ => S3_, fun h0_ => absurd ((hoff 17 (by kernel_rfl)).symm.trans h0_) (by decide)⟩
            refine steps_cons ?_ ?_
            · rintro b a w' ⟨vv, ha, Q_E0, Q_E1, Q_E2⟩ hb_ hon hoff
              refine ⟨_, rfl, fun K hK => ?_⟩
              have e79 : a.tmps[79]? = some (.pointer (some ⟨(ad.add (fr.length * 5)).block, (ad.add (fr.length * 5)).off + 2, none⟩)) := by rw [ha]; exact (putSel_off rfl).trans rfl
              have e67 : a.tmps[67]? = some (.int .i64 (wrap64 0)) := by rw [ha]; exact (putSel_off rfl).trans rfl
              replace ha := Aside0.mk ha
              have E1 := Aside0.mk (Q_E1 (hon 13 (by kernel_rfl)) (hoff 17 (by kernel_rfl)))
              refine value_ (w1 := w') (v := .pointer (some ⟨(ad.add (fr.length * 5)).block, (ad.add (fr.length * 5)).off + 2, none⟩)) (by rfl) rfl ?_ ?_
              · go_simp
                (try simp only [i64_w])
                try rfl
              refine hK.out _ _ ⟨vv, (by rw [ha.out]; exact putSel_upk 2 hb_ rfl rfl rfl), fun h0_ => absurd ((hon 13 (by kernel_rfl)).symm.trans h0_) (by decide), Q_E1, fun h0_ => absurd ((hoff 17 (by kernel_rfl)).symm.trans h0_) (by decide)⟩
            refine steps_cons ?_ ?_
            · rintro b a w' ⟨vv, ha, Q_E0, Q_E1, Q_E2⟩ hb_ hon hoff
              refine ⟨_, rfl, fun K hK => ?_⟩
              have e80 : a.tmps[80]? = some (.pointer (some ⟨(ad.add (fr.length * 5)).block, (ad.add (fr.length * 5)).off + 2, none⟩)) := by rw [ha]; exact putSel_on (e := (16, 80, .pointer (some ⟨(ad.add (fr.length * 5)).block, (ad.add (fr.length * 5)).off + 2, none⟩))) 2 rfl rfl (hon 16 (by kernel_rfl)) rfl
              have e77 : a.tmps[77]? = some (vv) := by rw [ha]; exact putSel_on (e := (13, 77, vv)) 1 rfl rfl (hon 13 (by kernel_rfl)) rfl
              replace ha := Aside0.mk ha
              have E1 := Aside0.mk (Q_E1 (hon 13 (by kernel_rfl)) hb_)
              obtain ⟨A_, c_, en_⟩ := E1.out.form
              obtain ⟨hc_, hf_, _⟩ := hst_.out w' vv E1.out
              refine skip_ (w1 := w'.setCell ⟨(ad.add (fr.length * 5)).block, (ad.add (fr.length * 5)).off + 2, none⟩ vv) (by rfl) rfl ?_ ?_
              · rw [en_] at e77 ⊢
                go_simp
                try rfl
              have S3_ := E1.out
              refine hK.out _ _ ⟨vv, (by rw [ha.out]; exact putSel_none (v := undef) rfl), fun h0_ => absurd ((hon 13 (by kernel_rfl)).symm.trans h0_) (by decide), fun _ h1_ => absurd ((up_self b 17).symm.trans h1_) (by decide), fun _ => ⟨w', S3_, rfl⟩⟩
            exact steps_nil
          · rintro b a w' hall ⟨vv, ha, Q_E0, Q_E1, Q_E2⟩
            clear E0
            have hb11_ := hall 11 (by kernel_rfl)
            have hb13_ := hall 13 (by kernel_rfl)
            have hb16_ := hall 16 (by kernel_rfl)
            have hb17_ := hall 17 (by kernel_rfl)
            subst ha
            simp only [putSel, hb11_, hb13_, hb16_, hb17_, if_true, Act.put, List.setIfInBounds_toArray, List.set_cons_zero, List.set_cons_succ]
            clear Q_E0
            clear Q_E1
            have E2 := Aside0.mk (Q_E2 hb17_)
            clear Q_E2
            clear hall hb11_ hb13_ hb16_ hb17_
            obtain ⟨w1_, h1_, rfl⟩ := E2.out
            obtain ⟨_, _, hI5⟩ := hst_.out w1_ vv h1_
            go_wp2
            go_roundg (L.length - (i + 1))
            case rel => exact ⟨_, wrap64 (ii + 1), 1, i + 1, by first | rfl | (simp; done) | (simp [hw1]; done), ⟨by rw [hw1]; have := hii.out; omega⟩, by first | rfl | (simp; done), by simp, by have := hii.out; omega, rfl, Aside0.mk (hnext.out.trans hyes.out), ⟨sz_add hsz.out x HX.out.2.1.2.2 1⟩, ⟨hI5⟩⟩
            case measure => have := hii.out; have := HX.out.2.2.2.2.2; omega
        · skip
          have hpn : ps ≠ [] := rdAll_ne hall.out (fun h => absurd rfl h) (by simp)
          obtain rfl | ⟨fr, p, rfl⟩ := snoc_cases ps
          · exact absurd rfl hpn
          clear hpn
          obtain rfl : m = fr.length + 1 := by rw [hm.out]; simp
          have hwj : wrap64 (fr.length : Int) = (fr.length : Int) := by have := hps5.out; simp at this; unfold wrap64; omega
          have hyes : rdStep N (fr ++ [p], 2) x = some (fr ++ [addF p x 2], 2) := by simp [rdStep, hsgq.out, onLast_snoc, addF, addSide]
          replace hyes := Aside0.mk hyes
          obtain ⟨ad, cap, vk, e1, _, _, _, _⟩ := hI.out.at 2 (by decide) x
          injection e1 with eA _ ec
          subst eA ec
          have hq0 : wrap64 1 = 1 := by unfold wrap64; omega
          have hjj := eq_true (show (fr.length : Int) < (fr.length : Int) + 1 by omega)
          go_wp2_with ((go_at_call 26; refine HMK.out.mono ?_; rintro e w3 ⟨rfl, hb3⟩))
          have hIw := hI.out.keep (below_drew1 hb3)
          have hXw := Kd.C_below HX.out.2.2.2.1 (below_drew1 hb3)
          obtain ⟨_, _, vk, e1, _, hcell, hown, hstep⟩ := hIw.at 2 (by decide) x
          obtain ⟨ak, ck, rfl, _⟩ := own_form hown
          injection e1 with e1 _ ec
          injection e1 with e1
          subst e1 ec
          have hln : (fld p 2).length + x.length ≤ 140737488355328 := by
            have := sz_fld (hsz.out.2 p (List.mem_append_right _ List.mem_cons_self)) 2
            have := hi5; have := HX.out.2.1.2.2; omega
          replace hln := Aside0.mk hln
          have hst_ : ∀ w1 v1, P1 w3.drew (.slice ak (fld p 2).length ck) (fld p 2) x v1 w1 → _ := fun w1 v1 h => hstep w1 v1 h.1 h.2.1 h.2.2
          replace hst_ := Aside0.mk hst_
          replace hown := Aside0.mk hown
          replace hXw := Aside0.mk hXw
          clear hstep hIw
          have E0 := trivial
          refine start_ (n := 18) (S := fun w' => True) (ds := []) #[false, false, false, false, false, false, false, false, false, false, false, false, false, false, false, false, false, false] (by kernel_rfl) rfl rfl trivial (fun hHeld => ?_)
          refine with_tabW mread.tab17 mread.bits17 (fun HT_ HW_ => ?_)
          generalize w3.drew = wd at hcell hown hst_ hXw hHeld ⊢
          refine pure_ (i := 0) (N := some 64) (v := ?_) (a' := ?_) #[true, false, false, false, false, false, false, false, false, false, false, false, false, false, false, false, false, false] rfl rfl (any_of HT_.out (by kernel_rfl)) (fun _ _ _ h => h) (Or.inl ⟨by rfl, ?_⟩) ?_ ?_
          rotate_left
          · intro w'
            go_simp
            with_reducible rfl
          rotate_left
          · simp only [Act.put, List.setIfInBounds_toArray, List.set_cons_zero, List.set_cons_succ, i64_w, i32_w]
            rfl
          refine pure_ (i := 1) (N := some 65) (v := ?_) (a' := ?_) #[true, true, false, false, false, false, false, false, false, false, false, false, false, false, false, false, false, false] rfl rfl (any_of HT_.out (by kernel_rfl)) (fun _ _ _ h => h) (Or.inl ⟨by rfl, ?_⟩) ?_ ?_
          rotate_left
          · intro w'
            go_simp
            with_reducible rfl
          rotate_left
          · simp only [Act.put, List.setIfInBounds_toArray, List.set_cons_zero, List.set_cons_succ, i64_w, i32_w]
            rfl
          refine pure_ (i := 2) (N := some 66) (v := ?_) (a' := ?_) #[true, true, true, false, false, false, false, false, false, false, false, false, false, false, false, false, false, false] rfl rfl (any_of HT_.out (by kernel_rfl)) (fun _ _ _ h => h) (Or.inl ⟨by rfl, ?_⟩) ?_ ?_
          rotate_left
          · intro w'
            go_simp
            with_reducible rfl
          rotate_left
          · simp only [Act.put, List.setIfInBounds_toArray, List.set_cons_zero, List.set_cons_succ, i64_w, i32_w]
            rfl
          refine pure_ (i := 3) (N := some 67) (v := ?_) (a' := ?_) #[true, true, true, true, false, false, false, false, false, false, false, false, false, false, false, false, false, false] rfl rfl (any_of HT_.out (by kernel_rfl)) (fun _ _ _ h => h) (Or.inl ⟨by rfl, ?_⟩) ?_ ?_
          rotate_left
          · intro w'
            go_simp
            with_reducible rfl
          rotate_left
          · simp only [Act.put, List.setIfInBounds_toArray, List.set_cons_zero, List.set_cons_succ, i64_w, i32_w]
            rfl
          refine pure_ (i := 4) (N := some 68) (v := ?_) (a' := ?_) #[true, true, true, true, true, false, false, false, false, false, false, false, false, false, false, false, false, false] rfl rfl (any_of HT_.out (by kernel_rfl)) (fun _ _ _ h => h) (Or.inl ⟨by rfl, ?_⟩) ?_ ?_
          rotate_left
          · intro w'
            go_simp
            with_reducible rfl
          rotate_left
          · simp only [Act.put, List.setIfInBounds_toArray, List.set_cons_zero, List.set_cons_succ, i64_w, i32_w]
            rfl
          refine pure_ (i := 5) (N := some 69) (v := ?_) (a' := ?_) #[true, true, true, true, true, true, false, false, false, false, false, false, false, false, false, false, false, false] rfl rfl (any_of HT_.out (by kernel_rfl)) (fun _ _ _ h => h) (Or.inl ⟨by rfl, ?_⟩) ?_ ?_
          rotate_left
          · intro w'
            go_simp
            with_reducible rfl
          rotate_left
          · simp only [Act.put, List.setIfInBounds_toArray, List.set_cons_zero, List.set_cons_succ, i64_w, i32_w]
            rfl
          refine pure_ (i := 6) (N := some 70) (v := ?_) (a' := ?_) #[true, true, true, true, true, true, true, false, false, false, false, false, false, false, false, false, false, false] rfl rfl (any_of HT_.out (by kernel_rfl)) (fun _ _ _ h => h) (Or.inl ⟨by rfl, ?_⟩) ?_ ?_
          rotate_left
          · intro w'
            go_simp
            with_reducible rfl
          rotate_left
          · simp only [Act.put, List.setIfInBounds_toArray, List.set_cons_zero, List.set_cons_succ, i64_w, i32_w]
            rfl
          refine pure_ (i := 7) (N := some 71) (v := ?_) (a' := ?_) #[true, true, true, true, true, true, true, true, false, false, false, false, false, false, false, false, false, false] rfl rfl (any_of HT_.out (by kernel_rfl)) (fun _ _ _ h => h) (Or.inl ⟨by rfl, ?_⟩) ?_ ?_
          rotate_left
          · intro w'
            go_simp
            with_reducible rfl
          rotate_left
          · simp only [Act.put, List.setIfInBounds_toArray, List.set_cons_zero, List.set_cons_succ, i64_w, i32_w]
            rfl
          refine pure_ (i := 8) (N := some 72) (v := ?_) (a' := ?_) #[true, true, true, true, true, true, true, true, true, false, false, false, false, false, false, false, false, false] rfl rfl (any_of HT_.out (by kernel_rfl)) (fun _ _ _ h => h) (Or.inl ⟨by rfl, ?_⟩) ?_ ?_
          rotate_left
          · intro w'
            go_simp
            with_reducible rfl
          rotate_left
          · simp only [Act.put, List.setIfInBounds_toArray, List.set_cons_zero, List.set_cons_succ, i64_w, i32_w]
            rfl
          refine pure_ (i := 9) (N := some 73) (v := ?_) (a' := ?_) #[true, true, true, true, true, true, true, true, true, true, false, false, false, false, false, false, false, false] rfl rfl (any_of HT_.out (by kernel_rfl)) (fun _ _ _ h => h) (Or.inl ⟨by rfl, ?_⟩) ?_ ?_
          rotate_left
          · intro w'
            go_simp
            with_reducible rfl
          rotate_left
          · simp only [Act.put, List.setIfInBounds_toArray, List.set_cons_zero, List.set_cons_succ, i64_w, i32_w]
            rfl
          refine pure_ (i := 10) (N := some 74) (v := ?_) (a' := ?_) #[true, true, true, true, true, true, true, true, true, true, true, false, false, false, false, false, false, false] rfl rfl (any_of HT_.out (by kernel_rfl)) (fun _ _ _ h => h) (Or.inl ⟨by rfl, ?_⟩) ?_ ?_
          rotate_left
          · intro w'
            go_simp
            with_reducible rfl
          rotate_left
          · simp only [Act.put, List.setIfInBounds_toArray, List.set_cons_zero, List.set_cons_succ, i64_w, i32_w]
            rfl
          refine pure_ (i := 12) (N := some 76) (v := ?_) (a' := ?_) #[true, true, true, true, true, true, true, true, true, true, true, false, true, false, false, false, false, false] rfl rfl (any_of HT_.out (by kernel_rfl)) (fun _ _ _ h => h) (Or.inl ⟨by rfl, ?_⟩) ?_ ?_
          rotate_left
          · intro w'
            go_simp
            with_reducible rfl
          rotate_left
          · simp only [Act.put, List.setIfInBounds_toArray, List.set_cons_zero, List.set_cons_succ, i64_w, i32_w]
            rfl
          refine pure_ (i := 14) (N := some 78) (v := ?_) (a' := ?_) #[true, true, true, true, true, true, true, true, true, true, true, false, true, false, true, false, false, false] rfl rfl (any_of HT_.out (by kernel_rfl)) (fun _ _ _ h => h) (Or.inl ⟨by rfl, ?_⟩) ?_ ?_
          rotate_left
          · intro w'
            go_simp
            with_reducible rfl
          rotate_left
          · simp only [Act.put, List.setIfInBounds_toArray, List.set_cons_zero, List.set_cons_succ, i64_w, i32_w]
            rfl
          refine pure_ (i := 15) (N := some 79) (v := ?_) (a' := ?_) #[true, true, true, true, true, true, true, true, true, true, true, false, true, false, true, true, false, false] rfl rfl (any_of HT_.out (by kernel_rfl)) (fun _ _ _ h => h) (Or.inl ⟨by rfl, ?_⟩) ?_ ?_
          rotate_left
          · intro w'
            go_simp
            with_reducible rfl
          rotate_left
          · simp only [Act.put, List.setIfInBounds_toArray, List.set_cons_zero, List.set_cons_succ, i64_w, i32_w]
            rfl
          refine inv_at [11, 13, 16, 17] (fun a0_ b a w' => ∃ (vv : Value), a = putSel a0_ b [(11, 75, .slice ak (fld p 2).length ck), (13, 77, vv), (16, 80, .pointer (some ⟨(ad.add (fr.length * 5)).block, (ad.add (fr.length * 5)).off + 2 + 1, none⟩))] ∧ (b 13 = false → w' = wd) ∧ (b 13 = true → b 17 = false → P1 wd (.slice ak (fld p 2).length ck) (fld p 2) x vv w') ∧ (b 17 = true → P2 wd (.slice ak (fld p 2).length ck) (fld p 2) x ⟨(ad.add (fr.length * 5)).block, (ad.add (fr.length * 5)).off + 2 + 1, none⟩ vv w')) HT_.out HW_.out (by kernel_rfl) (by kernel_rfl) ?_ ?_ ?_
          · exact ⟨.bool false, by simp only [putSel, Bool.false_eq_true, if_false], fun _ => rfl, fun h_ => absurd h_ (by decide), fun h_ => absurd h_ (by decide)⟩
          · skip
            clear E0
            refine steps_cons ?_ ?_
            · rintro b a w' ⟨vv, ha, Q_E0, Q_E1, Q_E2⟩ hb_ hon hoff
              refine ⟨_, rfl, fun K hK => ?_⟩
              have e74 : a.tmps[74]? = some (.pointer (some ⟨(ad.add (fr.length * 5)).block, (ad.add (fr.length * 5)).off + 2 + 1, none⟩)) := by rw [ha]; exact (putSel_off rfl).trans rfl
              replace ha := Aside0.mk ha
              have E0 := Aside0.mk (Q_E0 (hoff 13 (by kernel_rfl)))
              have hw_ := E0.out
              have hc_ := hcell
              rw [← hw_] at hc_
              refine value_ (w1 := w') (v := .slice ak (fld p 2).length ck) (by rfl) rfl ?_ ?_
              · go_simp
                (try simp only [i64_w])
                try rfl
              refine hK.out _ _ ⟨vv, (by rw [ha.out]; exact putSel_upk 0 hb_ rfl rfl rfl), Q_E0, fun h0_ _ => absurd ((hoff 13 (by kernel_rfl)).symm.trans h0_) (by decide), fun h0_ => absurd ((hoff 17 (by kernel_rfl)).symm.trans h0_) (by decide)⟩
            refine steps_cons ?_ ?_
            · rintro b a w' ⟨vv, ha, Q_E0, Q_E1, Q_E2⟩ hb_ hon hoff
              refine ⟨_, rfl, fun K hK => ?_⟩
              have e75 : a.tmps[75]? = some (.slice ak (fld p 2).length ck) := by rw [ha]; exact putSel_on (e := (11, 75, .slice ak (fld p 2).length ck)) 0 rfl rfl (hon 11 (by kernel_rfl)) rfl
              have e76 : a.tmps[76]? = some (.slice (some ax) x.length cX) := by rw [ha]; exact (putSel_off rfl).trans rfl
              replace ha := Aside0.mk ha
              have E0 := Aside0.mk (Q_E0 hb_)
              have hw_ := E0.out
              refine app_spread_step (by rfl) (.tmp 75) (.tmp 76) rfl Tryd.underlying22 inf5 (.slice ak (fld p 2).length ck) _ (us8 (fld p 2)) x ax cX (eval_of e75) (eval_of e76) (hw_ ▸ hown.out) (hw_ ▸ hXw.out) hln.out ?_
              intro v1 w1 ho hg hat
              have S3_ : P1 wd (.slice ak (fld p 2).length ck) (fld p 2) x v1 w1 := ⟨ho, hw_ ▸ hg, hw_ ▸ hat⟩
              refine hK.out _ _ ⟨v1, (by rw [ha.out]; exact putSel_upk 1 hb_ rfl rfl rfl), fun h0_ => absurd ((up_self b 13).symm.trans h0_) (by decide), fun _ _ => S3_, fun h0_ => absurd ((hoff 17 (by kernel_rfl)).symm.trans h0_) (by decide)⟩
            refine steps_cons ?_ ?_
            · rintro b a w' ⟨vv, ha, Q_E0, Q_E1, Q_E2⟩ hb_ hon hoff
              refine ⟨_, rfl, fun K hK => ?_⟩
              have e79 : a.tmps[79]? = some (.pointer (some ⟨(ad.add (fr.length * 5)).block, (ad.add (fr.length * 5)).off + 2, none⟩)) := by rw [ha]; exact (putSel_off rfl).trans rfl
              have e67 : a.tmps[67]? = some (.int .i64 (wrap64 1)) := by rw [ha]; exact (putSel_off rfl).trans rfl
              replace ha := Aside0.mk ha
              have E1 := Aside0.mk (Q_E1 (hon 13 (by kernel_rfl)) (hoff 17 (by kernel_rfl)))
              refine value_ (w1 := w') (v := .pointer (some ⟨(ad.add (fr.length * 5)).block, (ad.add (fr.length * 5)).off + 2 + 1, none⟩)) (by rfl) rfl ?_ ?_
              · go_simp
                (try simp only [i64_w])
                try rfl
              refine hK.out _ _ ⟨vv, (by rw [ha.out]; exact putSel_upk 2 hb_ rfl rfl rfl), fun h0_ => absurd ((hon 13 (by kernel_rfl)).symm.trans h0_) (by decide), Q_E1, fun h0_ => absurd ((hoff 17 (by kernel_rfl)).symm.trans h0_) (by decide)⟩
            refine steps_cons ?_ ?_
            · rintro b a w' ⟨vv, ha, Q_E0, Q_E1, Q_E2⟩ hb_ hon hoff
              refine ⟨_, rfl, fun K hK => ?_⟩
              have e80 : a.tmps[80]? = some (.pointer (some ⟨(ad.add (fr.length * 5)).block, (ad.add (fr.length * 5)).off + 2 + 1, none⟩)) := by rw [ha]; exact putSel_on (e := (16, 80, .pointer (some ⟨(ad.add (fr.length * 5)).block, (ad.add (fr.length * 5)).off + 2 + 1, none⟩))) 2 rfl rfl (hon 16 (by kernel_rfl)) rfl
              have e77 : a.tmps[77]? = some (vv) := by rw [ha]; exact putSel_on (e := (13, 77, vv)) 1 rfl rfl (hon 13 (by kernel_rfl)) rfl
              replace ha := Aside0.mk ha
              have E1 := Aside0.mk (Q_E1 (hon 13 (by kernel_rfl)) hb_)
              obtain ⟨A_, c_, en_⟩ := E1.out.form
              obtain ⟨hc_, hf_, _⟩ := hst_.out w' vv E1.out
              refine skip_ (w1 := w'.setCell ⟨(ad.add (fr.length * 5)).block, (ad.add (fr.length * 5)).off + 2 + 1, none⟩ vv) (by rfl) rfl ?_ ?_
              · rw [en_] at e77 ⊢
                go_simp
                try rfl
              have S3_ := E1.out
              refine hK.out _ _ ⟨vv, (by rw [ha.out]; exact putSel_none (v := undef) rfl), fun h0_ => absurd ((hon 13 (by kernel_rfl)).symm.trans h0_) (by decide), fun _ h1_ => absurd ((up_self b 17).symm.trans h1_) (by decide), fun _ => ⟨w', S3_, rfl⟩⟩
            exact steps_nil
          · rintro b a w' hall ⟨vv, ha, Q_E0, Q_E1, Q_E2⟩
            clear E0
            have hb11_ := hall 11 (by kernel_rfl)
            have hb13_ := hall 13 (by kernel_rfl)
            have hb16_ := hall 16 (by kernel_rfl)
            have hb17_ := hall 17 (by kernel_rfl)
            subst ha
            simp only [putSel, hb11_, hb13_, hb16_, hb17_, if_true, Act.put, List.setIfInBounds_toArray, List.set_cons_zero, List.set_cons_succ]
            clear Q_E0
            clear Q_E1
            have E2 := Aside0.mk (Q_E2 hb17_)
            clear Q_E2
            clear hall hb11_ hb13_ hb16_ hb17_
            obtain ⟨w1_, h1_, rfl⟩ := E2.out
            obtain ⟨_, _, hI5⟩ := hst_.out w1_ vv h1_
            go_wp2
            go_roundg (L.length - (i + 1))
            case rel => exact ⟨_, wrap64 (ii + 1), 2, i + 1, by first | rfl | (simp; done) | (simp [hw1]; done), ⟨by rw [hw1]; have := hii.out; omega⟩, by first | rfl | (simp; done), by simp, by have := hii.out; omega, rfl, Aside0.mk (hnext.out.trans hyes.out), ⟨sz_add hsz.out x HX.out.2.1.2.2 2⟩, ⟨hI5⟩⟩
            case measure => have := hii.out; have := HX.out.2.2.2.2.2; omega
        · skip
          have hpn : ps ≠ [] := rdAll_ne hall.out (fun h => absurd rfl h) (by simp)
          obtain rfl | ⟨fr, p, rfl⟩ := snoc_cases ps
          · exact absurd rfl hpn
          clear hpn
          obtain rfl : m = fr.length + 1 := by rw [hm.out]; simp
          have hwj : wrap64 (fr.length : Int) = (fr.length : Int) := by have := hps5.out; simp at this; unfold wrap64; omega
          have hyes : rdStep N (fr ++ [p], 3) x = some (fr ++ [addF p x 3], 3) := by simp [rdStep, hsgq.out, onLast_snoc, addF, addSide]
          replace hyes := Aside0.mk hyes
          obtain ⟨ad, cap, vk, e1, _, _, _, _⟩ := hI.out.at 3 (by decide) x
          injection e1 with eA _ ec
          subst eA ec
          have hq0 : wrap64 2 = 2 := by unfold wrap64; omega
          have hjj := eq_true (show (fr.length : Int) < (fr.length : Int) + 1 by omega)
          go_wp2_with ((go_at_call 26; refine HMK.out.mono ?_; rintro e w3 ⟨rfl, hb3⟩))
          have hIw := hI.out.keep (below_drew1 hb3)
          have hXw := Kd.C_below HX.out.2.2.2.1 (below_drew1 hb3)
          obtain ⟨_, _, vk, e1, _, hcell, hown, hstep⟩ := hIw.at 3 (by decide) x
          obtain ⟨ak, ck, rfl, _⟩ := own_form hown
          injection e1 with e1 _ ec
          injection e1 with e1
          subst e1 ec
          have hln : (fld p 3).length + x.length ≤ 140737488355328 := by
            have := sz_fld (hsz.out.2 p (List.mem_append_right _ List.mem_cons_self)) 3
            have := hi5; have := HX.out.2.1.2.2; omega
          replace hln := Aside0.mk hln
          have hst_ : ∀ w1 v1, P1 w3.drew (.slice ak (fld p 3).length ck) (fld p 3) x v1 w1 → _ := fun w1 v1 h => hstep w1 v1 h.1 h.2.1 h.2.2
          replace hst_ := Aside0.mk hst_
          replace hown := Aside0.mk hown
          replace hXw := Aside0.mk hXw
          clear hstep hIw
          have E0 := trivial
          refine start_ (n := 18) (S := fun w' => True) (ds := []) #[false, false, false, false, false, false, false, false, false, false, false, false, false, false, false, false, false, false] (by kernel_rfl) rfl rfl trivial (fun hHeld => ?_)
          refine with_tabW mread.tab17 mread.bits17 (fun HT_ HW_ => ?_)
          generalize w3.drew = wd at hcell hown hst_ hXw hHeld ⊢
          refine pure_ (i := 0) (N := some 64) (v := ?_) (a' := ?_) #[true, false, false, false, false, false, false, false, false, false, false, false, false, false, false, false, false, false] rfl rfl (any_of HT_.out (by kernel_rfl)) (fun _ _ _ h => h) (Or.inl ⟨by rfl, ?_⟩) ?_ ?_
          rotate_left
          · intro w'
            go_simp
            with_reducible rfl
          rotate_left
          · simp only [Act.put, List.setIfInBounds_toArray, List.set_cons_zero, List.set_cons_succ, i64_w, i32_w]
            rfl
          refine pure_ (i := 1) (N := some 65) (v := ?_) (a' := ?_) #[true, true, false, false, false, false, false, false, false, false, false, false, false, false, false, false, false, false] rfl rfl (any_of HT_.out (by kernel_rfl)) (fun _ _ _ h => h) (Or.inl ⟨by rfl, ?_⟩) ?_ ?_
          rotate_left
          · intro w'
            go_simp
            with_reducible rfl
          rotate_left
          · simp only [Act.put, List.setIfInBounds_toArray, List.set_cons_zero, List.set_cons_succ, i64_w, i32_w]
            rfl
          refine pure_ (i := 2) (N := some 66) (v := ?_) (a' := ?_) #[true, true, true, false, false, false, false, false, false, false, false, false, false, false, false, false, false, false] rfl rfl (any_of HT_.out (by kernel_rfl)) (fun _ _ _ h => h) (Or.inl ⟨by rfl, ?_⟩) ?_ ?_
          rotate_left
          · intro w'
            go_simp
            with_reducible rfl
          rotate_left
          · simp only [Act.put, List.setIfInBounds_toArray, List.set_cons_zero, List.set_cons_succ, i64_w, i32_w]
            rfl
          refine pure_ (i := 3) (N := some 67) (v := ?_) (a' := ?_) #[true, true, true, true, false, false, false, false, false, false, false, false, false, false, false, false, false, false] rfl rfl (any_of HT_.out (by kernel_rfl)) (fun _ _ _ h => h) (Or.inl ⟨by rfl, ?_⟩) ?_ ?_
          rotate_left
          · intro w'
            go_simp
            with_reducible rfl
          rotate_left
          · simp only [Act.put, List.setIfInBounds_toArray, List.set_cons_zero, List.set_cons_succ, i64_w, i32_w]
            rfl
          refine pure_ (i := 4) (N := some 68) (v := ?_) (a' := ?_) #[true, true, true, true, true, false, false, false, false, false, false, false, false, false, false, false, false, false] rfl rfl (any_of HT_.out (by kernel_rfl)) (fun _ _ _ h => h) (Or.inl ⟨by rfl, ?_⟩) ?_ ?_
          rotate_left
          · intro w'
            go_simp
            with_reducible rfl
          rotate_left
          · simp only [Act.put, List.setIfInBounds_toArray, List.set_cons_zero, List.set_cons_succ, i64_w, i32_w]
            rfl
          refine pure_ (i := 5) (N := some 69) (v := ?_) (a' := ?_) #[true, true, true, true, true, true, false, false, false, false, false, false, false, false, false, false, false, false] rfl rfl (any_of HT_.out (by kernel_rfl)) (fun _ _ _ h => h) (Or.inl ⟨by rfl, ?_⟩) ?_ ?_
          rotate_left
          · intro w'
            go_simp
            with_reducible rfl
          rotate_left
          · simp only [Act.put, List.setIfInBounds_toArray, List.set_cons_zero, List.set_cons_succ, i64_w, i32_w]
            rfl
          refine pure_ (i := 6) (N := some 70) (v := ?_) (a' := ?_) #[true, true, true, true, true, true, true, false, false, false, false, false, false, false, false, false, false, false] rfl rfl (any_of HT_.out (by kernel_rfl)) (fun _ _ _ h => h) (Or.inl ⟨by rfl, ?_⟩) ?_ ?_
          rotate_left
          · intro w'
            go_simp
            with_reducible rfl
          rotate_left
          · simp only [Act.put, List.setIfInBounds_toArray, List.set_cons_zero, List.set_cons_succ, i64_w, i32_w]
            rfl
          refine pure_ (i := 7) (N := some 71) (v := ?_) (a' := ?_) #[true, true, true, true, true, true, true, true, false, false, false, false, false, false, false, false, false, false] rfl rfl (any_of HT_.out (by kernel_rfl)) (fun _ _ _ h => h) (Or.inl ⟨by rfl, ?_⟩) ?_ ?_
          rotate_left
          · intro w'
            go_simp
            with_reducible rfl
          rotate_left
          · simp only [Act.put, List.setIfInBounds_toArray, List.set_cons_zero, List.set_cons_succ, i64_w, i32_w]
            rfl
          refine pure_ (i := 8) (N := some 72) (v := ?_) (a' := ?_) #[true, true, true, true, true, true, true, true, true, false, false, false, false, false, false, false, false, false] rfl rfl (any_of HT_.out (by kernel_rfl)) (fun _ _ _ h => h) (Or.inl ⟨by rfl, ?_⟩) ?_ ?_
          rotate_left
          · intro w'
            go_simp
            with_reducible rfl
          rotate_left
          · simp only [Act.put, List.setIfInBounds_toArray, List.set_cons_zero, List.set_cons_succ, i64_w, i32_w]
            rfl
          refine pure_ (i := 9) (N := some 73) (v := ?_) (a' := ?_) #[true, true, true, true, true, true, true, true, true, true, false, false, false, false, false, false, false, false] rfl rfl (any_of HT_.out (by kernel_rfl)) (fun _ _ _ h => h) (Or.inl ⟨by rfl, ?_⟩) ?_ ?_
          rotate_left
          · intro w'
            go_simp
            with_reducible rfl
          rotate_left
          · simp only [Act.put, List.setIfInBounds_toArray, List.set_cons_zero, List.set_cons_succ, i64_w, i32_w]
            rfl
          refine pure_ (i := 10) (N := some 74) (v := ?_) (a' := ?_) #[true, true, true, true, true, true, true, true, true, true, true, false, false, false, false, false, false, false] rfl rfl (any_of HT_.out (by kernel_rfl)) (fun _ _ _ h => h) (Or.inl ⟨by rfl, ?_⟩) ?_ ?_
          rotate_left
          · intro w'
            go_simp
            with_reducible rfl
          rotate_left
          · simp only [Act.put, List.setIfInBounds_toArray, List.set_cons_zero, List.set_cons_succ, i64_w, i32_w]
            rfl
          refine pure_ (i := 12) (N := some 76) (v := ?_) (a' := ?_) #[true, true, true, true, true, true, true, true, true, true, true, false, true, false, false, false, false, false] rfl rfl (any_of HT_.out (by kernel_rfl)) (fun _ _ _ h => h) (Or.inl ⟨by rfl, ?_⟩) ?_ ?_
          rotate_left
          · intro w'
            go_simp
            with_reducible rfl
          rotate_left
          · simp only [Act.put, List.setIfInBounds_toArray, List.set_cons_zero, List.set_cons_succ, i64_w, i32_w]
            rfl
          refine pure_ (i := 14) (N := some 78) (v := ?_) (a' := ?_) #[true, true, true, true, true, true, true, true, true, true, true, false, true, false, true, false, false, false] rfl rfl (any_of HT_.out (by kernel_rfl)) (fun _ _ _ h => h) (Or.inl ⟨by rfl, ?_⟩) ?_ ?_
          rotate_left
          · intro w'
            go_simp
            with_reducible rfl
          rotate_left
          · simp only [Act.put, List.setIfInBounds_toArray, List.set_cons_zero, List.set_cons_succ, i64_w, i32_w]
            rfl
          refine pure_ (i := 15) (N := some 79) (v := ?_) (a' := ?_) #[true, true, true, true, true, true, true, true, true, true, true, false, true, false, true, true, false, false] rfl rfl (any_of HT_.out (by kernel_rfl)) (fun _ _ _ h => h) (Or.inl ⟨by rfl, ?_⟩) ?_ ?_
          rotate_left
          · intro w'
            go_simp
            with_reducible rfl
          rotate_left
          · simp only [Act.put, List.setIfInBounds_toArray, List.set_cons_zero, List.set_cons_succ, i64_w, i32_w]
            rfl
          refine inv_at [11, 13, 16, 17] (fun a0_ b a w' => ∃ (vv : Value), a = putSel a0_ b [(11, 75, .slice ak (fld p 3).length ck), (13, 77, vv), (16, 80, .pointer (some ⟨(ad.add (fr.length * 5)).block, (ad.add (fr.length * 5)).off + 2 + 2, none⟩))] ∧ (b 13 = false → w' = wd) ∧ (b 13 = true → b 17 = false → P1 wd (.slice ak (fld p 3).length ck) (fld p 3) x vv w') ∧ (b 17 = true → P2 wd (.slice ak (fld p 3).length ck) (fld p 3) x ⟨(ad.add (fr.length * 5)).block, (ad.add (fr.length * 5)).off + 2 + 2, none⟩ vv w')) HT_.out HW_.out (by kernel_rfl) (by kernel_rfl) ?_ ?_ ?_
          · exact ⟨.bool false, by simp only [putSel, Bool.false_eq_true, if_false], fun _ => rfl, fun h_ => absurd h_ (by decide), fun h_ => absurd h_ (by decide)⟩
          · skip
            clear E0
            refine steps_cons ?_ ?_
            · rintro b a w' ⟨vv, ha, Q_E0, Q_E1, Q_E2⟩ hb_ hon hoff
              refine ⟨_, rfl, fun K hK => ?_⟩
              have e74 : a.tmps[74]? = some (.pointer (some ⟨(ad.add (fr.length * 5)).block, (ad.add (fr.length * 5)).off + 2 + 2, none⟩)) := by rw [ha]; exact (putSel_off rfl).trans rfl
              replace ha := Aside0.mk ha
              have E0 := Aside0.mk (Q_E0 (hoff 13 (by kernel_rfl)))
              have hw_ := E0.out
              have hc_ := hcell
              rw [← hw_] at hc_
              refine value_ (w1 := w') (v := .slice ak (fld p 3).length ck) (by rfl) rfl ?_ ?_
              · go_simp
                (try simp only [i64_w])
                try rfl
              refine hK.out _ _ ⟨vv, (by rw [ha.out]; exact putSel_upk 0 hb_ rfl rfl rfl), Q_E0, fun h0_ _ => absurd ((hoff 13 (by kernel_rfl)).symm.trans h0_) (by decide), fun h0_ => absurd ((hoff 17 (by kernel_rfl)).symm.trans h0_) (by decide)⟩
            refine steps_cons ?_ ?_
            · rintro b a w' ⟨vv, ha, Q_E0, Q_E1, Q_E2⟩ hb_ hon hoff
              refine ⟨_, rfl, fun K hK => ?_⟩
              have e75 : a.tmps[75]? = some (.slice ak (fld p 3).length ck) := by rw [ha]; exact putSel_on (e := (11, 75, .slice ak (fld p 3).length ck)) 0 rfl rfl (hon 11 (by kernel_rfl)) rfl
              have e76 : a.tmps[76]? = some (.slice (some ax) x.length cX) := by rw [ha]; exact (putSel_off rfl).trans rfl
              replace ha := Aside0.mk ha
              have E0 := Aside0.mk (Q_E0 hb_)
              have hw_ := E0.out
              refine app_spread_step (by rfl) (.tmp 75) (.tmp 76) rfl Tryd.underlying22 inf5 (.slice ak (fld p 3).length ck) _ (us8 (fld p 3)) x ax cX (eval_of e75) (eval_of e76) (hw_ ▸ hown.out) (hw_ ▸ hXw.out) hln.out ?_
              intro v1 w1 ho hg hat
              have S3_ : P1 wd (.slice ak (fld p 3).length ck) (fld p 3) x v1 w1 := ⟨ho, hw_ ▸ hg, hw_ ▸ hat⟩
              refine hK.out _ _ ⟨v1, (by rw [ha.out]; exact putSel_upk 1 hb_ rfl rfl rfl), fun h0_ => absurd ((up_self b 13).symm.trans h0_) (by decide), fun _ _ => S3_, fun h0_ => absurd ((hoff 17 (by kernel_rfl)).symm.trans h0_) (by decide)⟩
            refine steps_cons ?_ ?_
            · rintro b a w' ⟨vv, ha, Q_E0, Q_E1, Q_E2⟩ hb_ hon hoff
              refine ⟨_, rfl, fun K hK => ?_⟩
              have e79 : a.tmps[79]? = some (.pointer (some ⟨(ad.add (fr.length * 5)).block, (ad.add (fr.length * 5)).off + 2, none⟩)) := by rw [ha]; exact (putSel_off rfl).trans rfl
              have e67 : a.tmps[67]? = some (.int .i64 (wrap64 2)) := by rw [ha]; exact (putSel_off rfl).trans rfl
              replace ha := Aside0.mk ha
              have E1 := Aside0.mk (Q_E1 (hon 13 (by kernel_rfl)) (hoff 17 (by kernel_rfl)))
              refine value_ (w1 := w') (v := .pointer (some ⟨(ad.add (fr.length * 5)).block, (ad.add (fr.length * 5)).off + 2 + 2, none⟩)) (by rfl) rfl ?_ ?_
              · go_simp
                (try simp only [i64_w])
                try rfl
              refine hK.out _ _ ⟨vv, (by rw [ha.out]; exact putSel_upk 2 hb_ rfl rfl rfl), fun h0_ => absurd ((hon 13 (by kernel_rfl)).symm.trans h0_) (by decide), Q_E1, fun h0_ => absurd ((hoff 17 (by kernel_rfl)).symm.trans h0_) (by decide)⟩
            refine steps_cons ?_ ?_
            · rintro b a w' ⟨vv, ha, Q_E0, Q_E1, Q_E2⟩ hb_ hon hoff
              refine ⟨_, rfl, fun K hK => ?_⟩
              have e80 : a.tmps[80]? = some (.pointer (some ⟨(ad.add (fr.length * 5)).block, (ad.add (fr.length * 5)).off + 2 + 2, none⟩)) := by rw [ha]; exact putSel_on (e := (16, 80, .pointer (some ⟨(ad.add (fr.length * 5)).block, (ad.add (fr.length * 5)).off + 2 + 2, none⟩))) 2 rfl rfl (hon 16 (by kernel_rfl)) rfl
              have e77 : a.tmps[77]? = some (vv) := by rw [ha]; exact putSel_on (e := (13, 77, vv)) 1 rfl rfl (hon 13 (by kernel_rfl)) rfl
              replace ha := Aside0.mk ha
              have E1 := Aside0.mk (Q_E1 (hon 13 (by kernel_rfl)) hb_)
              obtain ⟨A_, c_, en_⟩ := E1.out.form
              obtain ⟨hc_, hf_, _⟩ := hst_.out w' vv E1.out
              refine skip_ (w1 := w'.setCell ⟨(ad.add (fr.length * 5)).block, (ad.add (fr.length * 5)).off + 2 + 2, none⟩ vv) (by rfl) rfl ?_ ?_
              · rw [en_] at e77 ⊢
                go_simp
                try rfl
              have S3_ := E1.out
              refine hK.out _ _ ⟨vv, (by rw [ha.out]; exact putSel_none (v := undef) rfl), fun h0_ => absurd ((hon 13 (by kernel_rfl)).symm.trans h0_) (by decide), fun _ h1_ => absurd ((up_self b 17).symm.trans h1_) (by decide), fun _ => ⟨w', S3_, rfl⟩⟩
            exact steps_nil
          · rintro b a w' hall ⟨vv, ha, Q_E0, Q_E1, Q_E2⟩
            clear E0
            have hb11_ := hall 11 (by kernel_rfl)
            have hb13_ := hall 13 (by kernel_rfl)
            have hb16_ := hall 16 (by kernel_rfl)
            have hb17_ := hall 17 (by kernel_rfl)
            subst ha
            simp only [putSel, hb11_, hb13_, hb16_, hb17_, if_true, Act.put, List.setIfInBounds_toArray, List.set_cons_zero, List.set_cons_succ]
            clear Q_E0
            clear Q_E1
            have E2 := Aside0.mk (Q_E2 hb17_)
            clear Q_E2
            clear hall hb11_ hb13_ hb16_ hb17_
            obtain ⟨w1_, h1_, rfl⟩ := E2.out
            obtain ⟨_, _, hI5⟩ := hst_.out w1_ vv h1_
            go_wp2
            go_roundg (L.length - (i + 1))
            case rel => exact ⟨_, wrap64 (ii + 1), 3, i + 1, by first | rfl | (simp; done) | (simp [hw1]; done), ⟨by rw [hw1]; have := hii.out; omega⟩, by first | rfl | (simp; done), by simp, by have := hii.out; omega, rfl, Aside0.mk (hnext.out.trans hyes.out), ⟨sz_add hsz.out x HX.out.2.1.2.2 3⟩, ⟨hI5⟩⟩
            case measure => have := hii.out; have := HX.out.2.2.2.2.2; omega
      rcases hsg with rfl | hsg
      · rcases hst with rfl | rfl | rfl | rfl
        · skip
          have hyes : rdStep N (ps, 0) x = some (ps ++ [nwPt true], 1) := by simp [rdStep, hsgq.out]
          go_wp2_with (first | ((go_at_call 26; refine HMK.out.mono ?_; rintro e w3 ⟨rfl, hb3⟩); have hI3 := hI.out.keep hb3) | ((with_reducible refine gate_builtin (b := .append) (xs := #[.tmp 88, .tmp 90]) rfl ?_); at_builtin; refine app_push rfl (.tmp 88) (.tmp 90) 104 rfl Tryd.underlying23 inf50 (by decide) hI3 hps5.out _ hm.out.symm true rfl rfl ?_; intro Ao2 co2 w4 hI4))
          go_roundg (L.length - (i + 1))
          case rel => exact ⟨ps ++ [nwPt true], wrap64 (ii + 1), 1, i + 1, by first | rfl | (simp; done) | (simp [hw1]; done), ⟨by rw [hw1]; have := hii.out; omega⟩, by first | rfl | (simp; done), by simp, by have := hii.out; omega, rfl, Aside0.mk (hnext.out.trans hyes), ⟨sz_push hsz.out true⟩, ⟨hI4⟩⟩
          case measure => have := hii.out; have := HX.out.2.2.2.2.2; omega
        · skip
          have hno : rdStep N (ps, 1) x = none := by simp [rdStep, hsgq.out]
          have hR0 : R = ([], 5) := by
            rw [HRES.out, rdAll_none (hnext.out.trans hno)]
          go_wp2_with ((go_at_call 26; refine HMK.out.mono ?_; rintro e w3 ⟨rfl, hb3⟩))
          refine bodyPost_ret (results_tmp2 rfl _ _ _) rfl ?_
          rw [hR0]
          exact ⟨none, 0, rfl, Nat.zero_le _, Kd.C_nil kP _, hB2.out.trans (below_lo (hI.out.below.trans (below_lo hb3 hI.out.below.size)) hB2.out.size)⟩
        · skip
          have hno : rdStep N (ps, 2) x = none := by simp [rdStep, hsgq.out]
          have hR0 : R = ([], 5) := by
            rw [HRES.out, rdAll_none (hnext.out.trans hno)]
          go_wp2_with ((go_at_call 26; refine HMK.out.mono ?_; rintro e w3 ⟨rfl, hb3⟩))
          refine bodyPost_ret (results_tmp2 rfl _ _ _) rfl ?_
          rw [hR0]
          exact ⟨none, 0, rfl, Nat.zero_le _, Kd.C_nil kP _, hB2.out.trans (below_lo (hI.out.below.trans (below_lo hb3 hI.out.below.size)) hB2.out.size)⟩
        · skip
          have hno : rdStep N (ps, 3) x = none := by simp [rdStep, hsgq.out]
          have hR0 : R = ([], 5) := by
            rw [HRES.out, rdAll_none (hnext.out.trans hno)]
          go_wp2_with ((go_at_call 26; refine HMK.out.mono ?_; rintro e w3 ⟨rfl, hb3⟩))
          refine bodyPost_ret (results_tmp2 rfl _ _ _) rfl ?_
          rw [hR0]
          exact ⟨none, 0, rfl, Nat.zero_le _, Kd.C_nil kP _, hB2.out.trans (below_lo (hI.out.below.trans (below_lo hb3 hI.out.below.size)) hB2.out.size)⟩
      rcases hsg with rfl | hsg
      · rcases hst with rfl | rfl | rfl | rfl
        · skip
          have hno : rdStep N (ps, 0) x = none := by simp [rdStep, hsgq.out]
          have hR0 : R = ([], 5) := by
            rw [HRES.out, rdAll_none (hnext.out.trans hno)]
          go_wp2_with ((go_at_call 26; refine HMK.out.mono ?_; rintro e w3 ⟨rfl, hb3⟩))
          refine bodyPost_ret (results_tmp2 rfl _ _ _) rfl ?_
          rw [hR0]
          exact ⟨none, 0, rfl, Nat.zero_le _, Kd.C_nil kP _, hB2.out.trans (below_lo (hI.out.below.trans (below_lo hb3 hI.out.below.size)) hB2.out.size)⟩
        · skip
          have hyes : rdStep N (ps, 1) x = some (ps, 2) := by simp [rdStep, hsgq.out]
          go_wp2_with ((go_at_call 26; refine HMK.out.mono ?_; rintro e w3 ⟨rfl, hb3⟩); have hI3 := hI.out.keep hb3)
          go_roundg (L.length - (i + 1))
          case rel => exact ⟨ps, wrap64 (ii + 1), 2, i + 1, by first | rfl | (simp; done) | (simp [hw1]; done), ⟨by rw [hw1]; have := hii.out; omega⟩, by first | rfl | (simp; done), by simp, by have := hii.out; omega, rfl, Aside0.mk (hnext.out.trans hyes), ⟨sz_mono hsz.out⟩, ⟨hI3⟩⟩
          case measure => have := hii.out; have := HX.out.2.2.2.2.2; omega
        · skip
          have hno : rdStep N (ps, 2) x = none := by simp [rdStep, hsgq.out]
          have hR0 : R = ([], 5) := by
            rw [HRES.out, rdAll_none (hnext.out.trans hno)]
          go_wp2_with ((go_at_call 26; refine HMK.out.mono ?_; rintro e w3 ⟨rfl, hb3⟩))
          refine bodyPost_ret (results_tmp2 rfl _ _ _) rfl ?_
          rw [hR0]
          exact ⟨none, 0, rfl, Nat.zero_le _, Kd.C_nil kP _, hB2.out.trans (below_lo (hI.out.below.trans (below_lo hb3 hI.out.below.size)) hB2.out.size)⟩
        · skip
          have hno : rdStep N (ps, 3) x = none := by simp [rdStep, hsgq.out]
          have hR0 : R = ([], 5) := by
            rw [HRES.out, rdAll_none (hnext.out.trans hno)]
          go_wp2_with ((go_at_call 26; refine HMK.out.mono ?_; rintro e w3 ⟨rfl, hb3⟩))
          refine bodyPost_ret (results_tmp2 rfl _ _ _) rfl ?_
          rw [hR0]
          exact ⟨none, 0, rfl, Nat.zero_le _, Kd.C_nil kP _, hB2.out.trans (below_lo (hI.out.below.trans (below_lo hb3 hI.out.below.size)) hB2.out.size)⟩
      rcases hsg with rfl | hsg
      · rcases hst with rfl | rfl | rfl | rfl
        · skip
          have hno : rdStep N (ps, 0) x = none := by simp [rdStep, hsgq.out]
          have hR0 : R = ([], 5) := by
            rw [HRES.out, rdAll_none (hnext.out.trans hno)]
          go_wp2_with ((go_at_call 26; refine HMK.out.mono ?_; rintro e w3 ⟨rfl, hb3⟩))
          refine bodyPost_ret (results_tmp2 rfl _ _ _) rfl ?_
          rw [hR0]
          exact ⟨none, 0, rfl, Nat.zero_le _, Kd.C_nil kP _, hB2.out.trans (below_lo (hI.out.below.trans (below_lo hb3 hI.out.below.size)) hB2.out.size)⟩
        · skip
          have hno : rdStep N (ps, 1) x = none := by simp [rdStep, hsgq.out]
          have hR0 : R = ([], 5) := by
            rw [HRES.out, rdAll_none (hnext.out.trans hno)]
          go_wp2_with ((go_at_call 26; refine HMK.out.mono ?_; rintro e w3 ⟨rfl, hb3⟩))
          refine bodyPost_ret (results_tmp2 rfl _ _ _) rfl ?_
          rw [hR0]
          exact ⟨none, 0, rfl, Nat.zero_le _, Kd.C_nil kP _, hB2.out.trans (below_lo (hI.out.below.trans (below_lo hb3 hI.out.below.size)) hB2.out.size)⟩
        · skip
          have hyes : rdStep N (ps, 2) x = some (ps, 3) := by simp [rdStep, hsgq.out]
          go_wp2_with ((go_at_call 26; refine HMK.out.mono ?_; rintro e w3 ⟨rfl, hb3⟩); have hI3 := hI.out.keep hb3)
          go_roundg (L.length - (i + 1))
          case rel => exact ⟨ps, wrap64 (ii + 1), 3, i + 1, by first | rfl | (simp; done) | (simp [hw1]; done), ⟨by rw [hw1]; have := hii.out; omega⟩, by first | rfl | (simp; done), by simp, by have := hii.out; omega, rfl, Aside0.mk (hnext.out.trans hyes), ⟨sz_mono hsz.out⟩, ⟨hI3⟩⟩
          case measure => have := hii.out; have := HX.out.2.2.2.2.2; omega
        · skip
          have hno : rdStep N (ps, 3) x = none := by simp [rdStep, hsgq.out]
          have hR0 : R = ([], 5) := by
            rw [HRES.out, rdAll_none (hnext.out.trans hno)]
          go_wp2_with ((go_at_call 26; refine HMK.out.mono ?_; rintro e w3 ⟨rfl, hb3⟩))
          refine bodyPost_ret (results_tmp2 rfl _ _ _) rfl ?_
          rw [hR0]
          exact ⟨none, 0, rfl, Nat.zero_le _, Kd.C_nil kP _, hB2.out.trans (below_lo (hI.out.below.trans (below_lo hb3 hI.out.below.size)) hB2.out.size)⟩
      subst hsg
      rcases hst with rfl | rfl | rfl | rfl
      · skip
        have hno : rdStep N (ps, 0) x = none := by simp [rdStep, hsgq.out]
        have hR0 : R = ([], 5) := by
          rw [HRES.out, rdAll_none (hnext.out.trans hno)]
        go_wp2_with ((go_at_call 26; refine HMK.out.mono ?_; rintro e w3 ⟨rfl, hb3⟩))
        refine bodyPost_ret (results_tmp2 rfl _ _ _) rfl ?_
        rw [hR0]
        exact ⟨none, 0, rfl, Nat.zero_le _, Kd.C_nil kP _, hB2.out.trans (below_lo (hI.out.below.trans (below_lo hb3 hI.out.below.size)) hB2.out.size)⟩
      · skip
        have hno : rdStep N (ps, 1) x = none := by simp [rdStep, hsgq.out]
        have hR0 : R = ([], 5) := by
          rw [HRES.out, rdAll_none (hnext.out.trans hno)]
        go_wp2_with ((go_at_call 26; refine HMK.out.mono ?_; rintro e w3 ⟨rfl, hb3⟩))
        refine bodyPost_ret (results_tmp2 rfl _ _ _) rfl ?_
        rw [hR0]
        exact ⟨none, 0, rfl, Nat.zero_le _, Kd.C_nil kP _, hB2.out.trans (below_lo (hI.out.below.trans (below_lo hb3 hI.out.below.size)) hB2.out.size)⟩
      · skip
        have hno : rdStep N (ps, 2) x = none := by simp [rdStep, hsgq.out]
        have hR0 : R = ([], 5) := by
          rw [HRES.out, rdAll_none (hnext.out.trans hno)]
        go_wp2_with ((go_at_call 26; refine HMK.out.mono ?_; rintro e w3 ⟨rfl, hb3⟩))
        refine bodyPost_ret (results_tmp2 rfl _ _ _) rfl ?_
        rw [hR0]
        exact ⟨none, 0, rfl, Nat.zero_le _, Kd.C_nil kP _, hB2.out.trans (below_lo (hI.out.below.trans (below_lo hb3 hI.out.below.size)) hB2.out.size)⟩
      · skip
        have hyes : rdStep N (ps, 3) x = some (ps, 0) := by simp [rdStep, hsgq.out]
        go_wp2_with ((go_at_call 26; refine HMK.out.mono ?_; rintro e w3 ⟨rfl, hb3⟩); have hI3 := hI.out.keep hb3)
        go_roundg (L.length - (i + 1))
        case rel => exact ⟨ps, wrap64 (ii + 1), 0, i + 1, by first | rfl | (simp; done) | (simp [hw1]; done), ⟨by rw [hw1]; have := hii.out; omega⟩, by first | rfl | (simp; done), by simp, by have := hii.out; omega, rfl, Aside0.mk (hnext.out.trans hyes), ⟨sz_mono hsz.out⟩, ⟨hI3⟩⟩
        case measure => have := hii.out; have := HX.out.2.2.2.2.2; omega
    · have hi' : i = L.length := by have := hii.out; omega
      have hall2 : rdAll N L ([], 0) = some (ps, sti.toNat) := by have := hall.out; rwa [hi', List.take_length] at this
      rcases hst with rfl | rfl | rfl | rfl
      · obtain ⟨Ao, co, rfl, hoc, hC⟩ := hI.out.out
        replace hall2 := Aside0.mk hall2
        clear hi'
        go_wp2
        refine bodyPost_ret (results_tmp2 rfl _ _ _) rfl ?_
        have hR0 : R = (ps, 0) := by rw [HRES.out, hall2.out]; rfl
        rw [hR0]
        exact ⟨Ao, co, rfl, hoc, hC, hB2.out.trans (below_lo hI.out.below hB2.out.size)⟩
      all_goals
        replace hall2 := Aside0.mk hall2
        clear hi'
        go_wp2
        refine bodyPost_ret (results_tmp2 rfl _ _ _) rfl ?_
        have hR0 : R = ([], 5) := by rw [HRES.out, hall2.out]; rfl
        rw [hR0]
        exact ⟨none, 0, rfl, Nat.zero_le _, Kd.C_nil kP _, hB2.out.trans (below_lo hI.out.below hB2.out.size)⟩
 · have hright : mark_right.f n = some false := by
     unfold mark_right.f
     by_cases h : n ≥ 1
     · rw [if_pos h]; have : ¬ n ≤ 16777216 := fun h2 => hn ⟨h, h2⟩; simp [this]
     · rw [if_neg h]
   have hres : readOf n b = ([], 1) := by unfold readOf; rw [if_neg hn]
   rw [hres]
   clear hn hres
   go_enter Tryd.func9, Tryd.ntmps9
   go_wp2_with (go_at_call 24; refine (mark_right.calls _ false _ hright).mono ?_; rintro e w1 ⟨rfl, hb1⟩; replace hb1 := drawn_below hb1)
   refine bodyPost_ret (results_tmp2 rfl _ _ _) rfl ?_
   exact ⟨none, 0, rfl, Nat.zero_le _, Kd.C_nil kP _, hb1⟩
end Go.Proofs.YtnnnbeimehfiiaaDoor.Q
/-! The chapter's example in plain Lean. -/
set_option linter.unusedVariables false
namespace Go.Proofs.YtnnnbeimehfiiaaDoor.Q
open Go Go.RowKit Go.Proofs.YtnnnbeimehfiiaaDoorW.PrintWords Go.Proofs.YtnnnbeimehfiiaaDoorW.SL
def knP : Pt := ⟨true, [], [120], [121], [122]⟩
def knT : List Int := [60, 60, 60, 60, 60, 60, 60, 32, 97, 10, 120, 10, 124, 124, 124, 124, 124, 124, 124, 32, 98, 10, 121, 10, 61, 61, 61, 61, 61, 61, 61, 10, 122, 10, 62, 62, 62, 62, 62, 62, 62, 32, 99, 10]
def knQ : Pt := ⟨true, [], [120, 10], [121, 10], [122, 10]⟩
theorem kn_w : writeOf 7 ⟨#[97]⟩ ⟨#[98]⟩ ⟨#[99]⟩ [knP] = (knT, 0) := by kernel_rfl
theorem kn_r : readOf 7 knT = ([knQ], 0) := by kernel_rfl
theorem kn_e : readOf 7 [60, 60, 60, 60, 60, 60, 60, 10] = ([], 5) := by kernel_rfl
end Go.Proofs.YtnnnbeimehfiiaaDoor.Q
-- Written by a program of this session (wip/gen_kn.py) for this claim; Lean checks it.
/-! known, walked. -/
set_option linter.unusedVariables false
set_option linter.unusedSimpArgs false
namespace Go.Proofs.YtnnnbeimehfiiaaDoor.Q
open Go Go.RowKit Go.Proofs.YtnnnbeimehfiiaaDoorW.PrintWords Go.Proofs.YtnnnbeimehfiiaaDoorW.PrintLast Go.Proofs.YtnnnbeimehfiiaaDoorW.PrintMore Go.Proofs.YtnnnbeimehfiiaaDoorW.SL
attribute [local go_sem] max2_int min2_int max_two min_two max_three min_three max_four min_four
theorem kn_b : ∀ x ∈ knT, byte x := by intro x hx; simp only [knT, List.mem_cons, List.not_mem_nil, or_false] at hx; unfold byte; omega
theorem kn_b2 : ∀ x ∈ ([60, 60, 60, 60, 60, 60, 60, 10] : List Int), byte x := by intro x hx; simp only [List.mem_cons, List.not_mem_nil, or_false] at hx; unfold byte; omega
theorem kn_s : strOfNums knT = (⟨#[60, 60, 60, 60, 60, 60, 60, 32, 97, 10, 120, 10, 124, 124, 124, 124, 124, 124, 124, 32, 98, 10, 121, 10, 61, 61, 61, 61, 61, 61, 61, 10, 122, 10, 62, 62, 62, 62, 62, 62, 62, 32, 99, 10]⟩ : ByteArray) := by kernel_rfl
theorem kn_s2 : strOfNums [122, 10] = (⟨#[122, 10]⟩ : ByteArray) := by kernel_rfl
theorem five_at (w : World) (o1 o2 o3 o4 o5 : Obj) : (((((w.alloc o1).alloc o2).alloc o3).alloc o4).alloc o5).heap[w.heap.size]? = some o1 ∧ (((((w.alloc o1).alloc o2).alloc o3).alloc o4).alloc o5).heap[w.heap.size + 1]? = some o2 ∧ (((((w.alloc o1).alloc o2).alloc o3).alloc o4).alloc o5).heap[w.heap.size + 1 + 1]? = some o3 ∧ (((((w.alloc o1).alloc o2).alloc o3).alloc o4).alloc o5).heap[w.heap.size + 1 + 1 + 1 + 1]? = some o5 ∧ Below w.heap.size w (((((w.alloc o1).alloc o2).alloc o3).alloc o4).alloc o5) ∧ w.heap.size ≤ (((((w.alloc o1).alloc o2).alloc o3).alloc o4).alloc o5).heap.size := by
  have z1 : (w.alloc o1).heap.size = w.heap.size + 1 := by simp
  obtain ⟨w1, h1⟩ : ∃ w1, w.alloc o1 = w1 := ⟨_, rfl⟩
  have e1 : w1.heap[w.heap.size]? = some o1 := by rw [← h1]; exact heap_alloc_new w o1
  have b1 : Below w.heap.size w w1 := by rw [← h1]; exact below_alloc (Below.refl _ _) _
  rw [h1] at z1 ⊢
  have z2 : (w1.alloc o2).heap.size = w.heap.size + 1 + 1 := by simp [z1]
  obtain ⟨w2, h2⟩ : ∃ w2, w1.alloc o2 = w2 := ⟨_, rfl⟩
  have e2 : w2.heap[w.heap.size + 1]? = some o2 := by rw [← h2, ← z1]; exact heap_alloc_new w1 o2
  have b2 : Below w1.heap.size w1 w2 := by rw [← h2]; exact below_alloc (Below.refl _ _) _
  rw [h2] at z2 ⊢
  have z3 : (w2.alloc o3).heap.size = w.heap.size + 1 + 1 + 1 := by simp [z2]
  obtain ⟨w3, h3⟩ : ∃ w3, w2.alloc o3 = w3 := ⟨_, rfl⟩
  have e3 : w3.heap[w.heap.size + 1 + 1]? = some o3 := by rw [← h3, ← z2]; exact heap_alloc_new w2 o3
  have b3 : Below w2.heap.size w2 w3 := by rw [← h3]; exact below_alloc (Below.refl _ _) _
  rw [h3] at z3 ⊢
  have z4 : (w3.alloc o4).heap.size = w.heap.size + 1 + 1 + 1 + 1 := by simp [z3]
  obtain ⟨w4, h4⟩ : ∃ w4, w3.alloc o4 = w4 := ⟨_, rfl⟩
  have b4 : Below w3.heap.size w3 w4 := by rw [← h4]; exact below_alloc (Below.refl _ _) _
  rw [h4] at z4 ⊢
  obtain ⟨w5, h5⟩ : ∃ w5, w4.alloc o5 = w5 := ⟨_, rfl⟩
  have e5 : w5.heap[w.heap.size + 1 + 1 + 1 + 1]? = some o5 := by rw [← h5, ← z4]; exact heap_alloc_new w4 o5
  have b5 : Below w4.heap.size w4 w5 := by rw [← h5]; exact below_alloc (Below.refl _ _) _
  rw [h5]
  have s5 := b5.size
  refine ⟨?_, ?_, ?_, e5, ?_, by omega⟩
  · rw [b5.block _ (by omega), b4.block _ (by omega), b3.block _ (by omega), b2.block _ (by omega)]; exact e1
  · rw [b5.block _ (by omega), b4.block _ (by omega), b3.block _ (by omega)]; exact e2
  · rw [b5.block _ (by omega), b4.block _ (by omega)]; exact e3
  · exact (((b1.trans (below_lo b2 (by omega))).trans (below_lo b3 (by omega))).trans (below_lo b4 (by omega))).trans (below_lo b5 (by omega))
theorem kn_C {W : World} {g a1 a2 a3 t : Nat} (h : W.heap[g]? = some (.cells #[.bool true, .slice none 0 0, .slice (some ⟨a1, 0, none⟩) 1 1, .slice (some ⟨a2, 0, none⟩) 1 1, .slice (some ⟨a3, 0, none⟩) 1 1] t (0, 0))) (h1 : W.heap[a1]? = some (.cells #[.int .u8 120] 5 (1, 2))) (h2 : W.heap[a2]? = some (.cells #[.int .u8 121] 5 (1, 2))) (h3 : W.heap[a3]? = some (.cells #[.int .u8 122] 5 (1, 2))) :
    Kd.C kP W (some ⟨g, 0, none⟩) [knP].length [knP] := by
  refine ⟨rfl, by decide, fun _ => ⟨_, rfl, fun j x hj => ?_⟩⟩
  cases j with
  | zero =>
    simp only [List.getElem?_cons_zero, Option.some.injEq] at hj
    subst hj
    refine ⟨_, by rfl, kP_mk W knP (A1 := none) (c1 := 0) (A2 := some ⟨a1, 0, none⟩) (c2 := 1) (A3 := some ⟨a2, 0, none⟩) (c3 := 1) (A4 := some ⟨a3, 0, none⟩) (c4 := 1) ⟨Nat.le_refl _, Kd.C_nil B8 _⟩ ⟨Nat.le_refl _, lit_C (cs := [120]) h1 (by decide)⟩ ⟨Nat.le_refl _, lit_C (cs := [121]) h2 (by decide)⟩ ⟨Nat.le_refl _, lit_C (cs := [122]) h3 (by decide)⟩, fun i u hi => ?_⟩
    rw [base_add, blk_cell h]
    rw [← Array.getElem?_toList]
    refine Eq.trans ?_ hi
    simp [knP]
  | succ j => simp at hj
set_option maxHeartbeats 16000000 in
set_option maxRecDepth 100000 in
theorem known_walk (w : World) : Calls Tryd.prog 11 #[] w fun e w' => e = .returned (.bool true) ∧ Below w.heap.size w w' := by
  obtain ⟨wa, hwa⟩ : ∃ wa, wa = w.alloc (.cells #[.int .u8 120] 5 (1, 2)) := ⟨_, rfl⟩
  obtain ⟨wb, hwb⟩ : ∃ wb, wb = wa.alloc (.cells #[.int .u8 121] 5 (1, 2)) := ⟨_, rfl⟩
  have hca := Go.Joins.run_convert_bytes_const_at (P := Tryd.prog) w 22 5 #[.int .u8 120] 1 1 w.heap.size rfl Tryd.underlying22 Tryd.underlying5
  have hcb := Go.Joins.run_convert_bytes_const_at (P := Tryd.prog) wa 22 5 #[.int .u8 121] 1 1 (w.heap.size + 1) (by rw [hwa]; simp) Tryd.underlying22 Tryd.underlying5
  have hcc := Go.Joins.run_convert_bytes_const_at (P := Tryd.prog) wb 22 5 #[.int .u8 122] 1 1 (w.heap.size + 1 + 1) (by rw [hwb, hwa]; simp) Tryd.underlying22 Tryd.underlying5
  rw [hwb, hwa] at hcc
  rw [hwa] at hcb
  clear hwa hwb
  go_enter Tryd.func11, Tryd.ntmps11
  go_wp2_with (first | (go_at_call 19; refine (Write_calls 7 ⟨#[97]⟩ ⟨#[98]⟩ ⟨#[99]⟩ (some ⟨w.heap.size + 1 + 1 + 1 + 1, 0, none⟩) 1 [knP] _ (kn_C (t := 50) (a1 := w.heap.size) (a2 := w.heap.size + 1) (a3 := w.heap.size + 1 + 1) (five_at w _ _ _ _ _).2.2.2.1 (five_at w _ _ _ _ _).1 (five_at w _ _ _ _ _).2.1 (five_at w _ _ _ _ _).2.2.1) (Nat.le_refl _) (by decide) (by intro p hp; rw [List.mem_singleton] at hp; subst hp; decide) (by decide) (by decide) (by decide)).mono ?_; rw [kn_w]; rintro e w1 ⟨A1, c1, rfl, hc1, hC1, hb1⟩; have HB1 : Aside0 (Below w.heap.size w w1) := ⟨(five_at w _ _ _ _ _).2.2.2.2.1.trans (below_lo hb1 (five_at w _ _ _ _ _).2.2.2.2.2)⟩; replace hC1 := Aside0.mk hC1; replace hc1 := Aside0.mk hc1; clear hb1) | (go_at_call 9; refine (read_calls 7 A1 c1 knT w1 hC1.out hc1.out kn_b (by decide)).mono ?_; rw [kn_r]; rintro e w2 ⟨A2, c2, rfl, hc2, hC2, hb2⟩; have HB2 := Aside0.mk (HB1.out.trans (below_lo hb2 HB1.out.size)); replace hC1 := Aside0.mk (Kd.C_below hC1.out hb2); replace hC2 := Aside0.mk hC2; have hcd := Go.Joins.run_convert_bytes_const_at (P := Tryd.prog) w2 22 5 #[.int .u8 60, .int .u8 60, .int .u8 60, .int .u8 60, .int .u8 60, .int .u8 60, .int .u8 60, .int .u8 10] 8 8 w2.heap.size rfl Tryd.underlying22 Tryd.underlying5; clear hb2) | (go_at_call 9; refine (read_calls 7 (some ⟨w2.heap.size, 0, none⟩) 8 [60, 60, 60, 60, 60, 60, 60, 10] _ (lit_C (cs := [60, 60, 60, 60, 60, 60, 60, 10]) (heap_alloc_new w2 _) (by decide)) (Nat.le_refl _) kn_b2 (by decide)).mono ?_; rw [kn_e]; rintro e w3 ⟨A3, c3, rfl, _, _, hb3⟩; have hb3_ := (below_alloc (Below.refl _ _) _).trans (below_lo hb3 (by simp)); have HB3 := Aside0.mk (HB2.out.trans (below_lo hb3_ HB2.out.size)); replace hC1 := Kd.C_below hC1.out hb3_; replace hC2 := Kd.C_below hC2.out hb3_; clear hb3 hb3_; have hst1 := Kd.C_string (P := Tryd.prog) (c := c1) Tryd.underlying22 Tryd.underlying5 Tryd.underlying9 hC1; rw [kn_s] at hst1; obtain ⟨a2, x2, B1, d1, B2, d2, B3, d3, B4, d4, rfl, hx2, _, q0, q1, q2, q3, q4, k1, k2, k3, k4⟩ := at_Pt (Kd.C_F kP_heap hC2) 0 (Int.le_refl _) (by decide); obtain rfl : knQ = x2 := Option.some.inj hx2; have hst2 := Kd.C_string (P := Tryd.prog) (c := d4) Tryd.underlying22 Tryd.underlying5 Tryd.underlying9 (Kd.F_now k4.2); rw [show knQ.s2 = [122, 10] from rfl, kn_s2] at hst2; have e0_ : a2.add ((0 : Int).toNat * 5) = a2 := (by simp [Addr.add]); rw [e0_] at q0 q4; replace q0 : w3.cell? a2 = some (.bool true) := q0; replace q4 : w3.cell? ⟨a2.block, a2.off + 4, none⟩ = some (.slice B4 2 d4) := q4; replace hst2 : (convert 22 9 (.slice B4 2 d4)).run Tryd.prog w3 = .ok (.string ⟨#[122, 10]⟩) w3 := hst2; clear e0_ q1 q2 q3; replace hC1 := Aside0.mk hC1; replace hC2 := Aside0.mk hC2; clear k1 k2 k3 k4 hx2))
  go_ret
  exact ⟨rfl, HB3.out⟩
end Go.Proofs.YtnnnbeimehfiiaaDoor.Q
-- Written by a program of this session (wip/gen_as.py) for this claim; Lean checks it.
/-! as: the program's parts as the document's, walked. -/
set_option linter.unusedVariables false
set_option linter.unusedSimpArgs false
namespace Go.Proofs.YtnnnbeimehfiiaaDoor.Q
open Go Go.RowKit Go.Proofs.YtnnnbeimehfiiaaDoorW.PrintWords Go.Proofs.YtnnnbeimehfiiaaDoorW.PrintLast Go.Proofs.YtnnnbeimehfiiaaDoorW.PrintMore Go.Proofs.YtnnnbeimehfiiaaDoorW.SL
attribute [local go_sem] max2_int min2_int max_two min_two max_three min_three max_four min_four
theorem inf44 : (Tryd.prog.info? 44).map (fun i => (i.zero, i.size, i.bytes)) = some (some (.agg #[.bool false, .slice none 0 0, .slice none 0 0, .slice none 0 0, .slice none 0 0]), 5, 104) := by kernel_rfl
theorem kpF_snoc {ps : List Pt} {cells : List Value} {w : World} {Z : Nat → Prop} {p : Pt} {cs : List Value} (h : (kpF ps cells).P w Z) (hl : cs.length = 5) (hp : Kd.FK kP w Z p cs) : (kpF (ps ++ [p]) (cells ++ cs)).P w Z := by
  refine ⟨by simp [h.1, hl, Nat.add_mul], fun j q hq => ?_⟩
  by_cases hj : j < ps.length
  · rw [List.getElem?_append_left hj] at hq
    have hle : j * 5 + 5 ≤ cells.length := by have := h.1; omega
    rw [List.drop_append_of_le_length (by omega), List.take_append_of_le_length (by rw [List.length_drop]; omega)]
    exact h.2 j q hq
  · have hj2 : j = ps.length := by have := (List.getElem?_eq_some_iff.1 hq).1; simp at this; omega
    subst hj2
    simp only [List.getElem?_append_right (Nat.le_refl _), Nat.sub_self, List.getElem?_cons_zero, Option.some.injEq] at hq
    subst hq
    rw [← h.1, List.drop_left, List.take_of_length_le (by omega)]
    exact hp
/-- A row of parts, all kept: read. -/
theorem rowP_C {w : World} {Z : Nat → Prop} {vo : Value} {e : TypeId} {ps : List Pt} {cells : List Value} (ho : w.ownsRow 0 e 5 vo ps.length cells) (hk : (kpF ps cells).P w Z) : ∃ (A : Option Addr) (c : Nat), vo = .slice A ps.length c ∧ ps.length ≤ c ∧ Kd.C kP w A ps.length ps := by
  rcases ho.2 with ⟨h1, h2⟩ | ⟨g, cap, cur, h1, _, hg, hnc, hcm, hcs, ht⟩
  · refine ⟨none, 0, by rw [h1, h2], by omega, rfl, by omega, fun hp => by omega⟩
  · refine ⟨_, cap, h1, hnc, rfl, by simp only [maxLen] at hcm; omega, fun hp => ?_⟩
    refine ⟨_, rfl, fun j p hj => ⟨(cells.drop (j * 5)).take 5, ?_, Kd.FK_now (hk.2 j p hj), fun i u hi => ?_⟩⟩
    · have hjl := (List.getElem?_eq_some_iff.1 hj).1
      have := hk.1
      rw [List.length_take, List.length_drop]
      show min 5 _ = 5
      omega
    · rw [List.getElem?_take] at hi
      split at hi
      · rw [List.getElem?_drop] at hi
        exact ho.cells (g := g) (by rw [h1]; rfl) _ _ hi
      · cases hi
/-- Parts gathered: the row, all it leads to kept. -/
def AsI (w0 : World) (F0 : List FA) (ps : List Pt) (vo : Value) (W : World) : Prop := ∃ (Z : Nat → Prop) (cells : List Value), Stt w0 Z [row vo 44 5 ps.length cells] (kpF ps cells :: F0) W
theorem AsI.start {w0 w : World} {F0 : List FA} {Z : Nat → Prop} (S : Stt w0 Z [] F0 w) : AsI w0 F0 [] (.slice none 0 0) w :=
  ⟨Z, [], (S.with (S.st.row_nil 44 5)).add ⟨rfl, fun j p h => by simp at h⟩⟩
theorem AsI.keep {w0 w w' : World} {F0 : List FA} {ps : List Pt} {vo : Value} (h : AsI w0 F0 ps vo w) (hb : Below w.heap.size w w') : AsI w0 F0 ps vo w' := by
  obtain ⟨Z, cells, S⟩ := h
  exact ⟨Z, cells, S.keep hb⟩
theorem AsI.below {w0 w : World} {F0 : List FA} {ps : List Pt} {vo : Value} (h : AsI w0 F0 ps vo w) : Below w0.heap.size w0 w := by
  obtain ⟨Z, cells, S⟩ := h
  exact S.below
theorem AsI.form {w0 w : World} {F0 : List FA} {ps : List Pt} {vo : Value} (h : AsI w0 F0 ps vo w) : ∃ A c, vo = .slice A ps.length c := by
  obtain ⟨Z, cells, S⟩ := h
  obtain ⟨A, c, e, _⟩ := own_form (S.rowAt 0 rfl)
  exact ⟨A, c, e⟩
theorem AsI.fr {w0 w : World} {F0 : List FA} {ps : List Pt} {vo : Value} (h : AsI w0 F0 ps vo w) : ∃ Z : Nat → Prop, ∀ a ∈ F0, a.P w Z := by
  obtain ⟨Z, cells, S⟩ := h
  exact ⟨Z, fun a ha => S.fr a (List.mem_cons_of_mem _ ha)⟩
theorem AsI.out {w0 w : World} {F0 : List FA} {ps : List Pt} {vo : Value} (h : AsI w0 F0 ps vo w) : ∃ (A : Option Addr) (c : Nat), vo = .slice A ps.length c ∧ ps.length ≤ c ∧ Kd.C kP w A ps.length ps := by
  obtain ⟨Z, cells, S⟩ := h
  exact rowP_C (S.rowAt 0 rfl) (S.fr (kpF ps cells) (by simp))
/-- A part more: its literal's block, then the append. -/
theorem AsI.push {w0 w : World} {F0 : List FA} {ps : List Pt} {vo : Value} (h : AsI w0 F0 ps vo w) (p : Pt) (cs : List Value) (hl : cs.length = 5) (hp : ∀ Z : Nat → Prop, (∀ a ∈ F0, a.P w Z) → Kd.FK kP w Z p cs) :
    ∃ cells, (w.alloc (.cells cs.toArray 44)).ownsRow 0 44 5 vo ps.length cells ∧ (w.alloc (.cells cs.toArray 44)).ownsRow 0 44 5 (.slice (some ⟨w.heap.size, 0, none⟩) 1 1) 1 cs ∧
      ∀ (w1 : World) (v1 : Value), w1.ownsRow 0 44 5 v1 (ps.length + 1) (cells ++ cs) → (w.alloc (.cells cs.toArray 44)).grownBy w1 vo.ownBlock → (v1.ownBlock = vo.ownBlock ∨ ∃ b, v1.ownBlock = some b ∧ (w.alloc (.cells cs.toArray 44)).heap.size ≤ b) → AsI w0 F0 (ps ++ [p]) v1 w1 := by
  obtain ⟨Z, cells, S⟩ := h
  have hk := S.fr (kpF ps cells) (by simp)
  have hF := fun a ha => S.fr a (List.mem_cons_of_mem (kpF ps cells) ha)
  have hk2 := kpF_snoc hk hl (hp Z hF)
  have S2 : Stt w0 Z [row vo 44 5 ps.length cells] (kpF (ps ++ [p]) (cells ++ cs) :: F0) w := ⟨S.st, fun a ha => by
    rcases List.mem_cons.1 ha with rfl | ha
    · exact hk2
    · exact hF a ha, S.old⟩
  have e_ := S2.lit0 44 5 cs (by omega)
  refine ⟨cells, e_.rowAt 1 rfl, e_.rowAt 0 rfl, fun w1 v1 ho hg hat => ?_⟩
  have S3 := (e_.updRow 1 rfl ho hg hat).drop
  exact ⟨Z, _, by simpa using S3⟩
end Go.Proofs.YtnnnbeimehfiiaaDoor.Q
/-! Rows that a call gathers: bytes, the program's parts. -/
set_option linter.unusedVariables false
set_option linter.unusedSimpArgs false
namespace Go.Proofs.YtnnnbeimehfiiaaDoor.Q
open Go Go.RowKit Go.Proofs.YtnnnbeimehfiiaaDoorW.PrintWords Go.Proofs.YtnnnbeimehfiiaaDoorW.SL
/-- Bytes being gathered, in blocks from B on. -/
def Rw (B : Nat) (W : World) (v : Value) (l : List Int) : Prop := W.ownsRow B 5 1 v l.length (us8 l)
theorem Rw.below {B : Nat} {W W' : World} {v : Value} {l : List Int} (h : Rw B W v l) (hb : Below W.heap.size W W') : Rw B W' v l := own_move h (fun k hk => hb.block k (own_lt h k hk))
theorem Rw.new {B : Nat} {W : World} (hB : B ≤ W.heap.size) : Rw B (W.alloc (.cells #[] 5)) (.slice (some ⟨W.heap.size, 0, none⟩) 0 0) [] := World.ownsRow_made W #[] 0 hB (Nat.zero_le _) rfl
theorem Rw.form {B : Nat} {W : World} {v : Value} {l : List Int} (h : Rw B W v l) : ∃ A c, v = .slice A l.length c ∧ l.length ≤ c := own_form h
theorem Rw.out {B : Nat} {W : World} {v : Value} {l : List Int} (h : Rw B W v l) : ∃ A c, v = .slice A l.length c ∧ l.length ≤ c ∧ Kd.C B8 W A l.length l := by
  obtain ⟨A, c, e, h1, h2⟩ := ownF_F (w := W) (Z := fun _ => True) (v := v) (xs := l) ⟨fun _ _ => trivial, own_weaken h (Nat.zero_le _)⟩
  exact ⟨A, c, e, h1, Kd.F_now h2⟩
/-- What an append does to the row and to the heap: the new world keeps what is no row of the same type's own. -/
structure Grew (B : Nat) (W W' : World) (v : Value) : Prop where
  below : ∀ w0 : World, Below B w0 W → B ≤ W.heap.size → Below B w0 W' ∧ B ≤ W'.heap.size
  keep : ∀ k, k < W.heap.size → v.ownBlock ≠ some k → W'.heap[k]? = W.heap[k]?
theorem Grew.refl (B : Nat) (W : World) (v : Value) : Grew B W W v := ⟨fun w0 h hB => ⟨h, hB⟩, fun _ _ _ => rfl⟩
theorem Grew.of {B : Nat} {W W' : World} {v : Value} (hg : W.grownBy W' v.ownBlock) (hr : ∀ k, v.ownBlock = some k → B ≤ k) : Grew B W W' v :=
  ⟨fun w0 h hB => ⟨h.grown hg hB hr, Nat.le_trans hB hg.size⟩, fun k hk hn => hg.block k hk (fun e => hn e.symm)⟩
section
variable {P : Program} {ops : Array Oper} {o : Oper} {a : Act} {Q : Exit → Act → World → Prop} {K : Act → World → Prop} {W : World} {B : Nat}
end
/-- Parts being gathered; what they lead to is kept in blocks that Z tells. -/
def Rp (B : Nat) (Z : Nat → Prop) (W : World) (v : Value) (ps : List Pt) : Prop := ∃ cells, W.ownsRow B 50 5 v ps.length cells ∧ (kpF ps cells).P W Z
theorem Rp.new {B : Nat} {Z : Nat → Prop} {W : World} (hB : B ≤ W.heap.size) : Rp B Z (W.alloc (.cells #[] 50)) (.slice (some ⟨W.heap.size, 0, none⟩) 0 0) [] :=
  ⟨[], World.ownsRow_made W #[] 0 hB (Nat.zero_le _) rfl, rfl, fun j p h => by simp at h⟩
theorem Rp.below {B : Nat} {Z : Nat → Prop} {W W' : World} {v : Value} {ps : List Pt} (h : Rp B Z W v ps) (hb : Below W.heap.size W W') : Rp B Z W' v ps := by
  obtain ⟨cells, h1, h2⟩ := h
  exact ⟨cells, own_move h1 (fun k hk => hb.block k (own_lt h1 k hk)), (kpF ps cells).step h2 (fun k _ hl => hb.block k hl) (fun _ h => h)⟩
theorem Rp.form {B : Nat} {Z : Nat → Prop} {W : World} {v : Value} {ps : List Pt} (h : Rp B Z W v ps) : ∃ A c, v = .slice A ps.length c ∧ ps.length ≤ c := by
  obtain ⟨cells, h1, h2⟩ := h
  exact own_form h1
theorem Rp.out {B : Nat} {Z : Nat → Prop} {W : World} {v : Value} {ps : List Pt} (h : Rp B Z W v ps) : ∃ A c, v = .slice A ps.length c ∧ ps.length ≤ c ∧ Kd.C kP W A ps.length ps := by
  obtain ⟨cells, h1, h2⟩ := h
  exact rowP_C (own_weaken h1 (Nat.zero_le _)) h2
section
variable {P : Program} {ops : Array Oper} {o : Oper} {a : Act} {Q : Exit → Act → World → Prop} {K : Act → World → Prop} {W : World} {B : Nat}
end
theorem wpl {P : Program} {ops : Array Oper} {o : Oper} {rest : List Oper} {a : Act} {Q : Exit → Act → World → Prop} {W : World} (hgd : o.guard = none)
    (h : ∀ K : Act → World → Prop, (∀ a' w', wpList P ops Q rest a' w' → K a' w') → (if Region.wanted o (yielded ops a.tmps) = true then Oper.wp P o a W K Q else K (a.put o.dst undef) W)) : wpList P ops Q (o :: rest) a W := by
  refine wpList_plain hgd fun K hK => ?_
  have hw : Region.wanted o (yielded ops a.tmps) = true := by simp [Region.wanted, hgd]
  have := h K hK
  rwa [if_pos hw] at this
end Go.Proofs.YtnnnbeimehfiiaaDoor.Q
/-! Rows of rows being gathered: texts, handed on to Length. -/
set_option linter.unusedVariables false
set_option linter.unusedSimpArgs false
namespace Go.Proofs.YtnnnbeimehfiiaaDoor.Q
open Go Go.RowKit Go.Proofs.YtnnnbeimehfiiaaDoorW.PrintWords Go.Proofs.YtnnnbeimehfiiaaDoorW.SL
/-- Texts that are kept, their cells told. -/
def klF (ls : List (List Int)) (cells : List Value) : FA :=
  ⟨fun w Z => cells.length = ls.length ∧ ∀ (j : Nat) (l : List Int), ls[j]? = some l → ∃ A c, cells[j]? = some (.slice A l.length c) ∧ l.length ≤ c ∧ Kd.F B8 w Z A l.length l,
   fun h hs hZ => ⟨h.1, fun j l hl => by
     obtain ⟨A, c, h1, h2, h3⟩ := h.2 j l hl
     exact ⟨A, c, h1, h2, Kd.F_step h3 (fun k hk hl => hs k hk hl) |> fun h => Kd.F_mono h hZ⟩⟩⟩
theorem klF_app {a b : List (List Int)} {ca cb : List Value} {w : World} {Z : Nat → Prop} (h : (klF a ca).P w Z) (k : (klF b cb).P w Z) : (klF (a ++ b) (ca ++ cb)).P w Z := by
  refine ⟨by simp [h.1, k.1], fun j l hl => ?_⟩
  by_cases hj : j < a.length
  · rw [List.getElem?_append_left hj] at hl
    rw [List.getElem?_append_left (by rw [h.1]; exact hj)]
    exact h.2 j l hl
  · rw [List.getElem?_append_right (by omega)] at hl
    rw [List.getElem?_append_right (by rw [h.1]; omega), h.1]
    exact k.2 _ l hl
theorem rowL_C {w : World} {Z : Nat → Prop} {vo : Value} {e : TypeId} {ls : List (List Int)} {cells : List Value} (ho : w.ownsRow 0 e 1 vo ls.length cells) (hk : (klF ls cells).P w Z) : ∃ (A : Option Addr) (c : Nat), vo = .slice A ls.length c ∧ ls.length ≤ c ∧ Kd.C (Kd.slice 5 B8) w A ls.length ls := by
  rcases ho.2 with ⟨h1, h2⟩ | ⟨g, cap, cur, h1, _, hg, hnc, hcm, hcs, ht⟩
  · refine ⟨none, 0, by rw [h1, h2], by omega, rfl, by omega, fun hp => by omega⟩
  · refine ⟨_, cap, h1, hnc, rfl, by simp only [maxLen] at hcm; omega, fun hp => ?_⟩
    refine ⟨_, rfl, fun j p hj => ?_⟩
    obtain ⟨A, c, hc, hl, hF⟩ := hk.2 j p hj
    refine ⟨[.slice A p.length c], by rfl, ⟨A, c, rfl, hl, Kd.F_now hF⟩, fun i u hi => ?_⟩
    cases i with
    | zero =>
      simp only [List.getElem?_cons_zero, Option.some.injEq] at hi
      subst hi
      have := ho.cells (g := g) (by rw [h1]; rfl) _ _ hc
      have e : j * (Kd.slice 5 B8).sz + 0 = j := by show j * 1 + 0 = j; omega
      rw [e]; exact this
    | succ i => simp at hi
/-- Texts gathered: the row, all it leads to kept. -/
def AlI (w0 : World) (F0 : List FA) (ls : List (List Int)) (vo : Value) (W : World) : Prop := ∃ (Z : Nat → Prop) (cells : List Value), Stt w0 Z [row vo 22 1 ls.length cells] (klF ls cells :: F0) W
theorem AlI.start {w0 w : World} {F0 : List FA} {Z : Nat → Prop} (S : Stt w0 Z [] F0 w) : AlI w0 F0 [] (.slice none 0 0) w :=
  ⟨Z, [], (S.with (S.st.row_nil 22 1)).add ⟨rfl, fun j p h => by simp at h⟩⟩
theorem AlI.keep {w0 w w' : World} {F0 : List FA} {ls : List (List Int)} {vo : Value} (h : AlI w0 F0 ls vo w) (hb : Below w.heap.size w w') : AlI w0 F0 ls vo w' := by
  obtain ⟨Z, cells, S⟩ := h
  exact ⟨Z, cells, S.keep hb⟩
theorem AlI.below {w0 w : World} {F0 : List FA} {ls : List (List Int)} {vo : Value} (h : AlI w0 F0 ls vo w) : Below w0.heap.size w0 w := by
  obtain ⟨Z, cells, S⟩ := h
  exact S.below
theorem AlI.form {w0 w : World} {F0 : List FA} {ls : List (List Int)} {vo : Value} (h : AlI w0 F0 ls vo w) : ∃ A c, vo = .slice A ls.length c := by
  obtain ⟨Z, cells, S⟩ := h
  obtain ⟨A, c, e, _⟩ := own_form (S.rowAt 0 rfl)
  exact ⟨A, c, e⟩
theorem AlI.fr {w0 w : World} {F0 : List FA} {ls : List (List Int)} {vo : Value} (h : AlI w0 F0 ls vo w) : ∃ Z : Nat → Prop, ∀ a ∈ F0, a.P w Z := by
  obtain ⟨Z, cells, S⟩ := h
  exact ⟨Z, fun a ha => S.fr a (List.mem_cons_of_mem _ ha)⟩
theorem AlI.out {w0 w : World} {F0 : List FA} {ls : List (List Int)} {vo : Value} (h : AlI w0 F0 ls vo w) : ∃ (A : Option Addr) (c : Nat), vo = .slice A ls.length c ∧ ls.length ≤ c ∧ Kd.C (Kd.slice 5 B8) w A ls.length ls := by
  obtain ⟨Z, cells, S⟩ := h
  exact rowL_C (S.rowAt 0 rfl) (S.fr (klF ls cells) (by simp))
/-- Texts more: their literal's block, then the append. -/
theorem AlI.push {w0 w : World} {F0 : List FA} {ls : List (List Int)} {vo : Value} (h : AlI w0 F0 ls vo w) (ms : List (List Int)) (cs : List Value) {n : Nat} (hn : cs.length = n) (h0 : 0 < n) (hm : n ≤ maxLen) (hp : ∀ Z : Nat → Prop, (∀ a ∈ F0, a.P w Z) → (klF ms cs).P w Z) :
    ∃ cells, (w.alloc (.cells cs.toArray 22)).ownsRow 0 22 1 vo ls.length cells ∧ (w.alloc (.cells cs.toArray 22)).ownsRow 0 22 1 (.slice (some ⟨w.heap.size, 0, none⟩) n n) n cs ∧
      ∀ (w1 : World) (v1 : Value), w1.ownsRow 0 22 1 v1 (ls.length + n) (cells ++ cs) → (w.alloc (.cells cs.toArray 22)).grownBy w1 vo.ownBlock → (v1.ownBlock = vo.ownBlock ∨ ∃ b, v1.ownBlock = some b ∧ (w.alloc (.cells cs.toArray 22)).heap.size ≤ b) → AlI w0 F0 (ls ++ ms) v1 w1 := by
  obtain ⟨Z, cells, S⟩ := h
  have hk := S.fr (klF ls cells) (by simp)
  have hF := fun a ha => S.fr a (List.mem_cons_of_mem (klF ls cells) ha)
  have hk2 := klF_app hk (hp Z hF)
  have hml : ms.length = n := by rw [← hn]; exact (hp Z hF).1.symm
  have S2 : Stt w0 Z [row vo 22 1 ls.length cells] (klF (ls ++ ms) (cells ++ cs) :: F0) w := ⟨S.st, fun a ha => by
    rcases List.mem_cons.1 ha with rfl | ha
    · exact hk2
    · exact hF a ha, S.old⟩
  have e_ : Stt w0 Z (row (.slice (some ⟨w.heap.size, 0, none⟩) n n) 22 1 n cs :: [row vo 22 1 ls.length cells]) (klF (ls ++ ms) (cells ++ cs) :: F0) (w.alloc (.cells cs.toArray 22)) :=
    S2.of (S2.st.emp_new.lit (i := 0) rfl 22 1 n h0 hm cs (by omega))
  refine ⟨cells, e_.rowAt 1 rfl, e_.rowAt 0 rfl, fun w1 v1 ho hg hat => ?_⟩
  have S3 := (e_.updRow 1 rfl ho hg hat).drop
  exact ⟨Z, _, by simpa [hml] using S3⟩
section
variable {P : Program} {ops : Array Oper} {o : Oper} {a : Act} {Q : Exit → Act → World → Prop} {K : Act → World → Prop}
/-- append(s, x...), x a row of k. -/
theorem app_steps {W : World} (hw : Region.wanted o (yielded ops a.tmps) = true) (s x : Operand) (t e : TypeId) (z : Value) (size bytes k : Nat) (hk : 0 < k)
    (ho : o.op = .call { callee := .builtin .append, args := #[s, x], argTypes := #[t, t] })
    (ht : P.underlying t = some (.slice e)) (hinfo : (P.info? e).map (fun i => (i.zero, i.size, i.bytes)) = some (some z, size, bytes)) (hz : z.cells.size = size) (hs0 : 0 < size) (hb0 : 0 < bytes)
    (v u : Value) (n : Nat) (xs ys : List Value) (hs : a.eval s = v) (hx : a.eval x = u) (h1 : ∀ u ∈ ys, u.oneCell' = true)
    (HO : W.ownsRow 0 e size v n xs) (HX : W.ownsRow 0 e size u k ys) (hl : (n + k) * bytes ≤ 140737488355328)
    (h : ∀ v1 w1, w1.ownsRow 0 e size v1 (n + k) (xs ++ ys) → W.grownBy w1 v.ownBlock → (v1.ownBlock = v.ownBlock ∨ ∃ b, v1.ownBlock = some b ∧ W.heap.size ≤ b) → K (a.put o.dst v1) w1) :
    if Region.wanted o (yielded ops a.tmps) = true then Oper.wp P o a W K Q else K (a.put o.dst undef) W := by
  obtain ⟨i0, hi, hzz⟩ := Option.map_eq_some_iff.1 hinfo
  simp only [Prod.mk.injEq] at hzz
  obtain ⟨hz0, hz1, hz2⟩ := hzz
  have hlen : n + k ≤ 140737488355328 := Nat.le_trans (Nat.le_mul_of_pos_right _ hb0) hl
  rw [if_pos hw]
  rcases HX with ⟨hyl, ⟨_, h0⟩ | ⟨g, cap, cur, rfl, _, hg, _, _, hcs, hty⟩⟩
  · omega
  obtain ⟨v1, w1, hr, hown, hgr, _, hat⟩ := run_append_own_at (P := P) W 0 t o.type e i0 z size bytes ht hi hz0 hz1 hz2 hz hs0 v n xs HO ⟨g, 0, none⟩ k cap ys (by rw [hyl])
    (fun j q hj => by
      have hj' : (cur.toList.take (k * size))[j]? = some q := by rw [hty]; exact hj
      have := (blk_cell hg j)
      rw [List.getElem?_take] at hj'
      split at hj'
      · have h2 := this.trans (show cur[j]? = some q by simpa using hj')
        simp only [Addr.add, Nat.zero_add]
        split
        · next h0 => subst h0; exact h2
        · exact h2
      · cases hj') h1 (by simp only [maxLen]; omega) hl (by omega)
  unfold Oper.wp execOp
  simp only [ho, resolve, invoke, builtin, Sem.run_bind, Sem.run_pure, Result.andThen_ok, List.map_toArray, List.map_cons, List.map_nil, hs, hx, hr]
  refine h v1 w1 hown hgr ?_
  rcases hat with hat | hat
  · exact .inl hat
  · exact .inr ⟨_, hat, by simp⟩
end
theorem klF_nil {w : World} {Z : Nat → Prop} : (klF [] []).P w Z := ⟨rfl, fun j l h => by simp at h⟩
theorem klF_cons {w : World} {Z : Nat → Prop} {A : Option Addr} {c : Nat} {l : List Int} {ls : List (List Int)} {cells : List Value} (h : l.length ≤ c ∧ Kd.F B8 w Z A l.length l) (k : (klF ls cells).P w Z) : (klF (l :: ls) (.slice A l.length c :: cells)).P w Z := by
  refine ⟨by simp [k.1], fun j m hj => ?_⟩
  cases j with
  | zero =>
    simp only [List.getElem?_cons_zero, Option.some.injEq] at hj
    subst hj
    exact ⟨A, c, rfl, h⟩
  | succ j => exact k.2 j m hj
/-- A part in hand, its texts told for all that keeps them. -/
theorem AlI.part {w0 W : World} {A : Option Addr} {c : Nat} {qs : List Pt} {ls : List (List Int)} {vo : Value} (h : AlI w0 [rdV kP A c qs] ls vo W) (ii : Int) (p0 : 0 ≤ ii) (hin : ii < (qs.length : Int)) :
    ∃ ad x A1 c1 A2 c2 A3 c3 A4 c4, A = some ad ∧ qs[ii.toNat]? = some x ∧ W.cell? (ad.add (ii.toNat * 5)) = some (.bool x.region) ∧ W.cell? ⟨(ad.add (ii.toNat * 5)).block, (ad.add (ii.toNat * 5)).off + 1, none⟩ = some (.slice A1 x.text.length c1) ∧
      W.cell? ⟨(ad.add (ii.toNat * 5)).block, (ad.add (ii.toNat * 5)).off + 2, none⟩ = some (.slice A2 x.s0.length c2) ∧ W.cell? ⟨(ad.add (ii.toNat * 5)).block, (ad.add (ii.toNat * 5)).off + 3, none⟩ = some (.slice A3 x.s1.length c3) ∧ W.cell? ⟨(ad.add (ii.toNat * 5)).block, (ad.add (ii.toNat * 5)).off + 4, none⟩ = some (.slice A4 x.s2.length c4) ∧
      ∀ Z' : Nat → Prop, (∀ a ∈ [rdV kP A c qs], a.P W Z') → (x.text.length ≤ c1 ∧ Kd.F B8 W Z' A1 x.text.length x.text) ∧ (x.s0.length ≤ c2 ∧ Kd.F B8 W Z' A2 x.s0.length x.s0) ∧ (x.s1.length ≤ c3 ∧ Kd.F B8 W Z' A3 x.s1.length x.s1) ∧ (x.s2.length ≤ c4 ∧ Kd.F B8 W Z' A4 x.s2.length x.s2) := by
  obtain ⟨Z, hZ⟩ := h.fr
  obtain ⟨ad, x, A1, c1, A2, c2, A3, c3, A4, c4, rfl, hxi, hok, hx0, hx1, hx2, hx3, hx4, g1, g2, g3, g4⟩ := at_Pt (hZ (rdV kP A c qs) (by simp)).2 ii p0 hin
  refine ⟨ad, x, A1, c1, A2, c2, A3, c3, A4, c4, rfl, hxi, hx0, hx1, hx2, hx3, hx4, fun Z' hZ' => ?_⟩
  obtain ⟨ad', x', B1, d1, B2, d2, B3, d3, B4, d4, eA, hxi', _, hy0, hy1, hy2, hy3, hy4, k1, k2, k3, k4⟩ := at_Pt (hZ' _ List.mem_cons_self).2 ii p0 hin
  injection eA with eA
  subst eA
  rw [hxi] at hxi'
  obtain rfl := Option.some.inj hxi'
  rw [hx1] at hy1; rw [hx2] at hy2; rw [hx3] at hy3; rw [hx4] at hy4
  injection hy1 with hy1; injection hy1 with a1 _ b1
  injection hy2 with hy2; injection hy2 with a2 _ b2
  injection hy3 with hy3; injection hy3 with a3 _ b3
  injection hy4 with hy4; injection hy4 with a4 _ b4
  subst a1 b1 a2 b2 a3 b3 a4 b4
  exact ⟨k1, k2, k3, k4⟩
theorem infL22 : (Tryd.prog.info? 22).map (fun i => (i.zero, i.size, i.bytes)) = some (some (.slice none 0 0), 1, 24) := by kernel_rfl
end Go.Proofs.YtnnnbeimehfiiaaDoor.Q
