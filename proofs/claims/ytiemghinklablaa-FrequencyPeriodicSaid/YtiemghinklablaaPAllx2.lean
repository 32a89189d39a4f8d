/- The upward zero crossings of a series, as a plain list, and the walk of frequency.Crossings and of its iterator: it computes that list. Conditions: none. -/
import Derived.Test.YtiemghinklablaaPAllx0
import Derived.Test.YtiemghinklablaaPAllx1
import Derived.RangeFuncNested
import Derived.RangeFuncBound
import Derived.RangeFuncCalls
import Derived.RangeFuncLeaves
import Derived.RangeFuncBox
import Derived.Shelf.Abstract
import Derived.Shelf.RegionOpen
import Derived.OwnWalkIn
import Derived.TacticsInMore
import Derived.LoopNIn
import Derived.LoopIn
import Derived.Sort.QuietIn
import Derived.Laws.CopyOwn
namespace Go.Proofs.Ytiemghinklablaa.PAll
open Go.RowKit Go.Shelf Go.Proofs.YtiemghinklablaaW.PrintWords Go.Proofs.YtiemghinklablaaW.PrintLast Go.Proofs.YtiemghinklablaaW.PrintMore
set_option linter.unusedVariables false
set_option linter.unusedSimpArgs false
/-- The samples lie in their range, and are not too many. -/
def fineB (l : List Int) : Bool := decide (l.length ≤ 240) && l.all fun x => decide (-16383 ≤ x ∧ x ≤ 16383)
/-- The greatest common divisor of two numbers, as a whole number. -/
def gc (a b : Int) : Int := (Int.gcd a b : Int)
/-- The crossing between sample i and the next one, if there is one. -/
def crAt (l : List Int) (i : Nat) : Option S30 :=
  if rd l i < 0 ∧ 0 ≤ rd l (i + 1 : Nat) then some ⟨i, -(rd l i) / gc (-(rd l i)) (rd l (i + 1 : Nat) - rd l i), (rd l (i + 1 : Nat) - rd l i) / gc (-(rd l i)) (rd l (i + 1 : Nat) - rd l i)⟩ else none
def upto (l : List Int) (i : Nat) : List S30 := (List.range i).filterMap (crAt l)
def cross (l : List Int) : List S30 := upto l (l.length - 1)
theorem upto_succ (l : List Int) (i : Nat) : upto l (i + 1) = upto l i ++ (crAt l i).toList := by
  unfold upto
  rw [List.range_succ, List.filterMap_append]
  cases h : crAt l i <;> simp [h]
theorem upto_pre (l : List Int) {i j : Nat} (h : i ≤ j) : upto l i <+: upto l j := by
  obtain ⟨d, rfl⟩ := Nat.exists_eq_add_of_le h
  clear h
  induction d with
  | zero => exact ⟨[], by simp⟩
  | succ d ih =>
    obtain ⟨t, ht⟩ := ih
    exact ⟨t ++ (crAt l (i + d)).toList, by rw [← List.append_assoc, ht, ← upto_succ]; rfl⟩
theorem upto_le (l : List Int) (i : Nat) : (upto l i).length ≤ i := by
  unfold upto
  exact Nat.le_trans (List.length_filterMap_le _ _) (by simp)
def frequency_Crossings.f (k : Nat) (l0 : List Int) : Option ((List (S30)) × Int) := some (if fineB l0 = true then (cross l0, 0) else ([], 1))
theorem frequency_Crossings.mono : ∀ a0 k, LeO (frequency_Crossings.f k a0) (frequency_Crossings.f (k + 1) a0) := fun _ _ => LeO.refl _
theorem divisor_nat : ∀ (m n k : Nat), m < k → frequency_divisor.l0 k (m : Int) (n : Int) = some ((Nat.gcd m n : Nat) : Int) := by
  intro m
  induction m using Nat.strongRecOn with
  | ind m ih =>
    intro n k hk
    obtain ⟨k, rfl⟩ : ∃ j, k = j + 1 := ⟨k - 1, by omega⟩
    simp only [frequency_divisor.l0]
    by_cases h : m = 0
    · subst h
      rw [if_neg (by omega)]
      simp
    · rw [if_pos (by omega), if_neg (by omega)]
      have e : Int.tmod (n : Int) (m : Int) = ((n % m : Nat) : Int) := rfl
      have hlt := Nat.mod_lt n (by omega : m > 0)
      rw [e, ih _ hlt m k (by omega), Nat.gcd_rec m n]
theorem divisor_gc (a b : Int) (h0 : 0 ≤ a) (h1 : 0 ≤ b) (k : Nat) (hk : a < k) : frequency_divisor.f k a b = some (gc a b) := by
  obtain ⟨m, rfl⟩ : ∃ m : Nat, a = m := ⟨a.toNat, by omega⟩
  obtain ⟨n, rfl⟩ : ∃ n : Nat, b = n := ⟨b.toNat, by omega⟩
  exact divisor_nat m n k (by omega)
theorem gc_pos (a b : Int) (h : 0 < b) : 0 < gc a b := by
  have := Int.gcd_pos_iff (a := a) (b := b) |>.2 (.inr (by omega))
  unfold gc
  omega
/-- The values that the iterator hands to the loop's body. -/
def enc30 (x : S30) : Array Value := #[.agg #[.int .i64 x.f0, .int .i64 x.f1, .int .i64 x.f2]]
theorem j_drawn {J : List S30 → World → Prop} {B : Nat} (hJ : AbidesFrom B J) {s : List S30} {W W' : World} (h : J s W) (hd : Drawn0 W W') : J s W' :=
  hJ s W W' none h (grown_of_below hd.below none) (fun r e => by cases e)
set_option maxHeartbeats 4000000 in
set_option maxRecDepth 100000 in
theorem points1_in (l Bx n₀ B : Nat) (A0 : Option Addr) (c0 : Nat) (l0 : List Int) (w0 : World) (J Jx : List S30 → World → Prop)
    (hl : l0.length ≤ 240) (hr : ∀ i, -16383 ≤ rd l0 i ∧ rd l0 i ≤ 16383) (hr0 : Kd.C (Kd.int .i64) w0 A0 l0.length l0) (hn0 : n₀ = w0.heap.size) (hJ : AbidesFrom B J)
    (hY : ∀ pre x W, J pre W → pre.length < (cross l0).length → YieldAt Fence.wide 4 Try.prog l (enc30 x) W fun e W' =>
      (e = .returned (.bool true) ∧ J (pre ++ [x]) W' ∧ (W'.heap[Bx]? = W.heap[Bx]? ∧ Below n₀ W W')) ∨ (e = .returned (.bool false) ∧ Jx (pre ++ [x]) W'))
    (W : World) (hW : Below n₀ w0 W) (hB : Boxed W Bx 22 (.slice A0 l0.length c0)) (h0 : J [] W) :
    CallsIn Fence.wide 5 Try.prog 29 #[.func (.yield l) #[] #[], .pointer (some ⟨Bx, 0, none⟩)] W fun e W' => (∃ v, e = .returned v) ∧
      ((∃ ys, ys = cross l0 ∧ J ys W') ∨ (∃ pre, pre <+: cross l0 ∧ Jx pre W')) := by
  subst hn0
  have hu22 := Try.underlying22
  have hu30 := Try.underlying30
  have HR := Aside0.mk hr
  have HR0 := Aside0.mk hr0
  have HJ := Aside0.mk hJ
  have HY := Aside0.mk hY
  have HB := Aside0.mk hB
  have hc := hB.cell
  clear hr hr0 hJ hY hB
  refine callsIn_of_wp Try.func29 rfl trivial ?_ rfl
  simp only [Try.ntmps29, List.size_toArray, List.length_cons, List.length_nil, Nat.reduceAdd, Nat.reduceSub, Array.replicate_succ, Array.replicate_zero, List.push_toArray, List.append_toArray, List.nil_append, List.cons_append]
  gi_wp2
  gi_loopw [10] (fun kv wr => ∃ i : Nat, kv = .int .i64 (i : Int) ∧ Aside0 (i ≤ l0.length - 1) ∧ Aside0 (J (upto l0 i) wr) ∧ Aside0 (Boxed wr Bx 22 (.slice A0 l0.length c0)) ∧ Aside0 (Below w0.heap.size w0 wr))
    (fun kv _ => l0.length - (intOf kv).toNat)
  case atStart => exact ⟨0, rfl, ⟨Nat.zero_le _⟩, ⟨h0⟩, HB, ⟨hW⟩⟩
  case round =>
    obtain ⟨i, rfl, HI, HJi, HBi, HWi⟩ := hrel
    have hci := HBi.out.cell
    by_cases hlt : i < l0.length - 1
    · have t1 : decide ((i : Int) < (l0.length : Int) - 1) = true := by simp; omega
      obtain ⟨ad, rfl, hx⟩ := Kd.at_int (Kd.C_below HR0.out HWi.out) (i : Int) (by omega) (by omega)
      obtain ⟨ad', e_, hy⟩ := Kd.at_int (Kd.C_below HR0.out HWi.out) ((i + 1 : Nat) : Int) (by omega) (by omega)
      cases e_
      rw [Int.toNat_natCast] at hx hy
      rw [show ad.add (i + 1) = ⟨ad.block, ad.off + (i + 1), none⟩ from by unfold Addr.add; rw [if_neg (by omega)]] at hy
      have hbx := HR.out i
      have hby := HR.out (i + 1 : Nat)
      obtain ⟨x, EX⟩ : ∃ x, Aside0 (rd l0 (i : Int) = x) := ⟨_, ⟨rfl⟩⟩
      obtain ⟨y, EY⟩ : ∃ y, Aside0 (rd l0 ((i + 1 : Nat) : Int) = y) := ⟨_, ⟨rfl⟩⟩
      rw [EX.out] at hx hbx
      rw [EY.out] at hy hby
      obtain ⟨hbx0, hbx1⟩ := hbx
      obtain ⟨hby0, hby1⟩ := hby
      by_cases hneg : x < 0
      · have t2 : decide (0 ≤ x) = false := by simp; omega
        by_cases hup : 0 ≤ y
        · have t3 : decide (y < 0) = false := by simp; omega
          gi_wp2
          gi_quiet (fail)
          have hdv := divisor_gc (-x) (y - x) (by omega) (by omega) 20000 (by omega)
          have hgp := gc_pos (-x) (y - x) (by omega)
          obtain ⟨g, EG⟩ : ∃ g, Aside0 (gc (-x) (y - x) = g) := ⟨_, ⟨rfl⟩⟩
          obtain ⟨m, EM⟩ : ∃ m, Aside0 (-x = m) := ⟨_, ⟨rfl⟩⟩
          obtain ⟨n, EN⟩ : ∃ n, Aside0 (y - x = n) := ⟨_, ⟨rfl⟩⟩
          rw [EG.out] at hdv hgp
          rw [EM.out, EN.out] at hdv
          have hg1 : 1 ≤ g := by omega
          have HDV := Aside0.mk hdv
          clear hdv hgp
          have b1 : 0 ≤ m := by have := EM.out; omega
          have b2 : 0 ≤ n := by have := EN.out; omega
          have b1' : m ≤ 16383 := by have := EM.out; omega
          have b2' : n ≤ 40000 := by have := EN.out; omega
          have b3 : 0 ≤ m / g := Int.ediv_nonneg b1 (by omega)
          have b4 : m / g ≤ m := Int.ediv_le_self _ b1
          have b5 : 0 ≤ n / g := Int.ediv_nonneg b2 (by omega)
          have b6 : n / g ≤ n := Int.ediv_le_self _ b2
          rw [EM.out, EN.out]
          gi_wp2_with (refine ⟨trivial, ?_⟩; gi_at_call 22; refine (callsIn_wide.2 (frequency_divisor.calls 20000 _ _ _ _ HDV.out)).mono ?_; rintro e_ w1 ⟨rfl, hd⟩)
          have hJ2 : J (upto l0 i) w1.drew := j_drawn HJ.out (j_drawn HJ.out (j_drawn HJ.out HJi.out ⟨⟨nq, rfl⟩⟩) hd) ⟨⟨1, rfl⟩⟩
          have hcr : crAt l0 i = some ⟨(i : Int), m / g, n / g⟩ := by
            unfold crAt
            rw [EX.out, EY.out, if_pos ⟨hneg, hup⟩, EG.out, EM.out, EN.out]
          have hlen : (upto l0 i).length < (cross l0).length := by
            obtain ⟨t, ht⟩ := upto_pre l0 (show i + 1 ≤ l0.length - 1 by omega)
            unfold cross
            rw [← ht, upto_succ, hcr]
            simp
          have HY2 := HY.out (upto l0 i) ⟨(i : Int), m / g, n / g⟩ w1.drew hJ2 hlen
          obtain ⟨fn, tmps, assign, body, hy2, hR⟩ := HY2
          have HR2 : RoundIn Fence.wide 4 Try.prog l fn tmps assign body w1.drew fun e W' => ∃ bb : Bool, e = .returned (.bool bb) ∧ Aside0 ((bb = true ∧ J (upto l0 (i + 1)) W' ∧ W'.heap[Bx]? = w1.heap[Bx]? ∧ Below w0.heap.size w1.drew W') ∨ (bb = false ∧ Jx (upto l0 (i + 1)) W')) := by
            refine hR.mono ?_
            rintro e W' (⟨rfl, h1, h2, h3⟩ | ⟨rfl, h1⟩)
            · exact ⟨true, rfl, ⟨.inl ⟨rfl, by rw [upto_succ, hcr]; exact h1, h2, h3⟩⟩⟩
            · exact ⟨false, rfl, ⟨.inr ⟨rfl, by rw [upto_succ, hcr]; exact h1⟩⟩⟩
          dsimp only [enc30] at hy2
          have HD := Aside0.mk hd
          have HCR := Aside0.mk hcr
          clear hd hlen hR hJ2 hcr
          have q1 : IntKind.i64.wrap (n.tdiv g) = n / g := by rw [Int.tdiv_eq_ediv_of_nonneg b2, i64_w]; unfold wrap64; omega
          have q2 : IntKind.i64.wrap (m.tdiv g) = m / g := by rw [Int.tdiv_eq_ediv_of_nonneg b1, i64_w]; unfold wrap64; omega
          gi_region_with (refine HR2.mono ?_; rintro e_ W3 ⟨bb, rfl, HP⟩)
          all_goals
            clear q1 q2
            rcases HP.out with ⟨rfl, h1, h2, h3⟩ | ⟨rfl, h1⟩
            · have H1 := Aside0.mk h1
              have H2 := Aside0.mk h2
              have H3 := Aside0.mk h3
              clear h1 h2 h3 HP
              gi_wp2
              go_roundw
              case rel =>
                refine ⟨i + 1, by go_num, ⟨by omega⟩, H1, ⟨?_⟩, ⟨?_⟩⟩
                · obtain ⟨d, rfl⟩ := HD.out.out
                  exact H2.out.trans HBi.out
                · obtain ⟨d, rfl⟩ := HD.out.out
                  exact (pw_below_drewN (pw_below_drewN HWi.out nq) d).trans ⟨H3.out.os, H3.out.tape, H3.out.output, H3.out.size, H3.out.block⟩
              case measure => simp [intOf]; omega
            · have H1 := Aside0.mk h1
              clear h1 HP
              gi_wp2
              refine bodyPost_ret (results_none rfl _ _ _) rfl ?_
              exact ⟨⟨_, rfl⟩, .inr ⟨_, upto_pre l0 (by omega), H1.out⟩⟩
        · have t3 : decide (y < 0) = true := by simp; omega
          gi_wp2
          go_roundw
          case rel => exact ⟨i + 1, by go_num, ⟨by omega⟩, ⟨by rw [upto_succ, show crAt l0 i = none from by unfold crAt; rw [if_neg (by rw [EX.out, EY.out]; omega)]]; simpa using HJi.out⟩, HBi, HWi⟩
          case measure => simp [intOf]; omega
      · have t2 : decide (0 ≤ x) = true := by simp; omega
        gi_wp2
        go_roundw
        case rel => exact ⟨i + 1, by go_num, ⟨by omega⟩, ⟨by rw [upto_succ, show crAt l0 i = none from by unfold crAt; rw [if_neg (by rw [EX.out, EY.out]; omega)]]; simpa using HJi.out⟩, HBi, HWi⟩
        case measure => simp [intOf]; omega
    · have t1 : decide ((i : Int) < (l0.length : Int) - 1) = false := by simp; omega
      gi_wp2
      go_end0
      have e : i = l0.length - 1 := by have := HI.out; omega
      subst e
      exact ⟨⟨_, rfl⟩, .inl ⟨_, rfl, HJi.out⟩⟩
set_option maxHeartbeats 1000000 in
theorem points_in (A0 : Option Addr) (c0 n m : Nat) (w : World) :
    CallsIn Fence.wide m Try.prog 21 #[.slice A0 n c0] w fun e w' => e = .returned (.func (.func 29) #[] #[.pointer (some ⟨w.heap.size, 0, none⟩)]) ∧ w' = w.alloc (.cells #[.slice A0 n c0] 22) := by
  have hu22 := Try.underlying22
  refine callsIn_of_wp Try.func21 rfl trivial ?_ rfl
  simp only [Try.ntmps21, List.size_toArray, List.length_cons, List.length_nil, Nat.reduceAdd, Nat.reduceSub, Array.replicate_succ, Array.replicate_zero, List.push_toArray, List.append_toArray, List.nil_append, List.cons_append]
  gi_wp2
  go_ret
  exact ⟨rfl, rfl⟩
attribute [local go_sem] Oper.semAt_some
theorem boxed_below {W W' : World} {B : Nat} {t : TypeId} {v : Value} (h : Boxed W B t v) (hb : Below W.heap.size W W') : Boxed W' B t v := (hb.block B h.lt).trans h
theorem below_alloc' {B : Nat} {a W : World} (h : Below B a W) (hB : B ≤ W.heap.size) (o : Obj) : Below B a (W.alloc o) := h.alloc hB o
theorem run_copy_rows {P : Program} (w : World) (dT sT ty elem : TypeId) (k g o dLen dCap : Nat) (a : Addr) (sLen sCap : Nat) (cur : Array Value) (t : TypeId) (cs : List Value)
    (hu : P.underlying dT = some (.slice elem)) (hs : (P.info? elem).map (·.size) = some k) (hg : w.heap[g]? = some (.cells cur t (0, 0))) (hn : cs.length = Nat.min sLen dLen * k)
    (hsrc : ∀ j v, cs[j]? = some v → w.cell? (a.add j) = some v) (hfit : o + cs.length ≤ cur.size) (h1 : ∀ v ∈ cs, v.oneCell' = true) :
    (Builtin.copy_ #[dT, sT] ty #[.slice (some ⟨g, o, none⟩) dLen dCap, .slice (some a) sLen sCap]).run P w =
      .ok (goInt (Nat.min sLen dLen)) (w.setRow g (cur.toList.take o ++ cs ++ cur.toList.drop (o + cs.length)).toArray) := by
  have hl := run_loadCells_list (P := P) w a cs hsrc
  have hst := run_storeCells_at P g o t cs 0 cur w hg (by simpa using hfit) h1
  cases hq : P.info? elem with
  | none => simp [hq] at hs
  | some i =>
    have hi : i.size = k := by simpa [hq] using hs
    simp [Builtin.copy_, run_underlying hu, Builtin.lenOf, Builtin.firstCells, sizeOf, typeInfo, hq, hi, ← hn, hl, hst]
theorem slice45 (B N : Nat) (h : N ≤ 239) (W : World) : (Instr.sliceAt 45 (.pointer (some ⟨B, 0, none⟩)) none (some (.int .i64 (N : Int))) none).run Try.prog W = .ok (.slice (some ⟨B, 0, none⟩) N 240) W := by
  have hu := Try.underlying45
  obtain ⟨i0, hi, hz0, hz1, hz2⟩ := info_parts info30
  have h2 : N ≤ 240 := by omega
  have h3 : (N : Int) ≤ 240 := by omega
  simp [Instr.sliceAt, run_underlying hu, Instr.sureAddr, Instr.sliceBounds, Instr.sliceBound, asIntOf, sizeOf, typeInfo, hi, h2, h3, Addr.add]
theorem zero45 : ∃ zs : Array Value, zs = (List.replicate 720 (Value.int .i64 0)).toArray ∧ ∀ w, (zeroValue 45).run Try.prog w = .ok (.agg zs) w := ⟨_, rfl, fun w => by kernel_rfl⟩
def cells30 (x : S30) : List Value := [.int .i64 x.f0, .int .i64 x.f1, .int .i64 x.f2]
/-- The room's cells when some points have come. -/
def rowOf (pre : List S30) : List Value := pre.flatMap cells30 ++ List.replicate (720 - 3 * pre.length) (.int .i64 0)
theorem frozen_of_row (W : World) (b i : Nat) (cs : Array Value) (t : TypeId) (h : W.heap[b]? = some (.cells cs t (0, 0))) : W.frozen? ⟨b, i, none⟩ = false := by simp [World.frozen?, h]
theorem row_len (pre : List S30) (h : pre.length ≤ 240) : (rowOf pre).length = 720 ∧ (pre.flatMap cells30).length = pre.length * 3 := by
  have e : (pre.flatMap cells30).length = pre.length * 3 := by
    clear h
    induction pre with
    | nil => rfl
    | cons x t ih => rw [List.flatMap_cons, List.length_append, ih]; simp [cells30]; omega
  unfold rowOf
  refine ⟨?_, e⟩
  rw [List.length_append, e, List.length_replicate]; omega
theorem row_cells (pre : List S30) (h : pre.length < 240) : (rowOf pre).toArray[pre.length * 3]? = some (.int .i64 0) ∧ (rowOf pre).toArray[pre.length * 3 + 1]? = some (.int .i64 0) ∧ (rowOf pre).toArray[pre.length * 3 + 2]? = some (.int .i64 0) := by
  have e := (row_len pre (by omega)).2
  have key : ∀ j, j < 3 → (rowOf pre).toArray[pre.length * 3 + j]? = some (.int .i64 0) := by
    intro j hj
    unfold rowOf
    rw [List.getElem?_toArray, List.getElem?_append_right (by omega), e, List.getElem?_replicate, if_pos (by omega)]
  exact ⟨key 0 (by omega), key 1 (by omega), key 2 (by omega)⟩
theorem row_set (pre : List S30) (x : S30) (h : pre.length < 240) : (((rowOf pre).toArray.setIfInBounds (pre.length * 3) (.int .i64 x.f0)).setIfInBounds (pre.length * 3 + 1) (.int .i64 x.f1)).setIfInBounds (pre.length * 3 + 2) (.int .i64 x.f2) = (rowOf (pre ++ [x])).toArray := by
  have e := (row_len pre (by omega)).2
  have hr : ∃ k, 720 - 3 * pre.length = k + 3 ∧ 720 - 3 * (pre ++ [x]).length = k := ⟨720 - 3 * pre.length - 3, by omega, by simp; omega⟩
  obtain ⟨k, k1, k2⟩ := hr
  unfold rowOf
  rw [k1, k2, List.flatMap_append]
  simp only [List.setIfInBounds_toArray]
  congr 1
  rw [← e]
  simp only [List.replicate_succ]
  generalize pre.flatMap cells30 = P
  rw [List.set_append_right _ _ (Nat.le_refl _), Nat.sub_self, List.set_append_right _ _ (by omega), List.set_append_right _ _ (by omega)]
  simp [cells30]
theorem make30 (N : Nat) (h : N ≤ 239) : ∃ mz : Array Value, mz.size = N * 3 ∧ ∀ W, (Instr.makeSlice 25 (.int .i64 (N : Int)) (.int .i64 (N : Int))).run Try.prog W = .ok (.slice (some ⟨W.heap.size, 0, none⟩) N N) (W.alloc (.cells mz 30)) := by
  obtain ⟨i0, hi, hz0, hz1, hz2⟩ := info_parts info30
  refine ⟨madeCells (Value.agg #[(.int .i64 0), (.int .i64 0), (.int .i64 0)]).cells (N * 3), ?_, fun W => ?_⟩
  rotate_left
  · have := run_makeSlice (P := Try.prog) (w := W) 25 30 i0 _ Try.underlying25 hi hz0 .i64 .i64 (N : Int) (N : Int) (by omega) (Int.le_refl _) (by rw [hz1]; simp; omega) (by rw [hz2]; omega) (by omega)
    rw [hz1] at this
    simpa using this
  · simp [madeCells]
theorem reps_flat {α : Type} {R : α → List Value → Prop} {size : Nat} (f : α → List Value) (hf : ∀ x, (f x).length = size) (hR : ∀ x, R x (f x)) (xs : List α) : Reps R size xs (xs.flatMap f) := by
  refine ⟨?_, ?_⟩
  · induction xs with
    | nil => simp
    | cons x t ih => rw [List.flatMap_cons, List.length_append, ih, hf, List.length_cons, Nat.add_mul, Nat.one_mul, Nat.add_comm]
  · induction xs with
    | nil => intro j p h; simp at h
    | cons x t ih =>
      intro j p h
      cases j with
      | zero =>
        simp only [List.getElem?_cons_zero, Option.some.injEq] at h
        subst h
        rw [Nat.zero_mul, List.drop_zero, List.flatMap_cons, ← hf x, List.take_left]
        exact hR x
      | succ j =>
        rw [List.getElem?_cons_succ] at h
        have := ih j p h
        rw [List.flatMap_cons, Nat.add_mul, Nat.one_mul, Nat.add_comm (j * size) size, ← List.drop_drop, show List.drop size (f x ++ List.flatMap f t) = List.flatMap f t from by rw [← hf x, List.drop_left]]
        exact this
theorem R30_of_block (W : World) (base S : Nat) (xs : List S30) (hS : base ≤ S) (h : W.heap[S]? = some (.cells ((xs.flatMap cells30).toArray) 30 (0, 0))) (hl : xs.length ≤ 240) :
    Kd.R k30 30 W base (fun _ => True) (.slice (some ⟨S, 0, none⟩) xs.length xs.length) xs := by
  have e := (row_len xs hl).2
  refine ⟨fun _ _ => trivial, xs.flatMap cells30, ⟨by rw [e]; rfl, .inr ⟨S, _, _, rfl, hS, h, Nat.le_refl _, by unfold maxLen; omega, by rw [show k30.sz = 3 from rfl]; simpa using e, ?_⟩⟩, ?_⟩
  · rw [List.take_of_length_le (by rw [show k30.sz = 3 from rfl]; simp [e])]
  · exact reps_flat cells30 (fun _ => rfl) (fun x => k30_mkM _ _ _ x) xs
set_option maxHeartbeats 4000000 in
set_option maxRecDepth 100000 in
theorem crossings_in (A0 : Option Addr) (c0 : Nat) (l0 : List Int) (w : World) (hr0 : Kd.C (Kd.int .i64) w A0 l0.length l0) (hc0 : l0.length ≤ c0) (hl : l0.length ≤ 240) (hr : ∀ i, -16383 ≤ rd l0 i ∧ rd l0 i ≤ 16383) (hg : frequency_good.f 1000 l0 = some true) :
    CallsIn Fence.wide 6 Try.prog 10 #[.slice A0 l0.length c0] w fun e w' => ∃ v0_ : Value, e = .returned (.tuple #[v0_, .int .i64 0]) ∧ Kd.R k30 30 w' w.heap.size (fun _ => True) v0_ (cross l0) ∧ Below w.heap.size w w' := by
  have hu22 := Try.underlying22
  have hu30 := Try.underlying30
  have hu45 := Try.underlying45
  obtain ⟨zs, hz, hz45⟩ := zero45
  have HZ := Aside0.mk hz
  have HR0 := Aside0.mk hr0
  have HC0 := Aside0.mk hc0
  have HG := Aside0.mk hg
  have HRD := Aside0.mk hr
  clear hr0 hc0 hg hr hz
  refine callsIn_of_wp_marks Try.func10 rfl trivial ?_ rfl
  simp only [Try.ntmps10, List.size_toArray, List.length_cons, List.length_nil, Nat.reduceAdd, Nat.reduceSub, Array.replicate_succ, Array.replicate_zero, List.push_toArray, List.append_toArray, List.nil_append, List.cons_append]
  gi_wp2_with (first | (refine ⟨trivial, ?_⟩; gi_at_call 20; refine (callsIn_wide.2 (frequency_good.calls 1000 _ _ _ _ _ HR0.out HC0.out HG.out)).mono ?_; rintro e_ w1 ⟨rfl, hd⟩; obtain ⟨⟨d, rfl⟩⟩ := hd) | (refine ⟨trivial, ?_⟩; gi_at_call 21; refine (points_in _ _ _ _ _).mono ?_; rintro e_ w2 ⟨rfl, rfl⟩))
  obtain ⟨W0, EW⟩ : ∃ W0, Aside0 (W0 = (((w.drewN d).alloc (.cells zs 45)).alloc (.cells #[.int .i64 0] 3)).alloc (.cells #[.slice A0 l0.length c0] 22)) := ⟨_, ⟨rfl⟩⟩
  have hsz : W0.heap.size = w.heap.size + 3 := by rw [EW.out]; simp
  have hB : Below w.heap.size w W0 := by
    rw [EW.out]
    exact below_alloc (below_alloc (below_alloc (pw_below_drewN (Below.refl _ _) d) _) _) _
  have hX : Boxed W0 (w.heap.size + 2) 22 (.slice A0 l0.length c0) := by
    rw [EW.out]; have := Boxed.new (((w.drewN d).alloc (.cells zs 45)).alloc (.cells #[.int .i64 0] 3)) 22 (.slice A0 l0.length c0); simpa using this
  have hN : Boxed W0 (w.heap.size + 1) 3 (.int .i64 0) := by
    rw [EW.out]; have := (Boxed.new ((w.drewN d).alloc (.cells zs 45)) 3 (.int .i64 0)).alloc (.cells #[.slice A0 l0.length c0] 22); simpa using this
  have hR : W0.heap[w.heap.size]? = some (.cells zs 45 (0, 0)) := by
    rw [EW.out]
    exact (Below.heap_alloc _ _ _ (by simp; omega)).trans ((Below.heap_alloc _ _ _ (by simp)).trans (World.alloc_heap_new (w.drewN d) _))
  have hcl : (cross l0).length ≤ 239 := by have := upto_le l0 (l0.length - 1); unfold cross; omega
  rw [← EW.out]
  refine wpIn_rangeFunc_ownH (n := 6) rfl (by omega) (gf := 29) (lb := #[.pointer (some ⟨w.heap.size + 2, 0, none⟩)]) rfl trivial (enters_of Try.func29 (by kernel_rfl) rfl) (encs := enc30) (Kp := fun A B => B.heap[w.heap.size + 2]? = A.heap[w.heap.size + 2]? ∧ Below w.heap.size A B) (S := fun ys => ys = cross l0) (Sp := fun pre => pre <+: cross l0) (N := (cross l0).length) (w0 := W0) ?seq (fun h k => ⟨k.1.trans h.1, h.2.trans k.2⟩) ?kb (Below.refl _ _) (fun _ => rfl)
    (fun pre W => Boxed W (w.heap.size + 1) 3 (.int .i64 (pre.length : Int)) ∧ W.heap[w.heap.size]? = some (.cells (rowOf pre).toArray 45 (0, 0)) ∧ Below w.heap.size w W ∧ w.heap.size + 3 ≤ W.heap.size) (fun _ _ _ => False) ?own (fun _ _ _ _ _ h => h.elim) ?start
    (fun x a' W => ∃ Bx, w.heap.size + 2 < Bx ∧ W.heap[Bx]? = some (.cells #[.int .i64 x.f0, .int .i64 x.f1, .int .i64 x.f2] 30 (0, 0)) ∧ a' = { tmps := #[.slice A0 l0.length c0, undef, .slice none 0 0, .int .i64 0, .pointer (some ⟨w.heap.size, 0, none⟩), .pointer (some ⟨w.heap.size + 1, 0, none⟩), .pointer (some ⟨Bx, 0, none⟩), undef, .slice A0 l0.length c0, .bool true, .bool false, .slice A0 l0.length c0, .func (.func 29) #[] #[.pointer (some ⟨w.heap.size + 1 + 1, 0, none⟩)], .agg #[.int .i64 x.f0, .int .i64 x.f1, .int .i64 x.f2], undef, undef, undef, undef, undef, undef, undef, undef, undef, undef, undef, undef], defers := [] }) ?ax ?assign ?body ?done ?stop
  case seq =>
    intro l J Jx W hW hJ hJx hY h0
    exact points1_in l (w.heap.size + 2) w.heap.size _ A0 c0 l0 w J Jx hl HRD.out HR0.out rfl hJ hY W (hB.trans (hW.mono (by omega))) (boxed_below hX hW) h0
  case kb =>
    intro W l o o' h1 h2 h3 h4
    refine ⟨World.putObj_heap_other (by omega), (Below.refl _ W).grown (grownBy_putObj' W l o') (by have := (Array.getElem?_eq_some_iff.1 h2).1; omega) (fun k e => by cases e; omega)⟩
  case own =>
    rintro s A B row ⟨h1, h2, h3, h4⟩ hg hrow
    have hlt : w.heap.size + 1 < A.heap.size := h1.lt
    refine ⟨h1.kept hg (fun e => ?_), ?_, h3.grown hg (by omega) (fun k e => by have := (hrow k e).1; omega), Nat.le_trans h4 hg.size⟩
    · have := (hrow _ e.symm).1; omega
    · exact (hg.block _ (by omega) (fun e => by have := (hrow _ e.symm).1; omega)).trans h2
  case start =>
    refine ⟨hN, ?_, hB, by omega⟩
    rw [hR, HZ.out]
    rfl
  case ax =>
    rintro x a' s A B row ⟨Bx, h1, h2, h3⟩ hg hrow
    refine ⟨Bx, h1, (hg.block _ (Array.getElem?_eq_some_iff.1 h2).1 (fun e => ?_)).trans h2, h3⟩
    obtain ⟨_, o, ho, hc⟩ := hrow _ e.symm
    rw [h2] at ho
    cases ho
    cases hc
  case assign =>
    intro l pre x W K hi hK
    simp only [enc30]
    gi_wp2
    obtain ⟨h1, h2, h3, h4⟩ := hi
    refine hK _ _ ((KeepsOthers.alloc _ _).from _) ⟨Below.heap_alloc _ _ _ (by omega), below_alloc' (Below.refl _ _) h3.size _⟩ ⟨h1.alloc _, (Below.heap_alloc _ _ _ (Array.getElem?_eq_some_iff.1 h2).1).trans h2, h3.alloc h3.size _, by rw [World.size_alloc]; omega⟩ ⟨W.heap.size, by omega, World.alloc_heap_new W _, rfl⟩
  case body =>
    rintro l pre x a' W hl2 hlr ⟨hi1, hi2, hi3, hi4⟩ ⟨Bx, h1, h2, rfl⟩ hlt
    have hn1 := hi1.cell
    have hn2 := hi1.frozen
    have hx0 : W.cell? ⟨Bx, 0, none⟩ = some (.int .i64 x.f0) := cell_of_row W Bx 0 _ 30 (0, 0) h2
    have hx1 : W.cell? ⟨Bx, 1, none⟩ = some (.int .i64 x.f1) := cell_of_row W Bx 1 _ 30 (0, 0) h2
    have hx2 : W.cell? ⟨Bx, 2, none⟩ = some (.int .i64 x.f2) := cell_of_row W Bx 2 _ 30 (0, 0) h2
    have hln : pre.length < 240 := by omega
    obtain ⟨hr0, hr1, hr2⟩ := row_cells pre hln
    have ha0 : W.cell? ⟨w.heap.size, pre.length * 3, none⟩ = some (.int .i64 0) := (cell_of_row W w.heap.size _ _ 45 (0, 0) hi2).trans hr0
    have ha1 : W.cell? ⟨w.heap.size, pre.length * 3 + 1, none⟩ = some (.int .i64 0) := (cell_of_row W w.heap.size _ _ 45 (0, 0) hi2).trans hr1
    have ha2 : W.cell? ⟨w.heap.size, pre.length * 3 + 2, none⟩ = some (.int .i64 0) := (cell_of_row W w.heap.size _ _ 45 (0, 0) hi2).trans hr2
    have hb0 : W.frozen? ⟨w.heap.size, pre.length * 3, none⟩ = false := frozen_of_row W w.heap.size _ _ 45 hi2
    have hb1 : W.frozen? ⟨w.heap.size, pre.length * 3 + 1, none⟩ = false := frozen_of_row W w.heap.size _ _ 45 hi2
    have hb2 : W.frozen? ⟨w.heap.size, pre.length * 3 + 2, none⟩ = false := frozen_of_row W w.heap.size _ _ 45 hi2
    have HI2 := Aside0.mk hi2
    have H2 := Aside0.mk h2
    have HLR := Aside0.mk hlr
    clear hi2 h2 hr0 hr1 hr2 hlr
    gi_wp2
    have hk2 := blk_set (blk_set (blk_set HI2.out (pre.length * 3) (.int .i64 x.f0)) (pre.length * 3 + 1) (.int .i64 x.f1)) (pre.length * 3 + 2) (.int .i64 x.f2)
    rw [row_set pre x hln] at hk2
    refine ⟨((((KeepsOthers.setCell _ _ _).trans (KeepsOthers.setCell _ _ _)).trans (KeepsOthers.setCell _ _ _)).trans (KeepsOthers.setCell _ _ _)).from _, ⟨?_, ?_⟩, ?_, ?_, ?_, ?_⟩
    · rw [Below.heap_setCell _ _ _ _ (by simp), Below.heap_setCell _ _ _ _ (by simp), Below.heap_setCell _ _ _ _ (by simp), Below.heap_setCell _ _ _ _ (by simp)]
    · exact ((((Below.refl w.heap.size W).setCell (p := ⟨w.heap.size, pre.length * 3, none⟩) (Nat.le_refl _) _).setCell (p := ⟨w.heap.size, pre.length * 3 + 1, none⟩) (Nat.le_refl _) _).setCell (p := ⟨w.heap.size, pre.length * 3 + 2, none⟩) (Nat.le_refl _) _).setCell (p := ⟨w.heap.size + 1, 0, none⟩) (Nat.le_succ _) _
    · have h5 : Boxed ((((W.setCell ⟨w.heap.size, pre.length * 3, none⟩ (.int .i64 x.f0)).setCell ⟨w.heap.size, pre.length * 3 + 1, none⟩ (.int .i64 x.f1)).setCell ⟨w.heap.size, pre.length * 3 + 2, none⟩ (.int .i64 x.f2))) (w.heap.size + 1) 3 (.int .i64 (pre.length : Int)) := by
        unfold Boxed
        rw [Below.heap_setCell _ _ _ _ (by simp), Below.heap_setCell _ _ _ _ (by simp), Below.heap_setCell _ _ _ _ (by simp)]
        exact hi1
      have := h5.set (.int .i64 ((pre.length : Int) + 1))
      rw [show ((pre ++ [x]).length : Int) = (pre.length : Int) + 1 from by simp]
      exact this
    · rw [Below.heap_setCell _ _ _ _ (by simp)]
      exact hk2
    · exact (((hi3.setCell (p := ⟨w.heap.size, pre.length * 3, none⟩) (Nat.le_refl _) _).setCell (p := ⟨w.heap.size, pre.length * 3 + 1, none⟩) (Nat.le_refl _) _).setCell (p := ⟨w.heap.size, pre.length * 3 + 2, none⟩) (Nat.le_refl _) _).setCell (p := ⟨w.heap.size + 1, 0, none⟩) (Nat.le_succ _) _
    · simpa using hi4
  case done =>
    rintro D ys W hD rfl ⟨h1, h2, h3, h4⟩ hK
    have hn1 := h1.cell
    obtain ⟨N, EN⟩ : ∃ N, Aside0 ((cross l0).length = N) := ⟨_, ⟨rfl⟩⟩
    rw [EN.out] at hn1 hcl
    obtain ⟨mz, hmz, hmk⟩ := make30 N hcl
    have H1 := Aside0.mk h1
    have H2 := Aside0.mk h2
    have HK := Aside0.mk hK
    have hn1a : (W.alloc (.cells mz 30)).cell? ⟨w.heap.size + 1, 0, none⟩ = some (.int .i64 (N : Int)) := by rw [← EN.out]; exact (h1.alloc (.cells mz 30)).cell
    have hsl := slice45 w.heap.size N hcl
    have HS1 := Aside0.mk (World.alloc_heap_new W (.cells mz 30))
    have HS2 := Aside0.mk (blk_alloc h2 (.cells mz 30))
    obtain ⟨W2, EW2⟩ : ∃ W2, Aside0 (W2 = (W.alloc (.cells mz 30)).setRow W.heap.size ((cross l0).flatMap cells30).toArray) := ⟨_, ⟨rfl⟩⟩
    have hfl := (row_len (cross l0) (by have := EN.out; omega)).2
    have hcp : (Builtin.copy_ #[25, 25] 3 #[.slice (some ⟨W.heap.size, 0, none⟩) N N, .slice (some ⟨w.heap.size, 0, none⟩) N 240]).run Try.prog (W.alloc (.cells mz 30)) = .ok (.int .i64 (N : Int)) W2 := by
      obtain ⟨i0, hi, hz0, hz1, hz2⟩ := info_parts info30
      have := run_copy_rows (P := Try.prog) (W.alloc (.cells mz 30)) 25 25 3 30 3 W.heap.size 0 N N ⟨w.heap.size, 0, none⟩ N 240 mz 30 ((cross l0).flatMap cells30) Try.underlying25 (by rw [hi]; simp [hz1]) HS1.out (by rw [hfl, EN.out]; simp) ?_ (by rw [hfl, EN.out, hmz]; omega) ?_
      · rw [this, EW2.out]
        have hdr : List.drop (N * 3) mz.toList = [] := List.drop_of_length_le (by simp [hmz])
        simp [goInt, hfl, hmz, EN.out, hdr]
      · intro j v hj
        rw [add_plain]
        rw [cell_of_row _ _ _ _ _ _ HS2.out]
        have : j < ((cross l0).flatMap cells30).length := (List.getElem?_eq_some_iff.1 hj).1
        unfold rowOf
        rw [List.getElem?_toArray, List.getElem?_append_left this, hj]
      · intro v hv
        obtain ⟨x, _, hx⟩ := List.mem_flatMap.1 hv
        simp only [cells30, List.mem_cons, List.not_mem_nil, or_false] at hx
        rcases hx with rfl | rfl | rfl <;> rfl
    clear h1 h2 hK hfl
    have HM := Aside0.mk hmz
    clear hmz
    gi_wp2
    have hk2 : W2.heap[D]? = some (.deferred (some [])) := by
      rw [EW2.out, setRow_other _ _ _ _ (by have := (Array.getElem?_eq_some_iff.1 HK.out).1; omega)]
      exact blk_alloc HK.out _
    have hs2 : W2.heap[W.heap.size]? = some (.cells ((cross l0).flatMap cells30).toArray 30 (0, 0)) := by
      rw [EW2.out]; exact setRow_heap _ _ _ _ _ _ HS1.out
    have hb2 : Below w.heap.size w W2 := by
      rw [EW2.out]; exact below_setRow (h3.alloc h3.size _) h3.size _
    have hDl := (Array.getElem?_eq_some_iff.1 HK.out).1
    refine ⟨by simp, .inl ⟨_, _, rfl, run_takeDeferred hk2, ?_⟩⟩
    refine ⟨_, results_tmp2 rfl _ _ _, _, rfl, ?_, ?_⟩
    · have := R30_of_block (W2.putObj D (.deferred none)) w.heap.size W.heap.size (cross l0) h3.size ((World.putObj_heap_other (by omega)).trans hs2) (by have := EN.out; omega)
      rw [EN.out] at this
      exact this
    · exact hb2.trans ((Below.refl w.heap.size W2).grown (grownBy_putObj' W2 D _) hb2.size (fun k e => by cases e; omega))
  case stop => rintro D c pre W _ _ h _; exact h.elim
theorem fine_len {l : List Int} (h : fineB l = true) : l.length ≤ 240 ∧ ∀ x ∈ l, -16383 ≤ x ∧ x ≤ 16383 := by
  unfold fineB at h
  simp only [Bool.and_eq_true, decide_eq_true_eq, List.all_eq_true] at h
  exact h
theorem fine_rd {l : List Int} (h : fineB l = true) (i : Int) : -16383 ≤ rd l i ∧ rd l i ≤ 16383 := by
  unfold rd
  by_cases hi : i.toNat < l.length
  · rw [List.getD_eq_getElem?_getD, List.getElem?_eq_getElem hi]
    exact (fine_len h).2 _ (List.getElem_mem hi)
  · rw [List.getD_eq_getElem?_getD, List.getElem?_eq_none (by omega)]
    simp
/-- The first sample out of its range stops the search. -/
theorem idx_l0 (l : List Int) (hl : l.length ≤ 1000) : ∀ (d i k : Nat), i + d = l.length → d < k → (slices_IndexFunc_int_int.l0 k l (l.length : Int) (i : Int)).map (fun r => decide (r ≥ 0)) = some (!((l.drop i).all fun x => decide (-16383 ≤ x ∧ x ≤ 16383))) := by
  intro d
  induction d with
  | zero =>
    intro i k hi hk
    obtain ⟨k, rfl⟩ : ∃ j, k = j + 1 := ⟨k - 1, by omega⟩
    simp only [slices_IndexFunc_int_int.l0]
    rw [if_neg (by omega), List.drop_of_length_le (by omega)]
    rfl
  | succ d ih =>
    intro i k hi hk
    obtain ⟨k, rfl⟩ : ∃ j, k = j + 1 := ⟨k - 1, by omega⟩
    have hlt : i < l.length := by omega
    simp only [slices_IndexFunc_int_int.l0]
    rw [if_pos (by omega), if_pos (by omega), if_pos (by omega)]
    have er : rd l (i : Int) = l[i] := by simp [rd, hlt]
    have ew : wrap64 ((i : Int) + 1) = ((i + 1 : Nat) : Int) := by unfold wrap64; omega
    rw [er, List.drop_eq_getElem_cons hlt, List.all_cons]
    unfold frequency_good_c1.f
    by_cases h1 : l[i] < -16383
    · rw [if_pos h1]
      simp only [Option.bind_some, if_true, Option.map_some]
      have : ¬ -16383 ≤ l[i] := by omega
      simp [this]
    · rw [if_neg h1]
      simp only [Option.bind_some, decide_eq_true_eq]
      by_cases h2 : l[i] > 16383
      · rw [if_pos h2]
        have : ¬ l[i] ≤ 16383 := by omega
        simp [this]
      · rw [if_neg h2, ew, ih (i + 1) k (by omega) (by omega)]
        have a1 : -16383 ≤ l[i] := by omega
        have a2 : l[i] ≤ 16383 := by omega
        simp [a1, a2]
theorem good_eq (l : List Int) (k : Nat) (hl : l.length ≤ 1000) (hk : l.length < k) : frequency_good.f k l = some (fineB l) := by
  unfold frequency_good.f fineB
  by_cases h : l.length ≤ 240
  · rw [if_pos (by omega)]
    have := idx_l0 l hl l.length 0 k (by omega) hk
    unfold slices_ContainsFunc_int_int.f slices_IndexFunc_int_int.f
    cases hq : slices_IndexFunc_int_int.l0 k l (l.length : Int) 0 with
    | none => rw [show ((0 : Nat) : Int) = 0 from rfl, hq] at this; cases this
    | some r =>
      rw [show ((0 : Nat) : Int) = 0 from rfl, hq, Option.map_some] at this
      have := Option.some.inj this
      simp only [Option.bind_some]
      rw [this, List.drop_zero]
      simp [h]
  · rw [if_neg (by omega)]
    simp [h]
theorem good_big (l : List Int) (k : Nat) (h : ¬ l.length ≤ 240) : frequency_good.f k l = some (fineB l) := by
  unfold frequency_good.f fineB
  rw [if_neg (by omega)]
  simp [h]
set_option maxHeartbeats 1000000 in
theorem crossings_no (A0 : Option Addr) (c0 : Nat) (l0 : List Int) (w : World) (hr0 : Kd.C (Kd.int .i64) w A0 l0.length l0) (hc0 : l0.length ≤ c0) (k : Nat) (hg : frequency_good.f k l0 = some false) :
    Calls Try.prog 10 #[.slice A0 l0.length c0] w fun e w' => e = .returned (.tuple #[.slice none 0 0, .int .i64 1]) ∧ Below w.heap.size w w' := by
  have hu22 := Try.underlying22
  have HR0 := Aside0.mk hr0
  have HC0 := Aside0.mk hc0
  have HG := Aside0.mk hg
  clear hr0 hc0 hg
  go_enter Try.func10, Try.ntmps10
  go_wp2_with (go_at_call 20; refine (frequency_good.calls k _ _ _ _ _ HR0.out HC0.out HG.out).mono ?_; rintro e_ w1 ⟨rfl, hd⟩; obtain ⟨⟨d, rfl⟩⟩ := hd)
  go_ret2
  exact ⟨rfl, pw_below_drewN (Below.refl _ _) d⟩
theorem frequency_Crossings.calls (k : Nat) (A0 : Option Addr) (c0 : Nat) (l0 : List Int) (r1 : List (S30)) (r2 : Int) (w : World) (hr0 : Kd.C (Kd.int .i64) w A0 l0.length l0) (hc0 : l0.length ≤ c0) (h : frequency_Crossings.f k l0 = some (r1, r2)) :
    Calls Try.prog 10 #[.slice A0 l0.length c0] w fun e w' => ∃ v0_ : Value, e = .returned (.tuple #[v0_, .int .i64 r2]) ∧ Kd.R k30 30 w' w.heap.size (fun _ => True) v0_ r1 ∧ Below w.heap.size w w' := by
  have h := Option.some.inj h
  cases hf : fineB l0 with
  | true =>
    rw [hf, if_pos rfl] at h
    cases h
    refine callsIn_wide.1 (crossings_in A0 c0 l0 w hr0 hc0 (fine_len hf).1 (fine_rd hf) ?_)
    rw [good_eq l0 1000 (by have := (fine_len hf).1; omega) (by have := (fine_len hf).1; omega), hf]
  | false =>
    rw [hf, if_neg (by simp)] at h
    cases h
    have hg : ∃ k, frequency_good.f k l0 = some false := by
      by_cases hl : l0.length ≤ 240
      · exact ⟨1000, by rw [good_eq l0 1000 (by omega) (by omega), hf]⟩
      · exact ⟨0, by rw [good_big l0 0 hl, hf]⟩
    obtain ⟨k, hg⟩ := hg
    refine (crossings_no A0 c0 l0 w hr0 hc0 k hg).mono ?_
    rintro e w' ⟨rfl, hb⟩
    exact ⟨_, rfl, Kd.R_nil _ _ _ _ _, hb⟩
end Go.Proofs.Ytiemghinklablaa.PAll
