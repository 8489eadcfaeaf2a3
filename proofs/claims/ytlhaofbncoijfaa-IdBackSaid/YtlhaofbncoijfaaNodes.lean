/- The iterator 'nodes' of package id: a tree's nodes with their depths. -/
import Derived.Test.YtlhaofbncoijfaaTreeBase
import Derived.Test.YtlhaofbncoijfaaNest
import Derived.Outline
import Derived.Lib.Hide
import Derived.WalkMore
namespace Go.Proofs.Ytlhaofbncoijfaa.HandF
set_option linter.unusedVariables false
set_option linter.unusedSimpArgs false
open Go.RowKit Go.Shelf Go.Proofs.Ytlhaofbncoijfaa.X Go.Proofs.Ytlhaofbncoijfaa.Blocks Go.Proofs.Ytlhaofbncoijfaa.Nest
open Go.Proofs.YtlhaofbncoijfaaW.PrintWords Go.Proofs.YtlhaofbncoijfaaW.PrintLast Go.Proofs.YtlhaofbncoijfaaW.PrintMore
attribute [local go_sem] Oper.semAt_some

/-- A tree's nodes with their depths: m levels more may be gone down. -/
def nodesL : Nat → Int → S24 → List (Int × S24)
  | 0, d, t => [(d, t)]
  | m + 1, d, t => (d, t) :: (t.f1.map (nodesL m (d + 1))).flatten

theorem nodes_calls (n : Nat) (b : Bool) (A : Option Addr) (len c : Nat) (d : Int) (w : World) :
    CallsIn Fence.wide n Try.prog 41 #[.agg #[.bool b, .slice A len c], .int .i64 d] w fun e w' =>
      e = .returned (.func (.func 67) #[] #[.pointer (some ⟨w.heap.size + 1, 0, none⟩), .pointer (some ⟨w.heap.size, 0, none⟩)]) ∧
      w' = (w.alloc (.cells #[.bool b, .slice A len c] 24)).alloc (.cells #[.int .i64 d] 3) := by
  have hu24 := Try.underlying24
  refine callsIn_of_wp Try.func41 rfl trivial ?_ rfl
  simp only [Try.ntmps41, List.size_toArray, List.length_cons, List.length_nil, Nat.reduceAdd, Nat.reduceSub, Array.replicate_succ, Array.replicate_zero, List.push_toArray, List.append_toArray, List.nil_append, List.cons_append]
  gi_wp2
  go_ret
  exact ⟨rfl, rfl⟩

/-- A kid as it lies in memory: the tree, its row's address and room. -/
abbrev Kid := S24 × Option Addr × Nat
def Kid.Lies (W : World) (k : Kid) : Prop := k.1.f1.length ≤ k.2.2 ∧ Kd.C k24 W k.2.1 k.1.f1.length k.1.f1
theorem kids_of {W : World} {A : Option Addr} {n : Nat} {l : List S24} (h : Kd.C k24 W A n l) : ∃ K : List Kid, K.map Prod.fst = l ∧ ∀ j (k : Kid), K[j]? = some k → k.Lies W ∧ ∃ ad, A = some ad ∧
    W.cell? (ad.add (j * 2)) = some (.bool k.1.f0) ∧ W.cell? ⟨(ad.add (j * 2)).block, (ad.add (j * 2)).off + 1, none⟩ = some (.slice k.2.1 k.1.f1.length k.2.2) := by
  have hn := h.1
  have key : ∀ j, j < l.length → ∃ k : Kid, k.1 = rd_T24 l (j : Int) ∧ k.Lies W ∧ ∃ ad, A = some ad ∧
      W.cell? (ad.add (j * 2)) = some (.bool k.1.f0) ∧ W.cell? ⟨(ad.add (j * 2)).block, (ad.add (j * 2)).off + 1, none⟩ = some (.slice k.2.1 k.1.f1.length k.2.2) := fun j hj => by
    obtain ⟨ad, A1, c1, e, h1, h2, h3, h4⟩ := at_T24 h (j : Int) (by omega) (by omega)
    rw [Int.toNat_natCast] at h1 h2
    exact ⟨(rd_T24 l (j : Int), A1, c1), rfl, ⟨h3, h4⟩, ad, e, h1, h2⟩
  have build : ∀ m, m ≤ l.length → ∃ K : List Kid, K.map Prod.fst = l.take m ∧ ∀ j (k : Kid), K[j]? = some k → k.Lies W ∧ ∃ ad, A = some ad ∧
      W.cell? (ad.add (j * 2)) = some (.bool k.1.f0) ∧ W.cell? ⟨(ad.add (j * 2)).block, (ad.add (j * 2)).off + 1, none⟩ = some (.slice k.2.1 k.1.f1.length k.2.2) := by
    intro m
    induction m with
    | zero => exact fun _ => ⟨[], rfl, fun j k h => by simp at h⟩
    | succ m ih =>
      intro hm
      obtain ⟨K, hK, hp⟩ := ih (by omega)
      obtain ⟨k, hk, hk2⟩ := key m (by omega)
      have hlen : K.length = m := by have := congrArg List.length hK; rw [List.length_map, List.length_take] at this; omega
      refine ⟨K ++ [k], ?_, fun j k' h => ?_⟩
      · rw [List.map_append, hK, List.take_succ_eq_append_getElem (by omega)]
        simp only [List.map_cons, List.map_nil, hk]
        congr 2
        unfold rd_T24
        rw [Int.toNat_natCast, List.getD_eq_getElem?_getD, List.getElem?_eq_getElem (by omega)]
        rfl
      · rcases Nat.lt_or_ge j K.length with hj | hj
        · rw [List.getElem?_append_left hj] at h
          exact hp j k' h
        · rw [List.getElem?_append_right hj] at h
          have hj0 : j - K.length = 0 := by
            rcases Nat.eq_zero_or_pos (j - K.length) with h0 | h0
            · exact h0
            · rw [List.getElem?_eq_none (by simp; omega)] at h; cases h
          rw [hj0] at h
          obtain rfl : k = k' := by simpa using h
          obtain rfl : j = m := by omega
          exact hk2
  obtain ⟨K, hK, hp⟩ := build l.length (Nat.le_refl _)
  exact ⟨K, by rw [hK, List.take_length], hp⟩

abbrev Item := Int × Kid
def Item.enc (x : Item) : Array Value := #[.int .i64 x.1, .agg #[.bool x.2.1.f0, .slice x.2.2.1 x.2.1.f1.length x.2.2.2]]
/-- Every cell of w0 is as it was. -/
def Sees (w0 W : World) : Prop := ∀ (p : Addr) (v : Value), w0.cell? p = some v → W.cell? p = some v
/-- What the iterator reads at each of its rounds. -/
def NodesInv (w0 : World) (Bt Bd : Nat) (d : Int) (k : Kid) (W : World) : Prop :=
  Sees w0 W ∧ W.heap[Bt]? = some (.cells #[.bool k.1.f0, .slice k.2.1 k.1.f1.length k.2.2] 24 (0, 0)) ∧ W.heap[Bd]? = some (.cells #[.int .i64 d] 3 (0, 0))
/-- A node of at most two kids. -/
def Item.Two (x : Item) : Prop := x.2.1.f1.length ≤ 2
/-- How a yield ends. -/
def YieldEnd (S : Nat) (J : World → Prop) (Jx : World → Prop) (W : World) (e : Ending) (W' : World) : Prop :=
  ∃ b : Bool, e = .returned (.bool b) ∧ Keep S W W' ∧ (b = true → J W') ∧ (b = false → Jx W')
theorem yieldEnd_of {S : Nat} {J Jx : World → Prop} {W : World} (e : Ending) (W' : World) (h : Keep S W W' ∧ ((e = .returned (.bool true) ∧ J W') ∨ (e = .returned (.bool false) ∧ Jx W'))) : YieldEnd S J Jx W e W' := by
  obtain ⟨hk, ⟨rfl, h1⟩ | ⟨rfl, h1⟩⟩ := h
  · exact ⟨true, rfl, hk, fun _ => h1, fun h => by cases h⟩
  · exact ⟨false, rfl, hk, (fun h => by cases h), fun _ => h1⟩
theorem pick_all {α β : Type} {R : α → β → Prop} : ∀ {K : List α}, (∀ c ∈ K, ∃ L, R c L) → ∃ Ls : List β, Ls.length = K.length ∧ ∀ (j : Nat) (c : α) (L : β), K[j]? = some c → Ls[j]? = some L → R c L
  | [], _ => ⟨[], rfl, fun j c L h => by simp at h⟩
  | c :: K, h => by
    obtain ⟨L, hL⟩ := h c (by simp)
    obtain ⟨Ls, h1, h2⟩ := pick_all (K := K) (fun c hc => h c (by simp [hc]))
    refine ⟨L :: Ls, by simp [h1], fun j c' L' hc hl => ?_⟩
    match j, hc, hl with
    | 0, hc, hl =>
      obtain rfl : c = c' := by simpa using hc
      obtain rfl : L = L' := by simpa using hl
      exact hL
    | j + 1, hc, hl => exact h2 j c' L' (by simpa using hc) (by simpa using hl)
theorem flatten_at {α : Type} : ∀ {Ls : List (List α)} {i : Nat} {L : List α} {k : Nat} {x : α}, Ls[i]? = some L → L[k]? = some x → Ls.flatten[(Ls.take i).flatten.length + k]? = some x
  | [], i, L, k, x, h, _ => by simp at h
  | M :: Ls, 0, L, k, x, h, hx => by
    obtain rfl : M = L := by simpa using h
    have hk : k < M.length := (List.getElem?_eq_some_iff.1 hx).1
    simp only [List.take_zero, List.flatten_nil, List.length_nil, Nat.zero_add, List.flatten_cons]
    rw [List.getElem?_append_left hk]; exact hx
  | M :: Ls, i + 1, L, k, x, h, hx => by
    have h' : Ls[i]? = some L := by simpa using h
    have ih := flatten_at h' hx
    simp only [List.take_succ_cons, List.flatten_cons, List.length_append]
    rw [Nat.add_assoc, List.getElem?_append_right (Nat.le_add_right _ _), Nat.add_sub_cancel_left]
    exact ih
theorem below_cell {w w' : World} (h : Below w.heap.size w w') {p : Addr} {v : Value} (hp : w.cell? p = some v) : w'.cell? p = some v := by
  have hlt : p.block < w.heap.size := by
    unfold World.cell? at hp
    cases ho : w.heap[p.block]? with
    | none => simp [ho] at hp
    | some o => exact (Array.getElem?_eq_some_iff.1 ho).1
  exact (h.cell hlt).trans hp
theorem Sees.of_below {w0 W : World} (h : Below w0.heap.size w0 W) : Sees w0 W := fun _ _ hp => below_cell h hp
set_option maxRecDepth 100000 in
set_option maxHeartbeats 4000000 in
/-- At the last level. -/
theorem nodes_last (w0 : World) (k : Kid) (Bt Bd S : Nat) :
    SeqW Try.prog 67 #[.pointer (some ⟨Bd, 0, none⟩), .pointer (some ⟨Bt, 0, none⟩)] Item.enc [((33 : Int), k)] Item.Two (NodesInv w0 Bt Bd 33 k) S := by
  intro l J Jx hGood hInv hJ hJx hY W h0 hS
  have hu24 := Try.underlying24
  obtain ⟨hb, hBt, hBd⟩ := hInv _ _ h0
  have gBt := alloc_at hBt (.cells #[.func (.yield l) #[] #[]] 87)
  have gBd := alloc_at hBd (.cells #[.func (.yield l) #[] #[]] 87)
  have gy := alloc_new W (.cells #[.func (.yield l) #[] #[]] 87)
  have hc0 := cell0 gBt
  have hc1 := cell1 gBt
  have hcd := cell_of_one gBd
  have hcy := cell_of_one gy
  have h1 := hJ _ _ _ h0 (StepN.alloc W (.cells #[.func (.yield l) #[] #[]] 87) hS)
  obtain ⟨fn, tmps, assign, body, hy, hR⟩ := yield_wide (m' := 2) (hY 0 _ _ rfl h1 (by rw [World.size_alloc]; omega))
  have HR := Lib.hid (RoundIn.mono hR yieldEnd_of)
  clear hR hY gBt gBd gy h1 h0 hBt hBd hb
  unfold Item.enc at hy
  refine calls_any (m := 3) ?_
  show CallsIn Fence.wide 3 Try.prog 67 #[.func (.yield l) #[] #[], .pointer (some ⟨Bd, 0, none⟩), .pointer (some ⟨Bt, 0, none⟩)] W _
  refine callsIn_of_wp Try.func67 rfl trivial ?_ rfl
  simp only [Try.ntmps67, List.size_toArray, List.length_cons, List.length_nil, Nat.reduceAdd, Nat.reduceSub, Array.replicate_succ, Array.replicate_zero, List.push_toArray, List.append_toArray, List.nil_append, List.cons_append]
  gi_wp2
  refine RoundIn.mono HR.out ?_
  rintro e W3 ⟨b, rfl, hk, hT, hX⟩
  cases b
  · have hx := Lib.hid (hX rfl)
    clear hX hT hk
    gi_wp2
    refine bodyPost_ret (results_none rfl _ _ _) rfl ?_
    exact ⟨⟨_, rfl⟩, .inr hx.out⟩
  · have hx := Lib.hid (hT rfl)
    have hcd2 := cell_of_one (hInv _ _ (hT rfl)).2.2
    clear hX hT hk
    gi_wp2
    refine bodyPost_ret (results_none rfl _ _ _) rfl ?_
    exact ⟨⟨_, rfl⟩, .inl hx.out⟩

set_option maxRecDepth 100000 in
set_option maxHeartbeats 4000000 in
theorem nodes_step (d : Int) (hd0 : 0 ≤ d) (hd : d ≤ 32) (k : Kid) (w0 : World) (hk0 : k.Lies w0) (K : List Kid) (hK : K.map Prod.fst = k.1.f1)
    (hKc : ∀ (j : Nat) (c : Kid), K[j]? = some c → c.Lies w0 ∧ ∃ ad, k.2.1 = some ad ∧ w0.cell? (ad.add (j * 2)) = some (.bool c.1.f0) ∧ w0.cell? ⟨(ad.add (j * 2)).block, (ad.add (j * 2)).off + 1, none⟩ = some (.slice c.2.1 c.1.f1.length c.2.2))
    (Ls : List (List Item)) (hLs : Ls.length = K.length)
    (hseq : ∀ (j : Nat) (c : Kid) (L : List Item), K[j]? = some c → Ls[j]? = some L → ∀ Bt Bd S, SeqW Try.prog 67 #[.pointer (some ⟨Bd, 0, none⟩), .pointer (some ⟨Bt, 0, none⟩)] Item.enc L Item.Two (NodesInv w0 Bt Bd (d + 1) c) S) (Bt Bd S : Nat) :
    SeqW Try.prog 67 #[.pointer (some ⟨Bd, 0, none⟩), .pointer (some ⟨Bt, 0, none⟩)] Item.enc ((d, k) :: Ls.flatten) Item.Two (NodesInv w0 Bt Bd d k) S := by
  obtain ⟨t, Ao, cp⟩ := k
  dsimp only at hK hKc
  intro l J Jx hGood hInv hJ hJx hY W h0 hS
  have hu24 := Try.underlying24
  have hu22 := Try.underlying22
  obtain ⟨hb, hBt, hBd⟩ := hInv _ _ h0
  have gBt := alloc_at hBt (.cells #[.func (.yield l) #[] #[]] 87)
  have gBd := alloc_at hBd (.cells #[.func (.yield l) #[] #[]] 87)
  have gy := alloc_new W (.cells #[.func (.yield l) #[] #[]] 87)
  have hc0 := cell0 gBt
  have hc1 := cell1 gBt
  have hcd := cell_of_one gBd
  have hcy := cell_of_one gy
  have h1 := hJ _ _ _ h0 (StepN.alloc W (.cells #[.func (.yield l) #[] #[]] 87) hS)
  obtain ⟨fn, tmps, assign, body, hy, hR⟩ := yield_wide (m' := 2) (hY 0 _ _ rfl h1 (by rw [World.size_alloc]; omega))
  have HR := Lib.hid (RoundIn.mono hR yieldEnd_of)
  have HY := Lib.hid hY
  have Gy := Lib.hid gy
  clear hR hY gBt gBd gy h1 h0 hBt hBd hb
  unfold Item.enc at hy
  refine calls_any (m := 3) ?_
  show CallsIn Fence.wide 3 Try.prog 67 #[.func (.yield l) #[] #[], .pointer (some ⟨Bd, 0, none⟩), .pointer (some ⟨Bt, 0, none⟩)] W _
  refine callsIn_of_wp_marks Try.func67 rfl trivial ?_ rfl
  simp only [Try.ntmps67, List.size_toArray, List.length_cons, List.length_nil, Nat.reduceAdd, Nat.reduceSub, Array.replicate_succ, Array.replicate_zero, List.push_toArray, List.append_toArray, List.nil_append, List.cons_append]
  gi_wp2
  refine RoundIn.mono HR.out ?_
  rintro e W3 ⟨b, rfl, hk, hT, hX⟩
  cases b
  · have hx := Lib.hid (hX rfl)
    clear hX hT hk
    gi_wp2
    exact ⟨_, results_none rfl _ _ _, ⟨_, rfl⟩, .inr hx.out⟩
  · have hx := Lib.hid (hT rfl)
    obtain ⟨hb3, hBt3, hBd3⟩ := hInv _ _ (hT rfl)
    have hlen2 : t.f1.length ≤ 2 := hGood 0 _ _ rfl (hT rfl)
    have HGOOD := Lib.hid hGood
    clear hGood
    have hcd2 := cell_of_one hBd3
    have hcd0 := cell0 hBt3
    have hcd1 := cell1 hBt3
    have d32 : decide ((32 : Int) < d) = false := decide_eq_false (by omega)
    have hK3 := Lib.hid hk
    have Hb := Lib.hid hb3
    clear hX hT hk hb3 hBt3 hBd3
    gi_wp2
    obtain ⟨Wy, hWy⟩ : ∃ Wy, W.alloc (.cells #[.func (.yield l) #[] #[]] 87) = Wy := ⟨_, rfl⟩
    have hsy : Wy.heap.size = W.heap.size + 1 := by rw [← hWy]; simp
    have HGy : Hid (Wy.heap[W.heap.size]? = some (.cells #[.func (.yield l) #[] #[]] 87 (0, 0))) := by rw [← hWy]; exact Gy
    have HK3 : Hid (Keep S Wy W3) := by rw [← hWy]; exact hK3
    have HS := Lib.hid hS
    have HSY := Lib.hid hsy
    clear HR hy hc0 hc1 hcd hcy Gy hK3 hWy hsy hS
    refine wpIn_loop (fun a Wr => ∃ (u : Nat → Value) (ds : List Deferred) (i : Nat), i ≤ K.length ∧ a = { tmps := #[.func (.yield l) #[] #[], .pointer (some ⟨Bd, 0, none⟩), .pointer (some ⟨Bt, 0, none⟩), .pointer (some ⟨W.heap.size, 0, none⟩), u 4, u 5, u 6, u 7, u 8, u 9, u 10, u 11, u 12, u 13, u 14, u 15, u 16, u 17,
        .slice Ao t.f1.length cp, .int .i64 (t.f1.length : Int), .int .i64 (i : Int), u 21, u 22, u 23, u 24, u 25, u 26, u 27, u 28, u 29, u 30, u 31, u 32, u 33, u 34, u 35], defers := ds } ∧
        J (1 + (Ls.take i).flatten.length) Wr ∧ Keep S Wy Wr ∧ Marks S ds Wr) (fun a _ => K.length - (intOf (a.tmps.getD 20 undef)).toNat) ?_ ?_
    · refine ⟨fun j => Array.getD #[Value.func (Fn.yield l) #[] #[], .pointer (some ⟨Bd, 0, none⟩), .pointer (some ⟨Bt, 0, none⟩), .pointer (some ⟨W.heap.size, 0, none⟩), undef, undef, undef, undef, .func (.yield l) #[] #[], .int .i64 d, .agg #[.bool t.f0, .slice Ao t.f1.length cp], .bool true, .bool false, .bool false, .int .i64 d, .bool false, .bool false,
        .pointer (some ⟨Bt, 1, none⟩), undef, undef, undef, undef, undef, undef, undef, undef, undef, undef, undef, undef, undef, undef, undef, undef, undef, undef] j undef, [], 0, Nat.zero_le _, rfl, hx.out, HK3.out, Marks.nil _ _⟩
    · rintro _ Wr ⟨u, ds, i, hi, rfl, hJ1, hkr, hm⟩
      have hKl : K.length = t.f1.length := by rw [← hK, List.length_map]
      by_cases hik : i < K.length
      · obtain ⟨c, hc⟩ : ∃ c, K[i]? = some c := ⟨_, List.getElem?_eq_getElem hik⟩
        obtain ⟨L, hL⟩ : ∃ L, Ls[i]? = some L := ⟨_, List.getElem?_eq_getElem (by omega)⟩
        obtain ⟨hlies, ad, rfl, g0, g1⟩ := hKc i c hc
        obtain ⟨hbr, hBtr, hBdr⟩ := hInv _ _ hJ1
        have k0 := hbr _ _ g0
        have k1 := hbr _ _ g1
        have hcd := cell_of_one hBdr
        have hcda := cell_of_one (alloc_at hBdr (.cells #[.bool c.1.f0, .slice c.2.1 c.1.f1.length c.2.2] 24))
        have hgyr := hkr.some HS.out HGy.out
        have hi1 : (i : Int) < (t.f1.length : Int) := by omega
        have hd1 : decide ((i : Int) < (t.f1.length : Int)) = true := decide_eq_true (by omega)
        have hd2 : decide (i < t.f1.length) = true := decide_eq_true (by omega)
        have hw1 : wrap64 (d + 1) = d + 1 := by unfold wrap64; omega
        have HJ1 := Lib.hid hJ1
        have HM := Lib.hid hm
        have HKR := Lib.hid hkr
        have HBR := Lib.hid hbr
        have HGYR := Lib.hid hgyr
        have HSEQ := Lib.hid (hseq i c L hc hL)
        have HINV := Lib.hid hInv
        have HJ := Lib.hid hJ
        have HJX := Lib.hid hJx
        have HC := Lib.hid hc
        have HL := Lib.hid hL
        have HKC := Lib.hid hKc
        have HKL := Lib.hid hKl
        clear hJ1 hm hkr hbr hgyr hseq hInv hJ hJx hc hL hKc hKl hBtr g0 g1 hK hLs hlies
        gi_wp2_with (refine ⟨trivial, ?_⟩; gi_at_call 41; refine (nodes_calls _ _ _ _ _ _ _).mono ?_; rintro e w' ⟨rfl, rfl⟩)
        obtain ⟨Wb, hWb⟩ : ∃ Wb, ((Wr.alloc (.cells #[.bool c.1.f0, .slice c.2.1 c.1.f1.length c.2.2] 24)).alloc (.cells #[.bool c.1.f0, .slice c.2.1 c.1.f1.length c.2.2] 24)).alloc (.cells #[.int .i64 (d + 1)] 3) = Wb := ⟨_, rfl⟩
        have hsb : Wb.heap.size = Wr.heap.size + 3 := by rw [← hWb]; simp
        have e1 : Wb.heap[Wr.heap.size + 1]? = some (.cells #[.bool c.1.f0, .slice c.2.1 c.1.f1.length c.2.2] 24 (0, 0)) := by
          rw [← hWb]; refine alloc_at ?_ _
          have := alloc_new (Wr.alloc (.cells #[.bool c.1.f0, .slice c.2.1 c.1.f1.length c.2.2] 24)) (.cells #[.bool c.1.f0, .slice c.2.1 c.1.f1.length c.2.2] 24)
          rwa [World.size_alloc] at this
        have e2 : Wb.heap[Wr.heap.size + 1 + 1]? = some (.cells #[.int .i64 (d + 1)] 3 (0, 0)) := by
          rw [← hWb]
          have := alloc_new ((Wr.alloc (.cells #[.bool c.1.f0, .slice c.2.1 c.1.f1.length c.2.2] 24)).alloc (.cells #[.bool c.1.f0, .slice c.2.1 c.1.f1.length c.2.2] 24)) (.cells #[.int .i64 (d + 1)] 3)
          rwa [World.size_alloc, World.size_alloc] at this
        have hSr : S ≤ Wr.heap.size := by have := HS.out; have := HKR.out.size; have := HSY.out; omega
        have hrb : StepN S Wr Wb := by
          rw [← hWb]
          exact ((StepN.alloc _ _ hSr).trans (StepN.alloc _ _ (by simp; omega))).trans (StepN.alloc _ _ (by simp; omega))
        have hbb : Below Wr.heap.size Wr Wb := by
          rw [← hWb]
          exact (((Below.refl _ _).alloc (Nat.le_refl _) _).alloc (by simp) _).alloc (by simp; omega) _
        have hkb : Keep S Wr Wb := Keep.fresh hbb
        have hyb := hkb.some HS.out HGYR.out
        have HYB := Lib.hid hyb
        have hJb := HJ.out _ _ _ HJ1.out hrb
        have hgi : ∀ (k' : Nat) (x : Item), L[k']? = some x → (((d, t, some ad, cp) : Item) :: Ls.flatten)[1 + (Ls.take i).flatten.length + k']? = some x := fun k' x hx => by
          rw [Nat.add_assoc, Nat.add_comm 1, List.getElem?_cons_succ]
          exact flatten_at HL.out hx
        have HGI := Lib.hid hgi
        have HE1 := Lib.hid e1
        have HE2 := Lib.hid e2
        have HSB := Lib.hid hsb
        have HSR := Lib.hid hSr
        have HBB := Lib.hid hbb
        have HKB := Lib.hid hkb
        have HJB := Lib.hid hJb
        rw [hWb]
        clear hJb hkb hbb hSr hsb e2 e1 hgi hyb hWb hrb hcda hcd
        refine wpIn_rangeFunc_seqW (gf := 67) (lb := #[.pointer (some ⟨Wr.heap.size + 1 + 1, 0, none⟩), .pointer (some ⟨Wr.heap.size + 1, 0, none⟩)]) rfl (enters_of Try.func67 (by kernel_rfl) rfl)
          (HSEQ.out (Wr.heap.size + 1) (Wr.heap.size + 1 + 1) (Wb.heap.size + 2)) (fun _ => rfl)
          (fun k' W' => J (1 + (Ls.take i).flatten.length + k') W' ∧ Keep S Wb W') (fun x W' => x = .ret ∧ Jx W' ∧ Keep S Wb W')
          (fun k' x W' hx h => HGOOD.out _ _ _ (HGI.out _ _ hx) h.1)
          (fun k' W' h => ⟨(HINV.out _ _ h.1).1, h.2.some (by have := HSR.out; omega) HE1.out, h.2.some (by have := HSR.out; omega) HE2.out⟩)
          (fun k' A B h hs => ⟨HJ.out _ _ _ h.1 (hs.mono (by have := HSR.out; have := HSB.out; omega)), h.2.step (Nat.le_refl _) hs.below⟩)
          (fun x A B h hs => ⟨h.1, HJX.out _ _ h.2.1 (hs.mono (by have := HSR.out; have := HSB.out; omega)), h.2.2.step (Nat.le_refl _) hs.below⟩)
          ⟨HJB.out, Keep.refl _ _⟩
          (fun x m a' W' => a' = { tmps := #[.func (.yield l) #[] #[], .pointer (some ⟨Bd, 0, none⟩), .pointer (some ⟨Bt, 0, none⟩), .pointer (some ⟨W.heap.size, 0, none⟩), u 4, .pointer (some ⟨Wr.heap.size, 0, none⟩), .int .i64 x.1, .pointer (some ⟨m, 0, none⟩), u 8, u 9, u 10, u 11, u 12, u 13, u 14, u 15, u 16, u 17,
            .slice (some ad) t.f1.length cp, .int .i64 (t.f1.length : Int), .int .i64 (i : Int), .bool true, .pointer (some (ad.add (i * 2))), .agg #[.bool c.1.f0, .slice c.2.1 c.1.f1.length c.2.2], .agg #[.bool c.1.f0, .slice c.2.1 c.1.f1.length c.2.2], .int .i64 d, .int .i64 (d + 1),
            .func (.func 67) #[] #[.pointer (some ⟨Wr.heap.size + 1 + 1, 0, none⟩), .pointer (some ⟨Wr.heap.size + 1, 0, none⟩)], .int .i64 x.1, .agg #[.bool x.2.1.f0, .slice x.2.2.1 x.2.1.f1.length x.2.2.2], u 30, u 31, u 32, u 33, u 34, u 35], defers := [] } ∧
            W'.heap[m]? = some (.cells #[.bool x.2.1.f0, .slice x.2.2.1 x.2.1.f1.length x.2.2.2] 24 (0, 0)))
          (fun x m a' A B h hs => ⟨h.1, hs.cells _ _ h.2 rfl⟩) ?assign ?body ?done ?stop
        case assign =>
          intro l' x W' K' hK'
          have HK' := Lib.hid hK'
          clear hK'
          unfold Item.enc
          gi_wp2
          refine HK'.out _ _ ?_ ?_ ⟨rfl, ?_⟩
          · exact (Below.refl _ _).alloc (Nat.le_refl _) _
          · simp
          · exact alloc_new _ _
        case body =>
          rintro l' k' x m a' W' hx ⟨hJ', hK'⟩ ⟨rfl, hA⟩ hm1 hm2
          have hc0 := cell0 hA
          have hc1 := cell1 hA
          have hcy := cell_of_one (hK'.some HS.out HYB.out)
          obtain ⟨fn, tmps, assign, body, hy, hR⟩ := yield_any (m' := 2) (l' := l') (HY.out _ _ _ (HGI.out _ _ hx) hJ' (by have := HSR.out; have := HSB.out; omega))
          have HR := Lib.hid (RoundIn.mono hR yieldEnd_of)
          have HK' := Lib.hid hK'
          unfold Item.enc at hy
          clear hR hK' hJ' hx hA hm1 hm2
          gi_wp2
          refine RoundIn.mono HR.out ?_
          rintro e W4 ⟨b, rfl, hk, hT, hX⟩
          cases b
          · have hx := Lib.hid (hX rfl)
            have hk := Lib.hid hk
            clear hX hT
            gi_wp2
            exact ⟨hk.out.mono (by have := HSR.out; have := HSB.out; omega), rfl, hx.out, HK'.out.trans hk.out⟩
          · have hx := Lib.hid (hT rfl)
            have hk := Lib.hid hk
            clear hX hT
            gi_wp2
            exact ⟨hk.out.mono (by have := HSR.out; have := HSB.out; omega), hx.out, HK'.out.trans hk.out⟩
        case done =>
          rintro D W' hD ⟨hJ', hK'⟩ hd
          have HJ' := Lib.hid hJ'
          have HK' := Lib.hid hK'
          have HD := Lib.hid hD
          have Hd := Lib.hid hd
          clear hJ' hK' hD hd
          have hwi : wrap64 ((i : Int) + 1) = (i : Int) + 1 := by unfold wrap64; omega
          gi_wp2
          refine ⟨⟨fun j => Array.getD #[Value.func (Fn.yield l) #[] #[], .pointer (some ⟨Bd, 0, none⟩), .pointer (some ⟨Bt, 0, none⟩), .pointer (some ⟨W.heap.size, 0, none⟩), u 4, .pointer (some ⟨Wr.heap.size, 0, none⟩), u 6, u 7, u 8, u 9, u 10, u 11, u 12, u 13, u 14, u 15, u 16, u 17,
            .slice (some ad) t.f1.length cp, .int .i64 (t.f1.length : Int), .int .i64 ((i : Int) + 1), .bool true, .pointer (some (ad.add (i * 2))), .agg #[.bool c.1.f0, .slice c.2.1 c.1.f1.length c.2.2], .agg #[.bool c.1.f0, .slice c.2.1 c.1.f1.length c.2.2], .int .i64 d, .int .i64 (d + 1),
            .func (.func 67) #[] #[.pointer (some ⟨Wr.heap.size + 1 + 1, 0, none⟩), .pointer (some ⟨Wr.heap.size + 1, 0, none⟩)], u 28, u 29, u 30, u 31, u 32, u 33, u 34, .int .i64 ((i : Int) + 1)] j undef, _, i + 1, hik, by push_cast; rfl, ?_, (HKR.out.trans HKB.out).trans HK'.out,
            Marks.cons HM.out (HKB.out.trans HK'.out) (by have := HSB.out; have := HD.out; omega) HSR.out Hd.out⟩, ?_⟩
          · have hj := HJ'.out
            rw [show 1 + (Ls.take (i + 1)).flatten.length = 1 + (Ls.take i).flatten.length + L.length by
              rw [List.take_add_one, HL.out]
              simp; omega]
            exact hj
          · show K.length - ((i : Int) + 1).toNat < K.length - ((i : Int)).toNat
            omega
        case stop =>
          rintro D _ W' hD ⟨rfl, hX, hK'⟩ hd
          have HX := Lib.hid hX
          have HK' := Lib.hid hK'
          have HD := Lib.hid hD
          have Hd := Lib.hid hd
          clear hX hK' hD hd
          gi_wp2
          refine leaves_marks _ W' (Marks.cons HM.out (HKB.out.trans HK'.out) (by have := HSB.out; have := HD.out; omega) HSR.out Hd.out) ?_
          intro W2 hs
          exact ⟨_, results_none rfl _ _ _, ⟨_, rfl⟩, .inr (HJX.out _ _ HX.out hs)⟩
      · have hd1 : decide ((i : Int) < (t.f1.length : Int)) = false := decide_eq_false (by omega)
        have hd2 : decide (i < t.f1.length) = false := decide_eq_false (by omega)
        obtain rfl : i = K.length := by omega
        rw [← hLs, List.take_length] at hJ1
        have HJ1 := Lib.hid hJ1
        have HM := Lib.hid hm
        clear hJ1 hm
        gi_wp2
        refine leaves_marks ds Wr HM.out ?_
        intro W' hs
        exact ⟨_, results_none rfl _ _ _, ⟨_, rfl⟩, .inl (by rw [Nat.add_comm]; exact hJ _ _ _ HJ1.out hs)⟩

/-- The iterator's list, as it lies in memory. -/
theorem nodes_seq : ∀ (m : Nat) (d : Int) (k : Kid) (w0 : World), d + m = 33 → 0 ≤ d → k.Lies w0 → ∃ L : List Item, L.map (fun x => (x.1, x.2.1)) = nodesL m d k.1 ∧ (∀ x ∈ L, x.2.Lies w0) ∧
    ∀ Bt Bd S, SeqW Try.prog 67 #[.pointer (some ⟨Bd, 0, none⟩), .pointer (some ⟨Bt, 0, none⟩)] Item.enc L Item.Two (NodesInv w0 Bt Bd d k) S
  | 0, d, k, w0, hd, _, hk => by
    obtain rfl : d = 33 := by omega
    exact ⟨[(33, k)], rfl, fun x hx => by rw [List.mem_singleton.1 hx]; exact hk, fun Bt Bd S => nodes_last w0 k Bt Bd S⟩
  | m + 1, d, k, w0, hd, h0, hk => by
    obtain ⟨K, hK, hKc⟩ := kids_of hk.2
    have key : ∀ c ∈ K, ∃ L : List Item, L.map (fun x => (x.1, x.2.1)) = nodesL m (d + 1) c.1 ∧ (∀ x ∈ L, x.2.Lies w0) ∧
        ∀ Bt Bd S, SeqW Try.prog 67 #[.pointer (some ⟨Bd, 0, none⟩), .pointer (some ⟨Bt, 0, none⟩)] Item.enc L Item.Two (NodesInv w0 Bt Bd (d + 1) c) S := fun c hc => by
      obtain ⟨j, hj⟩ := List.getElem?_of_mem hc
      exact nodes_seq m (d + 1) c w0 (by omega) (by omega) (hKc j c hj).1
    obtain ⟨Ls, h1, h2⟩ : ∃ Ls : List (List Item), Ls.length = K.length ∧ ∀ (j : Nat) (c : Kid) (L : List Item), K[j]? = some c → Ls[j]? = some L → L.map (fun x => (x.1, x.2.1)) = nodesL m (d + 1) c.1 ∧ (∀ x ∈ L, x.2.Lies w0) ∧
        ∀ Bt Bd S, SeqW Try.prog 67 #[.pointer (some ⟨Bd, 0, none⟩), .pointer (some ⟨Bt, 0, none⟩)] Item.enc L Item.Two (NodesInv w0 Bt Bd (d + 1) c) S := pick_all key
    refine ⟨(d, k) :: Ls.flatten, ?_, fun x hx => ?_, fun Bt Bd S => nodes_step d h0 (by omega) k w0 hk K hK hKc Ls h1 (fun j c L hc hL => (h2 j c L hc hL).2.2) Bt Bd S⟩
    · rw [nodesL, List.map_cons, ← hK, List.map_map, List.map_flatten]
      congr 2
      refine List.ext_getElem? fun j => ?_
      rw [List.getElem?_map, List.getElem?_map]
      cases hc : K[j]? with
      | none => rw [List.getElem?_eq_none (by rw [h1]; exact List.getElem?_eq_none_iff.1 hc)]; rfl
      | some c =>
        have hj := (List.getElem?_eq_some_iff.1 hc).1
        rw [List.getElem?_eq_getElem (by omega)]
        show some _ = some _
        rw [(h2 j c _ hc (List.getElem?_eq_getElem (by omega))).1]
        rfl
    · rcases List.mem_cons.1 hx with rfl | hx
      · exact hk
      · obtain ⟨L, hL, hx⟩ := List.mem_flatten.1 hx
        obtain ⟨j, hj⟩ := List.getElem?_of_mem hL
        have hlt := (List.getElem?_eq_some_iff.1 hj).1
        exact (h2 j _ L (List.getElem?_eq_getElem (by omega)) hj).2.1 x hx
end Go.Proofs.Ytlhaofbncoijfaa.HandF
