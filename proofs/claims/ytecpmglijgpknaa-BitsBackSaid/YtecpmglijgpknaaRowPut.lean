/- The method put of package bits' growing row: it lays a number's bits, the highest first. -/
import Derived.Test.YtecpmglijgpknaaHigh
import Derived.Test.YtecpmglijgpknaaOrders
import Derived.Test.YtecpmglijgpknaaWWords
import Derived.Test.YtecpmglijgpknaaWLast
import Derived.Test.YtecpmglijgpknaaWMore
namespace Go.Proofs.Ytecpmglijgpknaa.Hand
set_option linter.unusedVariables false
set_option linter.unusedSimpArgs false
open Go.RowKit Go.Shelf Go.Proofs.Ytecpmglijgpknaa.Range Go.Proofs.Ytecpmglijgpknaa.Blocks Go.Proofs.Ytecpmglijgpknaa.Orders
open Go.Proofs.YtecpmglijgpknaaW.PrintWords Go.Proofs.YtecpmglijgpknaaW.PrintLast Go.Proofs.YtecpmglijgpknaaW.PrintMore
attribute [local go_sem] Oper.semAt_some

/-- One bit more behind a row. -/
def stepB (s : List Int × Int) (b : Bool) : List Int × Int :=
  let xs := if s.2 % 8 = 0 then s.1 ++ [0] else s.1
  (if b then xs.set (xs.length - 1) (Go.bits .or .u8 (rd xs ((xs.length : Int) - 1)) (128 / 2 ^ (s.2 % 8).toNat)) else xs, s.2 + 1)

theorem stepB_inv {s : List Int × Int} (b : Bool) (h : (s.2 + 7) / 8 = s.1.length) : ((stepB s b).2 + 7) / 8 = (stepB s b).1.length ∧ (stepB s b).2 = s.2 + 1 := by
  unfold stepB
  refine ⟨?_, rfl⟩
  by_cases h8 : s.2 % 8 = 0 <;> cases b <;> simp [h8] <;> omega
theorem fold_inv : ∀ (L : List Bool) (s : List Int × Int), (s.2 + 7) / 8 = s.1.length → ((L.foldl stepB s).2 + 7) / 8 = (L.foldl stepB s).1.length ∧ (L.foldl stepB s).2 = s.2 + L.length
  | [], s, h => ⟨h, by simp⟩
  | b :: L, s, h => by
    have h1 := stepB_inv b h
    have h2 := fold_inv L (stepB s b) h1.1
    refine ⟨h2.1, ?_⟩
    show (L.foldl stepB (stepB s b)).2 = _
    rw [h2.2, h1.2, List.length_cons]
    omega

/-- The row that lies at br. -/
def RowIs (base br : Nat) (s : List Int × Int) (W : World) : Prop :=
  ∃ sv, W.heap[br]? = some (.cells #[sv, .int .i64 s.2] 44 (0, 0)) ∧ W.ownsRow base 5 1 sv s.1.length (nums .u8 s.1)

theorem info5 : (Try.prog.info? 5).map (fun i => (i.zero, i.size, i.bytes)) = some (some (.int .u8 0), 1, 1) := by kernel_rfl

theorem high_calls (n : Nat) (v wd : Int) (w : World) :
    CallsIn Fence.wide n Try.prog 28 #[.int .u64 v, .int .i64 wd] w fun e w' =>
      e = .returned (.func (.func 29) #[] #[.pointer (some ⟨w.heap.size + 1, 0, none⟩), .pointer (some ⟨w.heap.size, 0, none⟩)]) ∧
      w' = (w.alloc (.cells #[.int .u64 v] 23)).alloc (.cells #[.int .i64 wd] 3) := by
  refine callsIn_of_wp Try.func28 rfl trivial ?_ rfl
  simp only [Try.ntmps28, List.size_toArray, List.length_cons, List.length_nil, Nat.reduceAdd, Nat.reduceSub, Array.replicate_succ, Array.replicate_zero, List.push_toArray, List.append_toArray, List.nil_append, List.cons_append]
  gi_wp2
  go_ret
  exact ⟨rfl, rfl⟩

/-- What stands between two rounds. -/
def PutI (base br Br Bw : Nat) (w0 : World) (s : List Int × Int) (W : World) : Prop :=
  RowIs base br s W ∧ W.heap[Br]? = some (.cells #[.pointer (some ⟨br, 0, none⟩)] 51 (0, 0)) ∧ (∃ c fr, W.heap[Bw]? = some (.cells c 3 fr)) ∧ Below base w0 W

theorem typed_grown {W W' : World} {row : Option Nat} (hg : W.grownBy W' row) (hr : ∀ r, row = some r → ∃ o : Obj, W.heap[r]? = some o ∧ o.isCells = false) : KeepsTy [] W W' :=
  KeepsTy.of_grownBy_other hg hr
theorem owns_keeps {W W' : World} {ts : List Nat} (hk : KeepsTy ts W W') {base e size n : Nat} (he : e ∉ ts) {v : Value} {xs : List Value}
    (h : W.ownsRow base e size v n xs) : W'.ownsRow base e size v n xs :=
  own_move h fun k hkk => by
    obtain ⟨c, hc⟩ := own_block h k hkk
    exact (hk _ _ _ _ he hc).trans hc.symm
theorem RowIs.keeps {base br : Nat} {W W' : World} {s : List Int × Int} {ts : List Nat} (h : RowIs base br s W) (hk : KeepsTy ts W W') (h44 : 44 ∉ ts) (h5 : 5 ∉ ts) : RowIs base br s W' := by
  obtain ⟨sv, h1, h2⟩ := h
  exact ⟨sv, hk _ _ _ _ h44 h1, owns_keeps hk h5 h2⟩

theorem PutI.grown {base br Br Bw : Nat} {w0 W W' : World} {s : List Int × Int} (h : PutI base br Br Bw w0 s W) {B : Nat} (hB : base ≤ B) (hBr : base ≤ Br) {row : Option Nat} (hg : W.grownBy W' row)
    (hr : ∀ r, row = some r → B ≤ r ∧ ∃ o : Obj, W.heap[r]? = some o ∧ o.isCells = false) : PutI base br Br Bw w0 s W' := by
  obtain ⟨h1, h2, ⟨c, fr, h3⟩, h4⟩ := h
  have hk := typed_grown hg (fun r e => (hr r e).2)
  have hlt := lt_of h2
  exact ⟨h1.keeps hk (by simp) (by simp), hk _ _ _ _ (by simp) h2, ⟨c, fr, hk _ _ _ _ (by simp) h3⟩, h4.grown hg (by omega) (fun k e => Nat.le_trans hB (hr k e).1)⟩

theorem PutI.step {base br Br Bw : Nat} {w0 W W' : World} {s : List Int × Int} (h : PutI base br Br Bw w0 s W) (hB : base ≤ Bw) (hst : HighStep Bw W W') : PutI base br Br Bw w0 s W' := by
  obtain ⟨x, rfl⟩ := hst
  obtain ⟨h1, h2, ⟨c, fr, h3⟩, h4⟩ := h
  have hk : KeepsTy [3] W (W.setCell ⟨Bw, 0, none⟩ x).drew := (KeepsTy.setCell h3 (by simp) 0 x).trans (KeepsTy.drew _ _)
  obtain ⟨c', h3'⟩ := set_typed h3 0 x
  exact ⟨h1.keeps hk (by simp) (by simp), hk _ _ _ _ (by simp) h2, ⟨c', fr, h3'⟩, (h4.setCell (p := ⟨Bw, 0, none⟩) hB x).drew⟩

theorem wrap_nat {p : Nat} (h : p + 1 ≤ 140737488355328) : IntKind.i64.wrap (p : Int) = (p : Int) := by
  rw [i64_w]; unfold wrap64; omega
theorem own_at {base g p cap : Nat} {W : World} {zs : List Int} (h : W.ownsRow base 5 1 (.slice (some ⟨g, 0, none⟩) (p + 1) cap) zs.length (nums .u8 zs)) (hl : zs.length = p + 1) :
    W.cell? ⟨g, p, none⟩ = some (.int .u8 (zs.getD p 0)) ∧ W.frozen? ⟨g, p, none⟩ = false := by
  rw [hl] at h
  have h2 := own_at_of (enc := Value.int .u8) (d := (0 : Int)) h (p : Int) (by omega) (by omega)
  rw [Int.toNat_natCast] at h2
  exact h2
theorem put_fin {base br Br Bw : Nat} {w0 W W2 : World} {zs : List Int} {m : Int} {sv2 : Value} (hbr : base ≤ br) (hKO : KeepsOthers W W2) (hKT : KeepsTy [5, 44] W W2)
    (hrow : W2.heap[br]? = some (.cells #[sv2, .int .i64 m] 44 (0, 0))) (hown : W2.ownsRow base 5 1 sv2 zs.length (nums .u8 zs)) (hbox : W2.heap[Br]? = some (.cells #[.pointer (some ⟨br, 0, none⟩)] 51 (0, 0)))
    (hbw : ∃ c fr, W2.heap[Bw]? = some (.cells c 3 fr)) (hbel : Below base w0 W2) :
    KeepsOthers W (W2.setCell ⟨br, 1, none⟩ (.int .i64 (m + 1))) ∧ KeepsTy [5, 44] W (W2.setCell ⟨br, 1, none⟩ (.int .i64 (m + 1))) ∧ PutI base br Br Bw w0 (zs, m + 1) (W2.setCell ⟨br, 1, none⟩ (.int .i64 (m + 1))) := by
  obtain ⟨c, fr, hbw⟩ := hbw
  have hk : KeepsTy [44] W2 (W2.setCell ⟨br, 1, none⟩ (.int .i64 (m + 1))) := KeepsTy.setCell hrow (by simp) 1 _
  refine ⟨hKO.trans (others_set _ _ _), hKT.trans (fun k c t fr ht h => hk k c t fr (by simp at ht ⊢; exact ht.2) h), ⟨sv2, set1 hrow, owns_keeps hk (by simp) hown⟩, hk _ _ _ _ (by simp) hbox, ⟨c, fr, hk _ _ _ _ (by simp) hbw⟩, hbel.setCell (p := ⟨br, 1, none⟩) hbr _⟩

/-- A bit of the row's last byte is laid. -/
theorem put_bit {base br Br Bw g p cap : Nat} {w0 W W2 : World} {zs : List Int} {m x : Int} (hKO : KeepsOthers W W2) (hKT : KeepsTy [5, 44] W W2)
    (hrow : W2.heap[br]? = some (.cells #[.slice (some ⟨g, 0, none⟩) (p + 1) cap, .int .i64 m] 44 (0, 0))) (hl : zs.length = p + 1) (hown : W2.ownsRow base 5 1 (.slice (some ⟨g, 0, none⟩) (p + 1) cap) zs.length (nums .u8 zs)) (hbox : W2.heap[Br]? = some (.cells #[.pointer (some ⟨br, 0, none⟩)] 51 (0, 0)))
    (hbw : ∃ c fr, W2.heap[Bw]? = some (.cells c 3 fr)) (hbel : Below base w0 W2) :
    KeepsOthers W (W2.drew.setCell ⟨g, p, none⟩ (.int .u8 x)) ∧ KeepsTy [5, 44] W (W2.drew.setCell ⟨g, p, none⟩ (.int .u8 x)) ∧
    (W2.drew.setCell ⟨g, p, none⟩ (.int .u8 x)).heap[br]? = some (.cells #[.slice (some ⟨g, 0, none⟩) (p + 1) cap, .int .i64 m] 44 (0, 0)) ∧
    (W2.drew.setCell ⟨g, p, none⟩ (.int .u8 x)).ownsRow base 5 1 (.slice (some ⟨g, 0, none⟩) (p + 1) cap) (zs.set p x).length (nums .u8 (zs.set p x)) ∧
    (W2.drew.setCell ⟨g, p, none⟩ (.int .u8 x)).heap[Br]? = some (.cells #[.pointer (some ⟨br, 0, none⟩)] 51 (0, 0)) ∧
    (∃ c fr, (W2.drew.setCell ⟨g, p, none⟩ (.int .u8 x)).heap[Bw]? = some (.cells c 3 fr)) ∧ Below base w0 (W2.drew.setCell ⟨g, p, none⟩ (.int .u8 x)) := by
  obtain ⟨c, fr, hbw⟩ := hbw
  obtain ⟨cg, hg⟩ := own_block hown g rfl
  have hk : KeepsTy [5] W2 (W2.drew.setCell ⟨g, p, none⟩ (.int .u8 x)) := (KeepsTy.drew _ _).trans (KeepsTy.setCell (W := W2.drew) hg (by simp) p _)
  have hb : base ≤ g := own_base hown g rfl
  rw [hl] at hown
  have hst := (own_store hown.drew (p : Int) x).1
  rw [Int.toNat_natCast] at hst
  refine ⟨hKO.trans ((others_drew _).trans (others_set _ _ _)), hKT.trans (fun k c t fr ht h => hk k c t fr (by simp at ht ⊢; exact ht.1) h), hk _ _ _ _ (by simp) hrow, by rw [List.length_set, hl]; exact hst, hk _ _ _ _ (by simp) hbox, ⟨c, fr, hk _ _ _ _ (by simp) hbw⟩, hbel.drew.setCell (p := ⟨g, p, none⟩) hb _⟩

set_option maxRecDepth 100000 in
set_option maxHeartbeats 4000000 in
theorem row_put_calls (base br : Nat) (w0 w : World) (xs : List Int) (nn v : Int) (wd : Nat) (hwd : wd ≤ 64) (hnn : 0 ≤ nn) (hr : (nn + 7) / 8 = xs.length) (hl : xs.length + 9 ≤ 140737488355328)
    (hrow : RowIs base br (xs, nn) w) (hB : Below base w0 w) (hbr : base ≤ br) (hbase : base ≤ w.heap.size) :
    CallsIn Fence.wide 3 Try.prog 23 #[.pointer (some ⟨br, 0, none⟩), .int .u64 v, .int .i64 wd] w fun e w' =>
      (∃ r, e = .returned r) ∧ RowIs base br ((highs v wd).foldl stepB (xs, nn)) w' ∧ Below base w0 w' := by
  have h1 : 1 ≤ 3 := by omega
  refine callsIn_of_wp_marks Try.func23 rfl trivial ?_ rfl
  simp only [Try.ntmps23, List.size_toArray, List.length_cons, List.length_nil, Nat.reduceAdd, Nat.reduceSub, Array.replicate_succ, Array.replicate_zero, List.push_toArray, List.append_toArray, List.nil_append, List.cons_append]
  gi_wp2_with (refine ⟨trivial, ?_⟩; gi_at_call 28; refine (high_calls _ _ _ _).mono ?_; rintro e w' ⟨rfl, rfl⟩)
  obtain ⟨W0, hW0⟩ : ∃ W0, ((w.alloc (.cells #[.pointer (some ⟨br, 0, none⟩)] 51)).alloc (.cells #[.int .u64 v] 23)).alloc (.cells #[.int .i64 wd] 3) = W0 := ⟨_, rfl⟩
  have hsz : W0.heap.size = w.heap.size + 3 := by rw [← hW0]; simp
  rw [hW0]
  have hBr : W0.heap[w.heap.size]? = some (.cells #[.pointer (some ⟨br, 0, none⟩)] 51 (0, 0)) := by
    rw [← hW0]; exact alloc_at (alloc_at (alloc_new w _) _) _
  have hBv : W0.heap[w.heap.size + 1]? = some (.cells #[.int .u64 v] 23 (0, 0)) := by
    rw [← hW0]; refine alloc_at ?_ _; have := alloc_new (w.alloc (.cells #[.pointer (some ⟨br, 0, none⟩)] 51)) (.cells #[.int .u64 v] 23); rwa [World.size_alloc] at this
  have hBw : W0.heap[w.heap.size + 2]? = some (.cells #[.int .i64 wd] 3 (0, 0)) := by
    rw [← hW0]; have := alloc_new ((w.alloc (.cells #[.pointer (some ⟨br, 0, none⟩)] 51)).alloc (.cells #[.int .u64 v] 23)) (.cells #[.int .i64 wd] 3); rwa [World.size_alloc, World.size_alloc] at this
  have hk0 : KeepsTy [] w W0 := by rw [← hW0]; exact ((KeepsTy.alloc _ _ _).trans (KeepsTy.alloc _ _ _)).trans (KeepsTy.alloc _ _ _)
  have hB0 : Below base w0 W0 := by rw [← hW0]; exact ((hB.alloc hbase _).alloc (by simp; omega) _).alloc (by simp; omega) _
  have hI0 : PutI base br w.heap.size (w.heap.size + 2) w0 (xs, nn) W0 := ⟨hrow.keeps hk0 (by simp) (by simp), hBr, ⟨_, _, hBw⟩, hB0⟩
  refine wpIn_rangeFunc_seq rfl h1 (gf := 29) (lb := #[.pointer (some ⟨w.heap.size + 2, 0, none⟩), .pointer (some ⟨w.heap.size + 1, 0, none⟩)]) rfl trivial (enters_of Try.func29 (by kernel_rfl) rfl)
    (fun r => high1_seq Fence.wide 2 trivial rfl (by omega) _ (w.heap.size + 2) (w.heap.size + 1) v wd hwd [5, 44] (by simp) (by simp) _ (alloc_at (alloc_at hBw _) _) (alloc_at (alloc_at hBv _) _))
    (fun W W' ⟨x, e⟩ => by rw [e]; exact (others_set _ _ _).trans (others_drew _)) (KeepsTy.trans) (fun W l o o' _ h ho => KeepsTy.putObj o' h ho) (fun _ => rfl)
    (fun k W => PutI base br w.heap.size (w.heap.size + 2) w0 (((highs v wd).take k).foldl stepB (xs, nn)) W) (fun _ _ => False)
    (fun s A B row hs hg hr => hs.grown (by omega) hbase hg hr) (fun _ _ _ _ _ h _ _ => h) (fun k W W' h hs => h.step (by omega) hs) (fun _ _ _ h _ => h) hI0 ?a1 ?assign ?body ?done ?stop
  case assign =>
    intro l x W K hK
    have hK' := Lib.hid hK
    clear hK
    gi_wp2
    exact hK'.out
  case stop =>
    rintro D c W _ h _
    exact h.elim
  case done =>
    intro D W hD hI hK
    rw [highs_length, List.take_of_length_le (by rw [highs_length]; omega)] at hI
    gi_wp2
    refine ⟨by simp, .inl ⟨_, _, rfl, run_takeDeferred hK, ?_⟩⟩
    have hkp : KeepsTy [] W (W.putObj D (.deferred none)) := KeepsTy.putObj _ hK rfl
    refine ⟨_, results_none rfl _ _ _, ⟨_, rfl⟩, hI.1.keeps hkp (by simp) (by simp), ?_⟩
    have := lt_of hI.2.1
    exact hI.2.2.2.grown (grownBy_putObj' W D _) (by omega) (fun r e => by cases e; omega)
  case body =>
    intro l k b W hx hI hlt
    have hk : k < wd := by have := (List.getElem?_eq_some_iff.1 hx).1; rwa [highs_length] at this
    have hinv := fold_inv ((highs v wd).take k) (xs, nn) hr
    rw [List.length_take, highs_length, Nat.min_eq_left (by omega)] at hinv
    obtain ⟨s, hs⟩ : ∃ s, ((highs v wd).take k).foldl stepB (xs, nn) = s := ⟨_, rfl⟩
    have hs1 : ((highs v wd).take (k + 1)).foldl stepB (xs, nn) = stepB s b := by
      rw [List.take_add_one, hx, List.foldl_append, hs]; rfl
    rw [hs] at hI hinv
    rw [hs1]
    obtain ⟨ys, m⟩ := s
    obtain ⟨hlen, hm⟩ := hinv
    dsimp only at hlen hm
    have hm0 : 0 ≤ m := by omega
    have hm1 : m ≤ 1125899906842624 * 8 := by omega
    have hyl : ys.length + 1 ≤ 140737488355328 := by omega
    clear hx hs hs1 hlt hm hk
    obtain ⟨⟨sv, hbr1, hown⟩, hbox, ⟨cw, fw, hbw⟩, hbel⟩ := hI
    have hcb := cell_of_one hbox
    have hc0 := cell0 hbr1
    have hc1 := cell1 hbr1
    have hf0 := free2 hbr1
    have Hbox := Lib.hid hbox
    have Hbr1 := Lib.hid hbr1
    have Hown := Lib.hid hown
    have Hbw := Lib.hid hbw
    clear hbox hbr1 hown hbw hI0 hBr hBv hBw hrow hr hl
    obtain ⟨i0, hi0, hz0, hz1, hz2⟩ := info_parts info5
    have fin2 := Lib.hid (show ∀ (c : Bool) (V : World) (zs : List Int), stepB (ys, m) c = (zs, m + 1) → KeepsOthers W V ∧ KeepsTy [5, 44] W V ∧ PutI base br w.heap.size (w.heap.size + 2) w0 (zs, m + 1) V →
        ∀ a, bodyOut (KeepsTy [5, 44]) (fun W => PutI base br w.heap.size (w.heap.size + 2) w0 (stepB (ys, m) c) W) (fun _ _ => False) W .normal a V from fun c V zs e h a => by rw [e]; exact h)
    have hmix : Try.prog.follows .mixedOrders = true := by kernel_rfl
    by_cases h8 : m % 8 = 0
    · gi_wp2
      refine wpIn_region_of_any hmix (by kernel_rfl) (by rintro ⟨_, _, h⟩; exact h) (wpAny_of_G (S := fun w' => w'.cell? ⟨w.heap.size, 0, none⟩ = some (.pointer (some ⟨br, 0, none⟩)) ∧ w'.cell? ⟨br, 0, none⟩ = some sv) (g := 9) _ _ _ _ ?_)
      change wpAnyG _ _ _ _ _ _ 10 #[false, false, false, false, false, false, false, false, false, false] _ _
      have hdr : W.drew.cell? ⟨w.heap.size, 0, none⟩ = some (.pointer (some ⟨br, 0, none⟩)) ∧ W.drew.cell? ⟨br, 0, none⟩ = some sv := ⟨hcb, hc0⟩
      refine wpAnyG_take (i := 0) (v := .pointer (some ⟨br, 0, none⟩)) rfl (by kernel_rfl) (fun _ _ _ h => h) (.inl ⟨rfl, fun w' ⟨s1, s2⟩ => by go_simp⟩) hdr ?_
      refine wpAnyG_take (i := 1) (v := .pointer (some ⟨br, 0, none⟩)) rfl (by kernel_rfl) (fun _ _ _ h => h) (.inl ⟨rfl, fun w' ⟨s1, s2⟩ => by go_simp⟩) hdr ?_
      refine wpAnyG_take (i := 2) (v := .pointer (some ⟨br, 0, none⟩)) rfl (by kernel_rfl) (fun _ _ _ h => h) (.inl ⟨rfl, fun w' ⟨s1, s2⟩ => by go_simp⟩) hdr ?_
      refine wpAnyG_take (i := 3) (v := .pointer (some ⟨br, 0, none⟩)) rfl (by kernel_rfl) (fun _ _ _ h => h) (.inl ⟨rfl, fun w' ⟨s1, s2⟩ => by go_simp⟩) hdr ?_
      refine wpAnyG_take (i := 4) (v := sv) rfl (by kernel_rfl) (fun _ _ _ h => h) (.inl ⟨rfl, fun w' ⟨s1, s2⟩ => by go_simp⟩) hdr ?_
      refine wpAnyG_run (i := 5) (v := .slice (some ⟨W.heap.size, 0, none⟩) 1 1) (w1 := W.drew.alloc (.cells #[.int .u8 0] 5)) rfl (by kernel_rfl) rfl (by go_simp; done) (fun _ => ⟨cell_of_one (alloc_at (W := W.drew) Hbox.out _), cell0 (alloc_at (W := W.drew) Hbr1.out _)⟩) ?_
      have hsz2 : W.drew.heap.size = W.heap.size := rfl
      have hbs : base ≤ W.heap.size := by have := lt_of Hbox.out; omega
      refine wpAnyG_next (i := 6) rfl (by kernel_rfl) ?_
      refine step_append_lies (W.drew.alloc (.cells #[.int .u8 0] 5)) rfl _ _ 22 rfl base 5 i0 (.int .u8 0) 1 1 Try.underlying22 hi0 hz0 hz1 hz2 rfl (by decide) sv ys.length (nums .u8 ys) rfl (Hown.out.drew.alloc _) ⟨W.heap.size, 0, none⟩ 1 1 [.int .u8 0] rfl rfl
        ?hnews (by simp [Value.oneCell']) (by omega) (by unfold maxLen; omega) (by omega) (by rw [World.size_alloc]; omega) _ rfl ?_
      case hnews => exact World.news_of_block (cs := #[.int .u8 0]) (t := 5) (fr := (0, 0)) (alloc_new W.drew _)
      intro g cap w1 hown1 hg1 hat1 hlt1
      have hkT : KeepsTy [5] W w1 := ((KeepsTy.drew [5] W).trans (KeepsTy.alloc [5] W.drew _)).trans (KeepsTy.of_grownBy hg1 (fun j hj => by
        obtain ⟨c, hc⟩ := own_block (Hown.out.drew.alloc (.cells #[.int .u8 0] 5)) j hj
        exact ⟨c, 5, (0, 0), by simp, hc⟩))
      have hbox2 := hkT _ _ _ _ (by simp) Hbox.out
      have hbr2 := hkT _ _ _ _ (by simp) Hbr1.out
      have hs2 : w1.cell? ⟨w.heap.size, 0, none⟩ = some (.pointer (some ⟨br, 0, none⟩)) ∧ w1.cell? ⟨br, 0, none⟩ = some sv := ⟨cell_of_one hbox2, cell0 hbr2⟩
      have hs2a := hs2.1
      have hs2b := hs2.2
      have hf2 := free2 hbr2 0
      refine ⟨fun _ => hs2, ?_⟩
      refine wpAnyG_run (i := 7) (v := .pointer (some ⟨br, 0, none⟩)) (w1 := w1) rfl (by kernel_rfl) rfl (by go_simp; done) (fun _ => hs2) ?_
      refine wpAnyG_run (i := 8) (v := .pointer (some ⟨br, 0, none⟩)) (w1 := w1) rfl (by kernel_rfl) rfl (by go_simp; done) (fun _ => hs2) ?_
      refine wpAnyG_runs (i := 9) (w1 := w1.setCell ⟨br, 0, none⟩ (.slice (some ⟨g, 0, none⟩) (ys.length + 1) cap)) rfl (by kernel_rfl) rfl (by go_simp; done) (fun h => Bool.noConfusion (show true = false from h)) ?_
      refine wpAnyG_done (by kernel_rfl) ?_ 0
      have hb3 := set0 (u := .slice (some ⟨g, 0, none⟩) (ys.length + 1) cap) hbr2
      obtain ⟨W2, hW2⟩ : ∃ W2, w1.setCell ⟨br, 0, none⟩ (.slice (some ⟨g, 0, none⟩) (ys.length + 1) cap) = W2 := ⟨_, rfl⟩
      obtain ⟨p, hp⟩ : ∃ p, ys.length = p := ⟨_, rfl⟩
      obtain ⟨zs, hzs⟩ : ∃ zs, ys ++ [0] = zs := ⟨_, rfl⟩
      have hk45 : KeepsTy [5, 44] W w1 := fun k c t fr ht h => hkT k c t fr (by simp at ht ⊢; exact ht.1) h
      have hkS : KeepsTy [44] w1 W2 := by rw [← hW2]; exact KeepsTy.setCell hbr2 (by simp) 0 _
      have hbe1 : Below base w0 w1 := (hbel.drew.alloc hbs _).grown hg1 (by simp; omega) (own_base (Hown.out.drew.alloc (.cells #[.int .u8 0] 5)))
      have F1 : W2.heap[w.heap.size]? = some (.cells #[.pointer (some ⟨br, 0, none⟩)] 51 (0, 0)) := hkS _ _ _ _ (by simp) hbox2
      have F2 : W2.heap[br]? = some (.cells #[.slice (some ⟨g, 0, none⟩) (p + 1) cap, .int .i64 m] 44 (0, 0)) := by rw [← hW2, ← hp]; exact hb3
      have hzl : zs.length = p + 1 := by rw [← hzs, List.length_append, hp]; rfl
      have F3 : W2.ownsRow base 5 1 (.slice (some ⟨g, 0, none⟩) (p + 1) cap) zs.length (nums .u8 zs) := by
        rw [hzl, ← hzs, nums_append, ← hp]; exact owns_keeps hkS (by simp) hown1
      have hk1 : KeepsOthers W W2 := by
        rw [← hW2]
        exact (((others_drew W).trans (KeepsOthers.alloc _ _)).trans (others_grown hg1 (fun j hj => by
          obtain ⟨c, hc⟩ := own_block (Hown.out.drew.alloc (.cells #[.int .u8 0] 5)) j hj
          exact ⟨c, 5, (0, 0), hc⟩))).trans (others_set _ _ _)
      have hk2 : KeepsTy [5, 44] W W2 := hk45.trans (fun k c t fr ht h => hkS k c t fr (by simp at ht ⊢; exact ht.2) h)
      have hbw2 : ∃ c fr, W2.heap[w.heap.size + 2]? = some (.cells c 3 fr) := ⟨cw, fw, hk2 _ _ _ _ (by simp) Hbw.out⟩
      have hbel2 : Below base w0 W2 := by rw [← hW2]; exact hbe1.setCell (p := ⟨br, 0, none⟩) hbr _
      have hstep := Lib.hid (show ∀ c, stepB (ys, m) c = (if c then zs.set p (Go.bits .or .u8 (zs.getD p 0) (128 / 2 ^ (m % 8).toNat)) else zs, m + 1) from fun c => by
        unfold stepB
        rw [if_pos h8, hzs]
        dsimp only
        rw [hzl]
        simp [rd])
      rw [hW2, hp]
      have hpb : p + 1 ≤ 140737488355328 := by rw [← hp]; exact hyl
      clear hs2 hs2a hs2b hf2 hdr hcb hc0 hc1 hf0 hW2 hp hzs hb3 hbr2 hbox2 hkS hbe1 hk45 hkT hlt1 hat1 hg1 hown1 Hbox Hbr1 Hown Hbw hbel hlen
      simp only [Act.put]

      have hcb := cell_of_one F1
      have hc0 := cell0 F2
      have hc1 := cell1 F2
      have hf0 := free2 F2
      have hcell := own_at (p := p) F3 hzl
      have hcg := hcell.1
      have hfg := hcell.2
      have H1 := Lib.hid F1
      have H2 := Lib.hid F2
      have H3 := Lib.hid F3
      have Hz := Lib.hid hzl
      have H8 := Lib.hid h8
      clear F1 F2 F3 hcell hzl h8
      cases b
      · gi_wp2
        have fin := put_fin hbr hk1 hk2 H2.out H3.out H1.out hbw2 hbel2
        exact fin2.out false _ zs (by rw [hstep.out]; rfl) fin _
      · gi_wp2
        refine wpIn_region_of_any hmix (by kernel_rfl) (by rintro ⟨_, _, h⟩; exact h) (wpAny_of_G (S := fun w' => w'.cell? ⟨w.heap.size, 0, none⟩ = some (.pointer (some ⟨br, 0, none⟩)) ∧ w'.cell? ⟨br, 0, none⟩ = some (.slice (some ⟨g, 0, none⟩) (p + 1) cap) ∧ w'.cell? ⟨br, 1, none⟩ = some (.int .i64 m) ∧ w'.cell? ⟨g, p, none⟩ = some (.int .u8 (zs.getD p 0))) (g := 20) _ _ _ _ ?_)
        change wpAnyG _ _ _ _ _ _ 21 #[false, false, false, false, false, false, false, false, false, false, false, false, false, false, false, false, false, false, false, false, false] _ _
        have hdr : W2.drew.cell? ⟨w.heap.size, 0, none⟩ = some (.pointer (some ⟨br, 0, none⟩)) ∧ W2.drew.cell? ⟨br, 0, none⟩ = some (.slice (some ⟨g, 0, none⟩) (p + 1) cap) ∧ W2.drew.cell? ⟨br, 1, none⟩ = some (.int .i64 m) ∧ W2.drew.cell? ⟨g, p, none⟩ = some (.int .u8 (zs.getD p 0)) := ⟨hcb, hc0, hc1, hcg⟩
        refine wpAnyG_take (i := 0) (v := .pointer (some ⟨br, 0, none⟩)) rfl (by kernel_rfl) (fun _ _ _ h => h) (.inl ⟨rfl, fun w' ⟨s1, s2, s3, s4⟩ => by go_simp⟩) hdr ?_
        refine wpAnyG_take (i := 1) (v := .pointer (some ⟨br, 0, none⟩)) rfl (by kernel_rfl) (fun _ _ _ h => h) (.inl ⟨rfl, fun w' ⟨s1, s2, s3, s4⟩ => by go_simp⟩) hdr ?_
        refine wpAnyG_take (i := 2) (v := .pointer (some ⟨br, 0, none⟩)) rfl (by kernel_rfl) (fun _ _ _ h => h) (.inl ⟨rfl, fun w' ⟨s1, s2, s3, s4⟩ => by go_simp⟩) hdr ?_
        refine wpAnyG_take (i := 3) (v := .slice (some ⟨g, 0, none⟩) (p + 1) cap) rfl (by kernel_rfl) (fun _ _ _ h => h) (.inl ⟨rfl, fun w' ⟨s1, s2, s3, s4⟩ => by go_simp⟩) hdr ?_
        refine wpAnyG_take (i := 4) (v := .pointer (some ⟨br, 0, none⟩)) rfl (by kernel_rfl) (fun _ _ _ h => h) (.inl ⟨rfl, fun w' ⟨s1, s2, s3, s4⟩ => by go_simp⟩) hdr ?_
        refine wpAnyG_take (i := 5) (v := .pointer (some ⟨br, 0, none⟩)) rfl (by kernel_rfl) (fun _ _ _ h => h) (.inl ⟨rfl, fun w' ⟨s1, s2, s3, s4⟩ => by go_simp⟩) hdr ?_
        refine wpAnyG_take (i := 6) (v := .pointer (some ⟨br, 0, none⟩)) rfl (by kernel_rfl) (fun _ _ _ h => h) (.inl ⟨rfl, fun w' ⟨s1, s2, s3, s4⟩ => by go_simp⟩) hdr ?_
        refine wpAnyG_take (i := 7) (v := .slice (some ⟨g, 0, none⟩) (p + 1) cap) rfl (by kernel_rfl) (fun _ _ _ h => h) (.inl ⟨rfl, fun w' ⟨s1, s2, s3, s4⟩ => by go_simp⟩) hdr ?_
        refine wpAnyG_take (i := 8) (v := .int .i64 ((p : Int) + 1)) rfl (by kernel_rfl) (fun _ _ _ h => h) (.inl ⟨rfl, fun w' ⟨s1, s2, s3, s4⟩ => by go_simp⟩) hdr ?_
        refine wpAnyG_take (i := 9) (v := .int .i64 (p : Int)) rfl (by kernel_rfl) (fun _ _ _ h => h) (.inl ⟨rfl, fun w' ⟨s1, s2, s3, s4⟩ => by go_simp; exact wrap_nat hpb⟩) hdr ?_
        refine wpAnyG_take (i := 10) (v := .pointer (some ⟨g, p, none⟩)) rfl (by kernel_rfl) (fun _ _ _ h => h) (.inl ⟨rfl, fun w' ⟨s1, s2, s3, s4⟩ => by go_simp; intro h; omega⟩) hdr ?_
        refine wpAnyG_take (i := 11) (v := .int .u8 (zs.getD p 0)) rfl (by kernel_rfl) (fun _ _ _ h => h) (.inl ⟨rfl, fun w' ⟨s1, s2, s3, s4⟩ => by go_simp⟩) hdr ?_
        refine wpAnyG_take (i := 12) (v := .pointer (some ⟨br, 0, none⟩)) rfl (by kernel_rfl) (fun _ _ _ h => h) (.inl ⟨rfl, fun w' ⟨s1, s2, s3, s4⟩ => by go_simp⟩) hdr ?_
        refine wpAnyG_take (i := 13) (v := .pointer (some ⟨br, 0, none⟩)) rfl (by kernel_rfl) (fun _ _ _ h => h) (.inl ⟨rfl, fun w' ⟨s1, s2, s3, s4⟩ => by go_simp⟩) hdr ?_
        refine wpAnyG_take (i := 14) (v := .pointer (some ⟨br, 1, none⟩)) rfl (by kernel_rfl) (fun _ _ _ h => h) (.inl ⟨rfl, fun w' ⟨s1, s2, s3, s4⟩ => by go_simp⟩) hdr ?_
        refine wpAnyG_take (i := 15) (v := .int .i64 m) rfl (by kernel_rfl) (fun _ _ _ h => h) (.inl ⟨rfl, fun w' ⟨s1, s2, s3, s4⟩ => by go_simp⟩) hdr ?_
        refine wpAnyG_take (i := 16) (v := .int .i64 (m % 8)) rfl (by kernel_rfl) (fun _ _ _ h => h) (.inl ⟨rfl, fun w' ⟨s1, s2, s3, s4⟩ => by go_simp; exact Int.tmod_eq_emod_of_nonneg hm0⟩) hdr ?_
        refine wpAnyG_take (i := 17) (v := .int .u8 (128 / 2 ^ (m % 8).toNat)) rfl (by kernel_rfl) (fun _ _ _ h => h) (.inl ⟨rfl, fun w' ⟨s1, s2, s3, s4⟩ => by go_simp⟩) hdr ?_
        refine wpAnyG_take (i := 18) (v := .int .u8 (Go.bits .or .u8 (zs.getD p 0) (128 / 2 ^ (m % 8).toNat))) rfl (by kernel_rfl) (fun _ _ _ h => h) (.inl ⟨rfl, fun w' ⟨s1, s2, s3, s4⟩ => by go_simp⟩) hdr ?_
        refine wpAnyG_run (i := 19) (v := .pointer (some ⟨g, p, none⟩)) (w1 := W2.drew) rfl (by kernel_rfl) rfl (by go_simp; intro h; omega) (fun _ => hdr) ?_
        refine wpAnyG_runs (i := 20) (w1 := W2.drew.setCell ⟨g, p, none⟩ (.int .u8 (Go.bits .or .u8 (zs.getD p 0) (128 / 2 ^ (m % 8).toNat)))) rfl (by kernel_rfl) rfl (by go_simp; done) (fun h => Bool.noConfusion (show true = false from h)) ?_
        refine wpAnyG_done (by kernel_rfl) ?_ 0
        obtain ⟨q1, q2, q3, q4, q5, q6, q7⟩ := put_bit (x := Go.bits .or .u8 (zs.getD p 0) (128 / 2 ^ (m % 8).toNat)) hk1 hk2 H2.out Hz.out H3.out H1.out hbw2 hbel2
        have fin := put_fin hbr q1 q2 q3 q4 q5 q6 q7
        obtain ⟨W3, hW3⟩ : ∃ W3, W2.drew.setCell ⟨g, p, none⟩ (.int .u8 (Go.bits .or .u8 (zs.getD p 0) (128 / 2 ^ (m % 8).toNat))) = W3 := ⟨_, rfl⟩
        rw [hW3] at fin q3 q5 ⊢
        have hcb' := cell_of_one q5
        have hc0' := cell0 q3
        have hc1' := cell1 q3
        have hf0' := free2 q3
        have Fin := Lib.hid (fin2.out true _ _ (by rw [hstep.out]; rfl) fin)
        clear hdr hcb hc0 hc1 hf0 hcg hfg q1 q2 q3 q4 q5 q6 q7 hW3 fin hk1 hk2 hbw2 hbel2 fin2 hstep H1 H2 H3
        simp only [Act.put]
        gi_wp2
        exact Fin.out _
    · have hpos : 0 < ys.length := by omega
      obtain ⟨g, cap, hsv, hbg, _⟩ := Hown.out.form hpos
      subst hsv
      obtain ⟨p, hp⟩ : ∃ p, ys.length = p + 1 := ⟨ys.length - 1, by omega⟩
      obtain ⟨zs, hzs⟩ : ∃ zs, ys = zs := ⟨_, rfl⟩
      have hpb : p + 1 ≤ 140737488355328 := by rw [← hp]; omega
      have hzl : zs.length = p + 1 := by rw [← hzs]; exact hp
      have hstep := Lib.hid (show ∀ c, stepB (ys, m) c = (if c then zs.set p (Go.bits .or .u8 (zs.getD p 0) (128 / 2 ^ (m % 8).toNat)) else zs, m + 1) from fun c => by
        unfold stepB
        rw [if_neg h8, hzs]
        dsimp only
        rw [hzl]
        simp [rd])
      have F1 : W.heap[w.heap.size]? = some (.cells #[.pointer (some ⟨br, 0, none⟩)] 51 (0, 0)) := by exact Hbox.out
      have F2 : W.heap[br]? = some (.cells #[.slice (some ⟨g, 0, none⟩) (p + 1) cap, .int .i64 m] 44 (0, 0)) := by rw [← hp]; exact Hbr1.out
      have F3 : W.ownsRow base 5 1 (.slice (some ⟨g, 0, none⟩) (p + 1) cap) zs.length (nums .u8 zs) := by rw [← hzs, ← hp]; exact Hown.out
      have hk1 : KeepsOthers W W := by exact KeepsOthers.refl _
      have hk2 : KeepsTy [5, 44] W W := by exact KeepsTy.refl _ _
      have hbw2 : ∃ c fr, W.heap[w.heap.size + 2]? = some (.cells c 3 fr) := by exact ⟨cw, fw, Hbw.out⟩
      have hbel2 : Below base w0 W := by exact hbel
      have h8b : (m % 8 == 0) = false := by simpa using h8
      clear hcb hc0 hc1 hf0 hp hzs Hbox Hbr1 Hown Hbw hlen hyl hpos
      have hcb := cell_of_one F1
      have hc0 := cell0 F2
      have hc1 := cell1 F2
      have hf0 := free2 F2
      have hcell := own_at (p := p) F3 hzl
      have hcg := hcell.1
      have hfg := hcell.2
      have H1 := Lib.hid F1
      have H2 := Lib.hid F2
      have H3 := Lib.hid F3
      have Hz := Lib.hid hzl
      have H8 := Lib.hid h8
      clear F1 F2 F3 hcell hzl h8
      cases b
      · gi_wp2
        have fin := put_fin hbr hk1 hk2 H2.out H3.out H1.out hbw2 hbel2
        exact fin2.out false _ zs (by rw [hstep.out]; rfl) fin _
      · gi_wp2
        refine wpIn_region_of_any hmix (by kernel_rfl) (by rintro ⟨_, _, h⟩; exact h) (wpAny_of_G (S := fun w' => w'.cell? ⟨w.heap.size, 0, none⟩ = some (.pointer (some ⟨br, 0, none⟩)) ∧ w'.cell? ⟨br, 0, none⟩ = some (.slice (some ⟨g, 0, none⟩) (p + 1) cap) ∧ w'.cell? ⟨br, 1, none⟩ = some (.int .i64 m) ∧ w'.cell? ⟨g, p, none⟩ = some (.int .u8 (zs.getD p 0))) (g := 20) _ _ _ _ ?_)
        change wpAnyG _ _ _ _ _ _ 21 #[false, false, false, false, false, false, false, false, false, false, false, false, false, false, false, false, false, false, false, false, false] _ _
        have hdr : W.drew.cell? ⟨w.heap.size, 0, none⟩ = some (.pointer (some ⟨br, 0, none⟩)) ∧ W.drew.cell? ⟨br, 0, none⟩ = some (.slice (some ⟨g, 0, none⟩) (p + 1) cap) ∧ W.drew.cell? ⟨br, 1, none⟩ = some (.int .i64 m) ∧ W.drew.cell? ⟨g, p, none⟩ = some (.int .u8 (zs.getD p 0)) := ⟨hcb, hc0, hc1, hcg⟩
        refine wpAnyG_take (i := 0) (v := .pointer (some ⟨br, 0, none⟩)) rfl (by kernel_rfl) (fun _ _ _ h => h) (.inl ⟨rfl, fun w' ⟨s1, s2, s3, s4⟩ => by go_simp⟩) hdr ?_
        refine wpAnyG_take (i := 1) (v := .pointer (some ⟨br, 0, none⟩)) rfl (by kernel_rfl) (fun _ _ _ h => h) (.inl ⟨rfl, fun w' ⟨s1, s2, s3, s4⟩ => by go_simp⟩) hdr ?_
        refine wpAnyG_take (i := 2) (v := .pointer (some ⟨br, 0, none⟩)) rfl (by kernel_rfl) (fun _ _ _ h => h) (.inl ⟨rfl, fun w' ⟨s1, s2, s3, s4⟩ => by go_simp⟩) hdr ?_
        refine wpAnyG_take (i := 3) (v := .slice (some ⟨g, 0, none⟩) (p + 1) cap) rfl (by kernel_rfl) (fun _ _ _ h => h) (.inl ⟨rfl, fun w' ⟨s1, s2, s3, s4⟩ => by go_simp⟩) hdr ?_
        refine wpAnyG_take (i := 4) (v := .pointer (some ⟨br, 0, none⟩)) rfl (by kernel_rfl) (fun _ _ _ h => h) (.inl ⟨rfl, fun w' ⟨s1, s2, s3, s4⟩ => by go_simp⟩) hdr ?_
        refine wpAnyG_take (i := 5) (v := .pointer (some ⟨br, 0, none⟩)) rfl (by kernel_rfl) (fun _ _ _ h => h) (.inl ⟨rfl, fun w' ⟨s1, s2, s3, s4⟩ => by go_simp⟩) hdr ?_
        refine wpAnyG_take (i := 6) (v := .pointer (some ⟨br, 0, none⟩)) rfl (by kernel_rfl) (fun _ _ _ h => h) (.inl ⟨rfl, fun w' ⟨s1, s2, s3, s4⟩ => by go_simp⟩) hdr ?_
        refine wpAnyG_take (i := 7) (v := .slice (some ⟨g, 0, none⟩) (p + 1) cap) rfl (by kernel_rfl) (fun _ _ _ h => h) (.inl ⟨rfl, fun w' ⟨s1, s2, s3, s4⟩ => by go_simp⟩) hdr ?_
        refine wpAnyG_take (i := 8) (v := .int .i64 ((p : Int) + 1)) rfl (by kernel_rfl) (fun _ _ _ h => h) (.inl ⟨rfl, fun w' ⟨s1, s2, s3, s4⟩ => by go_simp⟩) hdr ?_
        refine wpAnyG_take (i := 9) (v := .int .i64 (p : Int)) rfl (by kernel_rfl) (fun _ _ _ h => h) (.inl ⟨rfl, fun w' ⟨s1, s2, s3, s4⟩ => by go_simp; exact wrap_nat hpb⟩) hdr ?_
        refine wpAnyG_take (i := 10) (v := .pointer (some ⟨g, p, none⟩)) rfl (by kernel_rfl) (fun _ _ _ h => h) (.inl ⟨rfl, fun w' ⟨s1, s2, s3, s4⟩ => by go_simp; intro h; omega⟩) hdr ?_
        refine wpAnyG_take (i := 11) (v := .int .u8 (zs.getD p 0)) rfl (by kernel_rfl) (fun _ _ _ h => h) (.inl ⟨rfl, fun w' ⟨s1, s2, s3, s4⟩ => by go_simp⟩) hdr ?_
        refine wpAnyG_take (i := 12) (v := .pointer (some ⟨br, 0, none⟩)) rfl (by kernel_rfl) (fun _ _ _ h => h) (.inl ⟨rfl, fun w' ⟨s1, s2, s3, s4⟩ => by go_simp⟩) hdr ?_
        refine wpAnyG_take (i := 13) (v := .pointer (some ⟨br, 0, none⟩)) rfl (by kernel_rfl) (fun _ _ _ h => h) (.inl ⟨rfl, fun w' ⟨s1, s2, s3, s4⟩ => by go_simp⟩) hdr ?_
        refine wpAnyG_take (i := 14) (v := .pointer (some ⟨br, 1, none⟩)) rfl (by kernel_rfl) (fun _ _ _ h => h) (.inl ⟨rfl, fun w' ⟨s1, s2, s3, s4⟩ => by go_simp⟩) hdr ?_
        refine wpAnyG_take (i := 15) (v := .int .i64 m) rfl (by kernel_rfl) (fun _ _ _ h => h) (.inl ⟨rfl, fun w' ⟨s1, s2, s3, s4⟩ => by go_simp⟩) hdr ?_
        refine wpAnyG_take (i := 16) (v := .int .i64 (m % 8)) rfl (by kernel_rfl) (fun _ _ _ h => h) (.inl ⟨rfl, fun w' ⟨s1, s2, s3, s4⟩ => by go_simp; exact Int.tmod_eq_emod_of_nonneg hm0⟩) hdr ?_
        refine wpAnyG_take (i := 17) (v := .int .u8 (128 / 2 ^ (m % 8).toNat)) rfl (by kernel_rfl) (fun _ _ _ h => h) (.inl ⟨rfl, fun w' ⟨s1, s2, s3, s4⟩ => by go_simp⟩) hdr ?_
        refine wpAnyG_take (i := 18) (v := .int .u8 (Go.bits .or .u8 (zs.getD p 0) (128 / 2 ^ (m % 8).toNat))) rfl (by kernel_rfl) (fun _ _ _ h => h) (.inl ⟨rfl, fun w' ⟨s1, s2, s3, s4⟩ => by go_simp⟩) hdr ?_
        refine wpAnyG_run (i := 19) (v := .pointer (some ⟨g, p, none⟩)) (w1 := W.drew) rfl (by kernel_rfl) rfl (by go_simp; intro h; omega) (fun _ => hdr) ?_
        refine wpAnyG_runs (i := 20) (w1 := W.drew.setCell ⟨g, p, none⟩ (.int .u8 (Go.bits .or .u8 (zs.getD p 0) (128 / 2 ^ (m % 8).toNat)))) rfl (by kernel_rfl) rfl (by go_simp; done) (fun h => Bool.noConfusion (show true = false from h)) ?_
        refine wpAnyG_done (by kernel_rfl) ?_ 0
        obtain ⟨q1, q2, q3, q4, q5, q6, q7⟩ := put_bit (x := Go.bits .or .u8 (zs.getD p 0) (128 / 2 ^ (m % 8).toNat)) hk1 hk2 H2.out Hz.out H3.out H1.out hbw2 hbel2
        have fin := put_fin hbr q1 q2 q3 q4 q5 q6 q7
        obtain ⟨W3, hW3⟩ : ∃ W3, W.drew.setCell ⟨g, p, none⟩ (.int .u8 (Go.bits .or .u8 (zs.getD p 0) (128 / 2 ^ (m % 8).toNat))) = W3 := ⟨_, rfl⟩
        rw [hW3] at fin q3 q5 ⊢
        have hcb' := cell_of_one q5
        have hc0' := cell0 q3
        have hc1' := cell1 q3
        have hf0' := free2 q3
        have Fin := Lib.hid (fin2.out true _ _ (by rw [hstep.out]; rfl) fin)
        clear hdr hcb hc0 hc1 hf0 hcg hfg q1 q2 q3 q4 q5 q6 q7 hW3 fin hk1 hk2 hbw2 hbel2 fin2 hstep H1 H2 H3
        simp only [Act.put]
        gi_wp2
        exact Fin.out _

end Go.Proofs.Ytecpmglijgpknaa.Hand
