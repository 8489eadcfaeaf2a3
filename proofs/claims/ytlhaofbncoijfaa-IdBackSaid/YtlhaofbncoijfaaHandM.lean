/- A contract by hand, in the print's form: the reference's Means: which pieces a tree means, in their order. -/
import Derived.Test.YtlhaofbncoijfaaKids
import Derived.Test.YtlhaofbncoijfaaRightMath
import Derived.Test.YtlhaofbncoijfaaHandQ
namespace Go.Proofs.Ytlhaofbncoijfaa.HandF
set_option linter.unusedVariables false
set_option linter.unusedSimpArgs false
open Go.RowKit Go.Proofs.Ytlhaofbncoijfaa.X Go.Proofs.Ytlhaofbncoijfaa.Tree Go.Proofs.Ytlhaofbncoijfaa.Blocks
open Go.Proofs.YtlhaofbncoijfaaW.PrintWords Go.Proofs.YtlhaofbncoijfaaW.PrintLast Go.Proofs.YtlhaofbncoijfaaW.PrintMore

/-- The pieces of a tree within 2 ^ n from f on. -/
def rl : Nat → T → Int → List S63
  | n, .leaf b, f => if b then [⟨f, f + 2 ^ n⟩] else []
  | 0, .node _ _, _ => []
  | n + 1, .node a b, f => rl n a f ++ rl n b (f + 2 ^ n)
theorem rl_length : ∀ (t : T) (n : Nat) (f : Int), (rl n t f).length ≤ t.count
  | .leaf b, n, f => by
    cases n <;> cases b <;> simp [rl, T.count]
  | .node a b, 0, f => by simp [rl]
  | .node a b, n + 1, f => by
    have h1 := rl_length a n f
    have h2 := rl_length b n (f + 2 ^ n)
    simp only [rl, T.count, List.length_append]
    omega
theorem rl_leaf (n : Nat) (b : Bool) (f : Int) : rl n (.leaf b) f = if b then [⟨f, f + 2 ^ n⟩] else [] := by cases n <;> rfl

/-- How the walk over a leaf that is one goes: one append. -/
def RgPost (w : World) (B : Nat) (v : Value) (M : List S63) (e : Ending) (w' : World) : Prop :=
  ∃ v', e = .returned v' ∧ Kd.R k63 63 w' B (fun _ => True) v' M ∧ Below B w w' ∧ w.grownBy w' v.ownBlock ∧ (v'.ownBlock = v.ownBlock ∨ ∃ b, v'.ownBlock = some b ∧ w.heap.size ≤ b)

theorem grown_trans {w w1 w2 : World} {row row' : Option Nat} (h : w.grownBy w1 row) (h' : w1.grownBy w2 row') (hr : row' = row ∨ ∃ b, row' = some b ∧ w.heap.size ≤ b) : w.grownBy w2 row :=
  ⟨h'.os.trans h.os, h'.tape.trans h.tape, h'.output.trans h.output, Nat.le_trans h.size h'.size, fun i hi hne => (h'.block i (Nat.lt_of_lt_of_le hi h.size) (by
    rcases hr with rfl | ⟨b, rfl, hb⟩
    · exact hne
    · intro e; injection e with e; omega)).trans (h.block i hi hne)⟩

set_option maxRecDepth 100000 in
set_option maxHeartbeats 40000000 in
theorem ranges_leaf (b : Bool) (k : Kd2) (B : Nat) (w : World) (v : Value) (L : List S63) (f s : Int) (hk : k.1 = (T.leaf b).toS) (hf : IntKind.u64.wrap (f + s) = f + s) (hL : L.length ≤ 1000000) (hB : B ≤ w.heap.size) (hv : Kd.R k63 63 w B (fun _ => True) v L) :
    Calls Try.prog 64 #[v, kv k, .int .u64 f, .int .u64 s] w (RgPost w B v (L ++ if b then [⟨f, f + s⟩] else [])) := by
  obtain ⟨⟨o, l⟩, A, c⟩ := k
  simp only [T.toS, S24.mk.injEq] at hk
  obtain ⟨rfl, rfl⟩ := hk
  obtain ⟨Av, cv, rfl⟩ := Kd.R_slice hv
  have HV := Lib.hid hv
  have HB := Lib.hid hB
  have HL := Lib.hid hL
  have HX := Lib.hid (Kd.R_alloc hv (.cells #[.bool o, .slice A 0 c] 24))
  have HBB : Hid (Below B w (w.alloc (.cells #[.bool o, .slice A 0 c] 24))) := Lib.hid ((Below.refl _ _).alloc hB _)
  have HGG : Hid (w.grownBy (w.alloc (.cells #[.bool o, .slice A 0 c] 24)) (Value.slice Av L.length cv).ownBlock) := Lib.hid (World.grownBy_alloc _ _ _)
  clear hv hB hL
  have hu24 := Try.underlying24
  have hu22 := Try.underlying22
  have hu63 := Try.underlying63
  go_enter Try.func64, Try.ntmps64
  cases o
  · go_wp2_with fail
    go_ret
    exact ⟨_, rfl, HX.out, HBB.out, HGG.out, .inl rfl⟩
  · go_wp2_with (first
      | ((with_reducible refine gate_builtin (b := .append) (xs := #[.tmp 15, .tmp 21]) rfl ?_); at_builtin;
         refine Kd.R_append k63 (w0 := w) B rfl (.tmp 15) (.tmp 21) 51 63 (.agg #[(.int .u64 0), (.int .u64 0)]) 16 rfl Try.underlying51 info63 rfl (by decide) (by omega) (.slice Av L.length cv) L (⟨f, f + s⟩ : S63) [.int .u64 f, .int .u64 (f + s)] (fun _ => True) (fun _ => False) rfl (by first | (go_simp; done) | (go_simp; rfl)) (k63_mkM _ _ _ (⟨f, f + s⟩ : S63)) (fun _ hk => hk.elim) (fun _ _ => trivial) HX.out HBB.out (Nat.le_trans HB.out HBB.out.size) (by have := HL.out; omega) ?_;
         intro v1 w1 ho hb hg hat;
         have HO := Lib.hid ho; have HB1 := Lib.hid hb; have HG := Lib.hid hg; have HAT := Lib.hid hat; clear ho hb hg hat)
      | fail)
    go_ret
    exact ⟨_, rfl, HO.out, HB1.out, HGG.out.trans HG.out, HAT.out.imp id (fun ⟨b, h1, h2⟩ => ⟨b, h1, Nat.le_trans HBB.out.size h2⟩)⟩

set_option maxRecDepth 100000 in
set_option maxHeartbeats 40000000 in
theorem ranges_node (a b : T) (k : Kd2) (B : Nat) (w : World) (v : Value) (L M N : List S63) (f s s2 : Int) (hk : k.1 = (T.node a b).toS) (hq : IntKind.u64.wrap (Int.tdiv s 2) = s2) (hf : IntKind.u64.wrap (f + s2) = f + s2)
    (hB : B ≤ w.heap.size) (hF : Ft w (fun j => j < B) k) (hv : Kd.R k63 63 w B (fun _ => True) v L)
    (iha : ∀ (k : Kd2) (w : World) (v : Value), k.1 = a.toS → B ≤ w.heap.size → Ft w (fun j => j < B) k → Kd.R k63 63 w B (fun _ => True) v L → Calls Try.prog 64 #[v, kv k, .int .u64 f, .int .u64 s2] w (RgPost w B v (L ++ M)))
    (ihb : ∀ (k : Kd2) (w : World) (v : Value), k.1 = b.toS → B ≤ w.heap.size → Ft w (fun j => j < B) k → Kd.R k63 63 w B (fun _ => True) v (L ++ M) → Calls Try.prog 64 #[v, kv k, .int .u64 (f + s2), .int .u64 s2] w (RgPost w B v (L ++ M ++ N))) :
    Calls Try.prog 64 #[v, kv k, .int .u64 f, .int .u64 s] w (RgPost w B v (L ++ M ++ N)) := by
  obtain ⟨ad, ka, kb, hA, hka, hkb, fa, fb, c0, c1, c2, c3⟩ := hF.kids hk
  have H0 := Lib.hid (Kd.R_alloc hv (.cells #[.bool k.1.f0, .slice k.2.1 k.1.f1.length k.2.2] 24))
  have HBB : Hid (Below B w (w.alloc (.cells #[.bool k.1.f0, .slice k.2.1 k.1.f1.length k.2.2] 24))) := Lib.hid ((Below.refl _ _).alloc hB _)
  have HGG : Hid (w.grownBy (w.alloc (.cells #[.bool k.1.f0, .slice k.2.1 k.1.f1.length k.2.2] 24)) v.ownBlock) := Lib.hid (World.grownBy_alloc _ _ _)
  obtain ⟨⟨o, l⟩, A, c⟩ := k
  simp only [T.toS, S24.mk.injEq] at hk
  obtain ⟨rfl, rfl⟩ := hk
  dsimp only at hA
  subst hA
  obtain ⟨Av, cv, rfl⟩ := Kd.R_slice hv
  have HV := Lib.hid hv
  have HB := Lib.hid hB
  have HF := Lib.hid hF
  have IA := Lib.hid iha
  have IB := Lib.hid ihb
  have HKA := Lib.hid hka
  have FA := Lib.hid fa
  have hb0 : Below w.heap.size w (w.alloc (.cells #[.bool false, .slice (some ad) 2 c] 24)) := (Below.refl _ _).alloc (Nat.le_refl _) _
  have d0 := kcell hb0 c0
  have d1 := kcell hb0 c1
  have d2 := kcell hb0 c2
  have d3 := kcell hb0 c3
  have FA0 := Lib.hid (fa.below hb0)
  have HNE : Hid (some w.heap.size ≠ (Value.slice Av L.length cv).ownBlock) := Lib.hid (fun e => by have := ((Kd.R_bound hv).1 _ e.symm).2.2.1; omega)
  have HB0 : Hid (B ≤ (w.alloc (.cells #[.bool false, .slice (some ad) 2 c] 24)).heap.size) := Lib.hid (Nat.le_trans hB hb0.size)
  have G0 := Lib.hid (blk_new w (.cells #[.bool false, .slice (some ad) 2 c] 24))
  clear hv hB hF iha ihb hka hkb fa fb hb0 c0 c1 c2 c3
  have hu24 := Try.underlying24
  have hu22 := Try.underlying22
  have hu63 := Try.underlying63
  go_enter Try.func64, Try.ntmps64
  go_wp2_with fail
  refine (IA.out ka _ _ HKA.out HB0.out FA0.out H0.out).mono ?_
  rintro e w1 ⟨v1, rfl, hv1, hb1, hg1, ha1⟩
  have HB1 := Lib.hid (HBB.out.trans hb1)
  have F1 := HF.out.move (W' := w1) (fun j hj => HB1.out.block j hj)
  have G1 := Lib.hid (blk_grown G0.out hg1 HNE.out)
  have HV1 := Lib.hid hv1
  have HG1 := Lib.hid (HGG.out.trans hg1)
  have HA1 := Lib.hid (show v1.ownBlock = (Value.slice Av L.length cv).ownBlock ∨ ∃ b, v1.ownBlock = some b ∧ w.heap.size ≤ b from ha1.imp id (fun ⟨b, h1, h2⟩ => ⟨b, h1, Nat.le_trans HBB.out.size h2⟩))
  obtain ⟨ad', ka', kb', hA', hka', hkb', fa', fb', c0, c1, c2, c3⟩ := F1.kids (a := a) (b := b) rfl
  dsimp only at hA'
  cases hA'
  have g0 := cell0 G1.out
  have g1 := cell1 G1.out
  have HKB := Lib.hid hkb'
  have FB := Lib.hid fb'
  have HBL : Hid (B ≤ w1.heap.size) := Lib.hid (Nat.le_trans HB.out HB1.out.size)
  clear hv1 hb1 hg1 ha1 F1 hka' hkb' fa' fb' d0 d1 d2 d3
  go_wp2_with fail
  refine (IB.out kb' _ _ HKB.out HBL.out FB.out HV1.out).mono ?_
  rintro e w2 ⟨v2, rfl, hv2, hb2, hg2, ha2⟩
  have HV2 := Lib.hid hv2
  have HB2 := Lib.hid (HB1.out.trans hb2)
  have HG2 := Lib.hid (grown_trans HG1.out hg2 HA1.out)
  have HA2 := Lib.hid (show v2.ownBlock = (Value.slice Av L.length cv).ownBlock ∨ ∃ b, v2.ownBlock = some b ∧ w.heap.size ≤ b by
    rcases ha2 with h | ⟨b, h1, h2⟩
    · rw [h]; exact HA1.out
    · exact .inr ⟨b, h1, Nat.le_trans HB1.out.size h2⟩)
  clear hv2 hb2 hg2 ha2 g0 g1 c0 c1 c2 c3
  go_wp2_with fail
  go_ret
  exact ⟨v2, rfl, HV2.out, HB2.out, HG2.out, HA2.out⟩

theorem u64_small (x : Int) (h0 : 0 ≤ x) (h1 : x < 18446744073709551616) : IntKind.u64.wrap x = x := by
  unfold IntKind.wrap
  simp only [IntKind.signed, IntKind.bits]
  simp
  omega
theorem ranges_calls : ∀ (t : T) (n : Nat) (k : Kd2) (B : Nat) (w : World) (v : Value) (L : List S63) (f : Int), k.1 = t.toS → t.depth ≤ n → n ≤ 32 → 0 ≤ f → f + 2 ^ n ≤ 4294967296 → L.length + t.count ≤ 1000000 →
    B ≤ w.heap.size → Ft w (fun j => j < B) k → Kd.R k63 63 w B (fun _ => True) v L →
    Calls Try.prog 64 #[v, kv k, .int .u64 f, .int .u64 (2 ^ n)] w (RgPost w B v (L ++ rl n t f))
  | .leaf b, n, k, B, w, v, L, f, hk, hd, hn, h0, h1, hL, hB, hF, hv => by
    rw [rl_leaf]
    have hp : (0 : Int) < 2 ^ n := Int.pow_pos (by decide)
    exact ranges_leaf b k B w v L f (2 ^ n) hk (u64_small _ (by omega) (by omega)) (by omega) hB hv
  | .node a b, 0, k, B, w, v, L, f, hk, hd, hn, h0, h1, hL, hB, hF, hv => by simp [T.depth] at hd
  | .node a b, n + 1, k, B, w, v, L, f, hk, hd, hn, h0, h1, hL, hB, hF, hv => by
    simp only [T.depth, T.count] at hd hL
    have hp : (0 : Int) < 2 ^ n := Int.pow_pos (by decide)
    have hs : (2 : Int) ^ (n + 1) = 2 ^ n * 2 := Int.pow_succ 2 n
    have hl := rl_length a n f
    rw [rl, ← List.append_assoc]
    refine ranges_node a b k B w v L _ _ f (2 ^ (n + 1)) (2 ^ n) hk ?_ (u64_small _ (by omega) (by omega)) hB hF hv ?_ ?_
    · rw [hs, Int.mul_tdiv_cancel _ (by decide)]
      exact u64_small _ (by omega) (by omega)
    · intro k w v hk hB hF hv
      exact ranges_calls a n k B w v L f hk (by omega) (by omega) h0 (by omega) (by omega) hB hF hv
    · intro k w v hk hB hF hv
      exact ranges_calls b n k B w v _ (f + 2 ^ n) hk (by omega) (by omega) (by omega) (by omega) (by rw [List.length_append]; omega) hB hF hv

def pannierref04_Means.f (a0_0 : Bool) (l0_1 : List S24) : Option (List S63) :=
  match T.ofS ⟨a0_0, l0_1⟩ with
  | some t => if t.right then some (rl 32 t 0) else none
  | none => none
set_option maxRecDepth 100000 in
set_option maxHeartbeats 40000000 in
theorem pannierref04_Means.calls (a0_0 : Bool) (A0_1 : Option Addr) (c0_1 : Nat) (l0_1 : List S24) (r : List S63) (w : World) (hr0_1 : Kd.C k24 w A0_1 l0_1.length l0_1) (hc0_1 : l0_1.length ≤ c0_1) (h : pannierref04_Means.f a0_0 l0_1 = some r) :
    Calls Try.prog 38 #[.agg #[.bool a0_0, .slice A0_1 l0_1.length c0_1]] w fun e w' => ∃ v0_ : Value, e = .returned (v0_) ∧ Kd.R k63 63 w' w.heap.size (fun _ => True) v0_ r ∧ Below w.heap.size w w' := by
  unfold pannierref04_Means.f at h
  cases ht : T.ofS ⟨a0_0, l0_1⟩ with
  | none => rw [ht] at h; cases h
  | some t =>
    rw [ht] at h
    dsimp only at h
    split at h
    · rename_i hr
      have hr' : rl 32 t 0 = r := by simpa using h
      have HR := Lib.hid hr'
      have HT := Lib.hid (T.ofS_eq.1 ht)
      have HTR := Lib.hid hr
      have HC := Lib.hid hr0_1
      have HL := Lib.hid hc0_1
      clear hr0_1 hc0_1 h ht hr' hr
      have hu24 := Try.underlying24
      have hu22 := Try.underlying22
      go_enter Try.func38, Try.ntmps38
      go_wp2_with fail
      have hb0 : Below w.heap.size w (w.alloc (.cells #[.bool a0_0, .slice A0_1 l0_1.length c0_1] 24)) := (Below.refl _ _).alloc (Nat.le_refl _) _
      have hcnt := HTR.out.2
      have hdep := HTR.out.1
      refine (ranges_calls t 32 (⟨a0_0, l0_1⟩, A0_1, c0_1) w.heap.size _ (.slice none 0 0) [] 0 HT.out.symm hdep (Nat.le_refl _) (by decide) (by decide) (by simp only [List.length_nil]; omega) hb0.size ?_ (Kd.R_nil _ _ _ _ _)).mono ?_
      · exact (Ft.all (k := (⟨a0_0, l0_1⟩, A0_1, c0_1)) HL.out HC.out).below hb0
      · rintro e w1 ⟨v1, rfl, hv1, hb1, _, _⟩
        have HV := Lib.hid hv1
        have HB := Lib.hid (hb0.trans hb1)
        clear hv1 hb1 hb0 hcnt hdep
        go_wp2_with fail
        go_ret
        have h1 := HV.out
        rw [List.nil_append, HR.out] at h1
        exact ⟨_, rfl, h1, HB.out⟩
    · cases h
end Go.Proofs.Ytlhaofbncoijfaa.HandF
