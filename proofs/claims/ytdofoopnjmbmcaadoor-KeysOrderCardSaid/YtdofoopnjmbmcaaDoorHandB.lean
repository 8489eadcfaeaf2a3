/- A contract by hand: keys.Behind. -/
import Derived.Test.YtdofoopnjmbmcaaDoorX0
import Derived.Test.YtdofoopnjmbmcaaDoorBlocks
import Derived.Laws.IdiomStrings
import Derived.WalkSpells
import Derived.WalkMore
import Derived.Lib.Hide
namespace Go.Proofs.YtdofoopnjmbmcaaDoor.HandF
set_option linter.unusedVariables false
set_option linter.unusedSimpArgs false
open Go.RowKit Go.Proofs.YtdofoopnjmbmcaaDoor.X Go.Proofs.YtdofoopnjmbmcaaDoor.Blocks
open Go.Proofs.YtdofoopnjmbmcaaDoorW.PrintWords Go.Proofs.YtdofoopnjmbmcaaDoorW.PrintLast Go.Proofs.YtdofoopnjmbmcaaDoorW.PrintMore

theorem C_bytes (W : World) (s : ByteArray) (cap : Nat) (hs : s.size ≤ 9223372036854775807) (fr : Nat × Nat) :
    (Kd.int .u8).C (W.alloc (.cells (bytesRow s cap) 5 fr)) (some ⟨W.heap.size, 0, none⟩) s.size (bytesOf s) := by
  have hlen : (bytesOf s).length = s.size := bytesOf_length _
  refine ⟨hlen, hs, fun _ => ⟨_, rfl, fun j p hj => ⟨[.int .u8 p], rfl, rfl, fun i u hi => ?_⟩⟩⟩
  cases i with
  | succ i => simp at hi
  | zero =>
    obtain rfl : Value.int .u8 p = u := by simpa using hi
    have h := alloc_new W (.cells (bytesRow s cap) 5 fr)
    have e : (⟨W.heap.size, 0, none⟩ : Addr).add (j * 1 + 0) = ⟨W.heap.size, j, none⟩ := by
      rw [Nat.mul_one, Nat.add_zero]; exact YtdofoopnjmbmcaaDoorW.PrintWords.add_plain _ _
    show (W.alloc _).cell? ((⟨W.heap.size, 0, none⟩ : Addr).add (j * 1 + 0)) = _
    rw [e]
    simp only [World.cell?, h]
    have hj2 : j < s.data.size := by
      have := (List.getElem?_eq_some_iff.1 hj).1
      rw [hlen] at this
      exact this
    unfold bytesOf at hj
    rw [List.getElem?_map] at hj
    unfold bytesRow
    rw [Array.getElem?_append_left (by rw [Array.size_map]; exact hj2), Array.getElem?_map]
    rw [Array.getElem?_eq_getElem hj2]
    rw [Array.getElem?_toList, Array.getElem?_eq_getElem hj2] at hj
    simp only [Option.map_some, Option.some.injEq] at hj ⊢
    rw [hj]
    simp

/-- A byte is stored. -/
theorem set_C {W : World} {b n : Nat} {l : List Int} (h : (Kd.int .u8).C W (some ⟨b, 0, none⟩) n l) (i : Nat) (hi : i < n) (x : Int) :
    (Kd.int .u8).C (W.setCell ⟨b, i, none⟩ (.int .u8 x)) (some ⟨b, 0, none⟩) n (l.set i x) := by
  have hr := Kd.reads_of_C (d := (0 : Int)) h
  obtain ⟨h1, h2, h3⟩ := hr
  refine Kd.C_of_reads (d := (0 : Int)) (h1 := fun _ => rfl) ⟨by rw [List.length_set]; exact h1, h2, fun hn => ?_⟩
  obtain ⟨ad, e, hc⟩ := h3 hn
  cases e
  refine ⟨_, rfl, fun j hj => ?_⟩
  have hcj := hc j hj
  rw [show (⟨b, 0, none⟩ : Addr).add j = ⟨b, j, none⟩ from YtdofoopnjmbmcaaDoorW.PrintWords.add_plain _ _] at hcj ⊢
  by_cases e : j = i
  · subst e
    rw [World.cell?_setCell_same (w := W) (a := ⟨b, j, none⟩) (v := .int .u8 x) hcj, List.getD_eq_getElem?_getD, List.getElem?_set_self (by omega)]
    rfl
  · rw [World.cell?_setCell_other (w := W) (a := ⟨b, i, none⟩) (b := ⟨b, j, none⟩) (v := .int .u8 x) (by intro h; cases h; exact e rfl), hcj, List.getD_eq_getElem?_getD, List.getD_eq_getElem?_getD, List.getElem?_set_ne (by omega)]

theorem bytes_free {W : World} {s : ByteArray} {cap b : Nat} (h : W.heap[b]? = some (.cells (bytesRow s cap) 5 ((bytesRow s cap).size, (bytesRow s cap).size + 1))) (i : Nat) (hi : i < s.size) : W.frozen? ⟨b, i, none⟩ = false := by
  unfold World.frozen?
  rw [h]
  have : s.size ≤ (bytesRow s cap).size := by
    unfold bytesRow
    rw [Array.size_append, Array.size_map]
    exact Nat.le_add_right _ _
  show (decide ((bytesRow s cap).size ≤ i) && decide (i < (bytesRow s cap).size + 1)) = false
  rw [decide_eq_false (show ¬ (bytesRow s cap).size ≤ i by omega)]
  rfl

/-- How many bytes are left where the last ones, all 255, are taken away. -/
def stripN (l : List Int) : Nat → Nat
  | 0 => 0
  | n + 1 => if rd l (n : Int) = 255 then stripN l n else n + 1
/-- The least text behind all that begin so. -/
def behindS (s : ByteArray) : ByteArray × Bool :=
  match stripN (bytesOf s) s.size with
  | 0 => (⟨#[]⟩, false)
  | m + 1 => (strOfNums (((bytesOf s).take (m + 1)).set m ((rd (bytesOf s) (m : Int) + 1) % 256)), true)
def keys_Behind.f (s : ByteArray) : Option (ByteArray × Bool) := if s.size ≤ 140737488351232 then some (behindS s) else none

set_option maxRecDepth 100000 in
set_option maxHeartbeats 4000000 in
theorem keys_Behind.calls (a0 : ByteArray) (r1 : ByteArray) (r2 : Bool) (w : World) (h : keys_Behind.f a0 = some (r1, r2)) :
    Calls Tryd.prog 16 #[.string a0] w fun e w' => e = .returned (.tuple #[.string r1, .bool r2]) ∧ Below w.heap.size w w' := by
  unfold keys_Behind.f at h
  by_cases hs : a0.size ≤ 140737488351232
  · rw [if_pos hs] at h
    have H := Aside0.mk (Option.some.inj h)
    clear h
    obtain ⟨cf, hcf⟩ : ∃ cf : ByteArray → World → Nat, ∀ s W, cf s W = grownCap W s.size 0 5 := ⟨_, fun _ _ => rfl⟩
    obtain ⟨G, hG⟩ : ∃ G : ByteArray → World → Obj, ∀ s W, G s W = .cells (bytesRow s (cf s W)) 5 ((bytesRow s (cf s W)).size, (bytesRow s (cf s W)).size + 1) := ⟨_, fun _ _ => rfl⟩
    have kc : ∀ (s : ByteArray) (W : World), (convert 9 45 (.string s)).run Tryd.prog W = .ok (.slice (some ⟨W.heap.size, 0, none⟩) s.size (cf s W)) (W.drew.alloc (G s W)) := fun s W => by
      have := Go.run_bytes_of_string (P := Tryd.prog) W 9 45 5 s Tryd.underlying9 Tryd.underlying45 Tryd.underlying5
      rw [← hcf, ← hG] at this
      exact this
    have madeC : Aside0 ((Kd.int .u8).C (w.alloc (G a0 w)) (some ⟨w.heap.size, 0, none⟩) a0.size (bytesOf a0)) := ⟨by rw [hG]; exact C_bytes w a0 _ (by omega) _⟩
    have hcap : a0.size ≤ cf a0 w := by rw [hcf]; exact grownCap_ge _ _ _ _
    have freed : Aside0 (∀ i, i < a0.size → (w.alloc (G a0 w)).frozen? ⟨w.heap.size, i, none⟩ = false) := ⟨fun i hi => by
      refine bytes_free (s := a0) (cap := cf a0 w) ?_ i hi
      have := alloc_new w (G a0 w)
      rw [hG] at this ⊢
      exact this⟩
    clear hG hcf
    go_enter Tryd.func16, Tryd.ntmps16
    go_wp2_with fail
    obtain ⟨X, hX⟩ : ∃ X, (w.alloc (G a0 w)).drew = X := ⟨_, rfl⟩
    obtain ⟨cap, hcp⟩ : ∃ cap, cf a0 w = cap := ⟨_, rfl⟩
    have HBX : Aside0 (Below w.heap.size w X) := ⟨by rw [← hX]; exact ((Below.refl _ _).alloc (Nat.le_refl _) _).drew⟩
    have HCX : Aside0 ((Kd.int .u8).C X (some ⟨w.heap.size, 0, none⟩) a0.size (bytesOf a0)) := ⟨by rw [← hX]; exact Kd.C_drew madeC.out⟩
    have HFX : Aside0 (∀ i, i < a0.size → X.frozen? ⟨w.heap.size, i, none⟩ = false) := ⟨fun i hi => by rw [← hX]; exact freed.out i hi⟩
    rw [hcp] at hcap
    rw [hX, hcp]
    clear hX hcp madeC freed kc
    obtain ⟨l, hl⟩ : ∃ l, bytesOf a0 = l := ⟨_, rfl⟩
    have hll : l.length = a0.size := by rw [← hl]; exact bytesOf_length _
    have H' : Aside0 ((match stripN l a0.size with
      | 0 => ((⟨#[]⟩ : ByteArray), false)
      | m + 1 => (strOfNums ((l.take (m + 1)).set m ((rd l (m : Int) + 1) % 256)), true)) = (r1, r2)) := ⟨by rw [← hl]; exact H.out⟩
    rw [hl] at HCX
    clear hl H
    go_loopw [4] (fun v4 wr => ∃ n : Nat, v4 = .slice (some ⟨w.heap.size, 0, none⟩) n cap ∧ n ≤ a0.size ∧ wr = X ∧ Aside0 (stripN l n = stripN l a0.size)) (fun v4 _ => match v4 with | .slice _ n _ => n | _ => 0)
    case atStart => exact ⟨a0.size, rfl, Nat.le_refl _, rfl, ⟨rfl⟩⟩
    case round =>
      obtain ⟨n, rfl, hn, rfl, HS⟩ := hrel
      cases n with
      | zero =>
        have hf := H'.out
        rw [← HS.out] at hf
        simp only [stripN, Prod.mk.injEq] at hf
        obtain ⟨e1, e2⟩ := hf
        subst e1 e2
        go_wp2
        go_ret2
        exact ⟨rfl, HBX.out⟩
      | succ m =>
        have hm : m < a0.size := by omega
        obtain ⟨ad, e, hcell⟩ := Kd.at_int HCX.out (m : Int) (by omega) (by omega)
        cases e
        rw [Int.toNat_natCast, show (⟨w.heap.size, 0, none⟩ : Addr).add m = ⟨w.heap.size, m, none⟩ from YtdofoopnjmbmcaaDoorW.PrintWords.add_plain _ _] at hcell
        have hfree := HFX.out m hm
        have p0 : (0 : Int) ≤ (m : Int) := by omega
        have p1 : (m : Int) < (m : Int) + 1 := by omega
        by_cases c : rd l (m : Int) = 255
        · have d1 : (rd l (m : Int) == 255) = true := beq_iff_eq.2 c
          have hst : stripN l (m + 1) = stripN l m := by rw [stripN, if_pos c]
          have HST := Aside0.mk (hst.symm.trans HS.out)
          clear hst c
          go_wp2
          go_roundw
          case rel => exact ⟨m, rfl, by omega, trivial, HST⟩
          case measure => simp
        · have d1 : (rd l (m : Int) == 255) = false := beq_eq_false_iff_ne.2 c
          have hst : stripN l (m + 1) = m + 1 := by rw [stripN, if_neg c]
          have hf := H'.out
          rw [← HS.out, hst] at hf
          simp only [Prod.mk.injEq] at hf
          obtain ⟨e1, e2⟩ := hf
          subst e2
          have HE1 := Aside0.mk e1
          clear e1 hst c HS H'
          have d2 : ((m : Int) + 1 == 0) = false := beq_eq_false_iff_ne.2 (by omega)
          have hct : (Kd.int .u8).C wr (some ⟨w.heap.size, 0, none⟩) (m + 1) (l.take (m + 1)) := Kd.C_of_reads (d := (0 : Int)) (h1 := fun _ => rfl) (ReadsOf.take_ (Kd.reads_of_C (d := (0 : Int)) HCX.out) (m + 1) (by omega))
          have hcv := Kd.C_string (P := Tryd.prog) (c := cap) Tryd.underlying45 Tryd.underlying5 Tryd.underlying9 (set_C hct m (by omega) ((rd l (m : Int) + 1) % 256))
          clear hct
          go_wp2
          go_ret2
          exact ⟨by rw [← HE1.out]; rfl, HBX.out.setCell (Nat.le_refl _) _⟩
  · rw [if_neg hs] at h
    cases h
end Go.Proofs.YtdofoopnjmbmcaaDoor.HandF
