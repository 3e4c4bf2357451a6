/- slices.Insert of one element at a row of sleepers. Conditions: none. -/
import Derived.Test.YtjbjngikaiggdaaGreatBaseC
set_option linter.unusedVariables false
set_option linter.unusedSimpArgs false
namespace Go.Proofs.YtjbjngikaiggdaaGreat
open Go.RowKit

def slE : Enc (Int × Int) := ⟨2, by decide, fun p => [.int .i64 p.1, .int .i64 p.2], fun _ => rfl, by intro a u hu; simp at hu; rcases hu with rfl | rfl <;> rfl⟩
theorem infoSl : (Tryz.prog.info? 65).map (fun i => (i.zero, i.size, i.bytes)) = some (some (.agg #[.int .i64 0, .int .i64 0]), 2, 16) := by kernel_rfl
theorem etySl : Ety Tryz.prog slE 65 (.agg #[.int .i64 0, .int .i64 0]) := by
  obtain ⟨i, hi, hz, hs, hb⟩ := info_parts infoSl
  exact ⟨⟨i, hi, hz, hs, by omega⟩, rfl⟩

def RowPost {α : Type} (E : Enc α) (T : TypeId) (F : Nat → Prop) (w : World) (xs : List α) (e : Ending) (w' : World) : Prop :=
  ∃ v' F', e = .returned v' ∧ Row E T w' F' v' xs ∧ Upd F w w' ∧ ∀ b, F' b → F b ∨ w.heap.size ≤ b


set_option maxHeartbeats 1000000 in
set_option maxRecDepth 100000 in
theorem ins_sl_end (w : World) (F : Nat → Prop) (v : Value) (xs zs : List (Int × Int)) (x : Int × Int) (hz : zs = xs ++ [x]) (hrow : Row slE 65 w F v xs) (yb : Nat) (T' : TypeId) (hyb : Blk w yb T' (slE.enc x)) (hn : xs.length ≤ 1000000000) :
    Calls Tryz.prog 54 #[v, .int .i64 xs.length, .slice (some ⟨yb, 0, none⟩) 1 1] w (RowPost slE 65 F w zs) := by
  obtain ⟨v', w', F', hr, h1, h2, h3, _⟩ := run_append_row (ty := 79) Tryz.underlying79 etySl hrow (Rd.one hyb) (by simp; omega)
  have hpost : RowPost slE 65 F w zs (.returned v') w' := ⟨v', F', rfl, by rw [hz]; exact h1, h2, h3⟩
  have hp := Lib.hid hpost
  have hrr := Lib.hid hr
  clear hr h1 h2 h3 hpost hz
  rcases hrow with ⟨rfl, rfl, rfl⟩ | ⟨b, o, c, cur, rfl, rfl, hb, hc1, hc2, hc3, hcur⟩
  · go_enter Tryz.func54, Tryz.ntmps54
    go_wp2_with (at_builtin; refine wpList_append_by ⟨rfl, rfl, rfl, rfl⟩ hrr.out ?_)
    go_ret
    exact hp.out
  · generalize xs.length = n at *
    clear hb hc3 hcur
    have hc : (n : Int) ≤ (c : Int) := by omega
    go_enter Tryz.func54, Tryz.ntmps54
    go_wp2_with (at_builtin; refine wpList_append_by ⟨rfl, rfl, rfl, rfl⟩ hrr.out ?_)
    all_goals (go_ret; exact hp.out)

set_option maxHeartbeats 1000000 in
set_option maxRecDepth 100000 in
theorem ins_sl_shift (w : World) (b o c n : Nat) (cur : Array Value) (xs zs : List (Int × Int)) (x : Int × Int) (i : Nat) (hz : zs = xs.take i ++ x :: xs.drop i) (hx : xs.length = n) (hb : w.heap[b]? = some (.cells cur 65 (0, 0))) (hc2 : c ≤ maxLen) (hc3 : o + c * 2 ≤ cur.size) (hcur : (cur.toList.drop o).take (n * 2) = slE.flat xs)
    (yb : Nat) (T' : TypeId) (hyb : Blk w yb T' (slE.enc x)) (hyF : yb ≠ b) (hi : i < n) (hroom : n + 1 ≤ c) (hn : n ≤ 1000000000) :
    Calls Tryz.prog 54 #[.slice (some ⟨b, o, none⟩) n c, .int .i64 i, .slice (some ⟨yb, 0, none⟩) 1 1] w (RowPost slE 65 (OneB b) w zs) := by
  have hov : ∀ (o2 l2 c2 : Nat), (callFunc 69 #[.slice (some ⟨yb, 0, none⟩) 1 1, .slice (some ⟨b, o2, none⟩) l2 c2]).run Tryz.prog w = .ok (.value (.bool false)) w := fun o2 l2 c2 => by
    rw [run_callFunc_extern Tryz.func69 (by kernel_rfl) (by kernel_rfl) (by kernel_rfl) (e := Extern.SlicesOverlaps.overlaps #[79, 79] #[4]) (by kernel_rfl), run_overlaps_no Tryz.underlying79 (ety_size etySl) hyb hb hyF (by omega)]
    rfl
  have hne : ((i : Int) == (n : Int)) = false := by simp; omega
  have hg : decide ((c : Int) < (n : Int) + 1) = false := by simp; omega
  have hw0 : IntKind.i64.wrap ((n : Int) + 1) = (n : Int) + 1 := by rw [IntKind.wrap_i64]; omega
  have hw1 : IntKind.i64.wrap ((i : Int) + 1) = (i : Int) + 1 := by rw [IntKind.wrap_i64]; omega
  have hb1 : (0 : Int) ≤ (i : Int) + 1 := by omega
  have htn : ((i : Int) + 1).toNat = i + 1 := by omega
  have hb2 : ¬ (c = i + 1) := by omega
  have hb3 : (i : Int) ≤ (n : Int) + 1 := by omega
  have hb4 : ¬ (c = i) := by omega
  have hb5 : i ≤ n := by omega
  -- the two copies
  have hlen : cur.toList.length = cur.size := by simp
  have hcp1 := fun dc sc => run_copy_at (P := Tryz.prog) (w := w.drew) (dT := 79) (sT := 79) (ty := 3) Tryz.underlying79 (ety_size etySl) (b := b) (o := o + (i + 1) * 2) (dl := n - i) (dc := dc) (sl := n + 1 - i) (sc := sc) hb (ao := some ⟨b, o + i * 2, none⟩) (cs := slE.flat (xs.drop i))
    (m := n - i) (by show min _ _ = _; omega) (by rw [slE.flat_length, List.length_drop, hx]) (by intro h; cases h)
    (by
      intro a ha j u hu
      cases ha
      rw [Addr.add_lit, cell_of_row w.drew b _ cur 65 (0, 0) hb]
      rw [← slE.flat_drop, ← hcur] at hu
      rw [List.getElem?_drop, List.getElem?_take] at hu
      split at hu
      · rw [List.getElem?_drop] at hu
        rw [← Array.getElem?_toList, ← hu]
        show _ = cur.toList[o + (i * 2 + j)]?
        congr 1; omega
      · cases hu)
    (slE.flat_one' _) (by rw [slE.flat_length, List.length_drop, hx]; show _ + (n - i) * 2 ≤ _; omega)
  obtain ⟨cur1, hcur1⟩ : ∃ cur1, cur1 = (cur.toList.take (o + (i + 1) * 2) ++ slE.flat (xs.drop i) ++ cur.toList.drop (o + (i + 1) * 2 + (slE.flat (xs.drop i)).length)).toArray := ⟨_, rfl⟩
  rw [← hcur1] at hcp1
  have hfl1 : (slE.flat (xs.take i)).length = i * 2 := by rw [slE.flat_length, List.length_take, hx, Nat.min_eq_left (by omega)]; rfl
  have hfl2 : (slE.flat (xs.drop i)).length = (n - i) * 2 := by rw [slE.flat_length, List.length_drop, hx]; rfl
  have hsplit : (cur.toList.drop o).take (i * 2 + (n - i) * 2) = slE.flat (xs.take i) ++ slE.flat (xs.drop i) := by
    rw [← Enc.flat_append, List.take_append_drop, ← hcur]; congr 1; omega
  have hsh := shift_list cur.toList (slE.flat (xs.take i)) (slE.flat (xs.drop i)) (slE.enc x) o (i * 2) ((n - i) * 2) 2 hfl1 hfl2 rfl (by rw [hlen]; omega) hsplit
  have eo : o + i * 2 + 2 = o + (i + 1) * 2 := by omega
  simp only [eo] at hsh
  rw [← hfl2] at hsh
  have hc1l : cur1.toList = cur.toList.take (o + (i + 1) * 2) ++ slE.flat (xs.drop i) ++ cur.toList.drop (o + (i + 1) * 2 + (slE.flat (xs.drop i)).length) := by rw [hcur1]
  rw [← hc1l] at hsh
  have hb1' : (w.drew.setRow b cur1).heap[b]? = some (.cells cur1 65 (0, 0)) := setRow_heap w.drew b cur cur1 _ _ hb
  have hyb1 : Blk (w.drew.setRow b cur1) yb T' (slE.enc x) := (setRow_other w.drew b yb cur1 hyF).trans hyb
  have hsz1 : cur1.size = cur.size := by rw [hcur1]; simp only [List.size_toArray, List.length_append, List.length_take, List.length_drop, hlen, hfl2]; omega
  obtain ⟨W1, hW1⟩ : ∃ W1, W1 = w.drew.setRow b cur1 := ⟨_, rfl⟩
  rw [← hW1] at hcp1 hb1' hyb1
  have hcp2 := fun dc => run_copy_at (P := Tryz.prog) (w := W1) (dT := 79) (sT := 79) (ty := 3) Tryz.underlying79 (ety_size etySl) (b := b) (o := o + i * 2) (dl := n + 1 - i) (dc := dc) (sl := 1) (sc := 1) hb1' (ao := some ⟨yb, 0, none⟩) (cs := slE.enc x) (m := 1)
    (by show min _ _ = _; omega) rfl (by intro h; cases h)
    (by intro a ha j u hu; cases ha; rw [Addr.add_lit, Nat.zero_add, hyb1.cell]; exact hu) (slE.one _) (by rw [hsz1]; show _ + 2 ≤ _; omega)
  obtain ⟨cur2, hcur2⟩ : ∃ cur2, cur2 = (cur1.toList.take (o + i * 2) ++ slE.enc x ++ cur1.toList.drop (o + i * 2 + (slE.enc x).length)).toArray := ⟨_, rfl⟩
  rw [← hcur2] at hcp2
  have hc2l : cur2.toList = cur1.toList.take (o + i * 2) ++ slE.enc x ++ cur1.toList.drop (o + (i + 1) * 2) := by rw [hcur2, show o + i * 2 + (slE.enc x).length = o + (i + 1) * 2 by show _ + 2 = _; omega]
  rw [← hc2l] at hsh
  have hpost : RowPost slE 65 (OneB b) w zs (.returned (.slice (some ⟨b, o, none⟩) (n + 1) c)) (W1.setRow b cur2) := by
    refine ⟨_, OneB b, rfl, .inr ⟨b, o, c, cur2, ?_, rfl, setRow_heap W1 b cur1 cur2 _ _ hb1', ?_, hc2, ?_, ?_⟩, ?_, fun b hb => .inl hb⟩
    · congr 1; rw [hz]; simp; omega
    · rw [hz]; simp; omega
    · have := hsh.1; simp only [Array.length_toList] at this; rw [this]; exact hc3
    · rw [hz]
      have := hsh.2
      rw [Enc.flat_append, Enc.flat_cons, ← List.append_assoc, ← this]
      congr 1
      simp; show (_ + (_ + 1)) * 2 = _; omega
    · rw [hW1]
      exact ⟨rfl, rfl, rfl, by simp [World.setRow], fun k _ hk => (setRow_other _ b k _ (fun e => hk e)).trans (setRow_other w.drew b k _ (fun e => hk e))⟩
  subst hW1
  have hp := Lib.hid hpost
  have HC1 := Lib.hid hcp1
  have HC2 := Lib.hid hcp2
  clear hpost hcp1 hcp2 hsh hc1l hc2l hcur1 hcur2 hsplit hfl1 hfl2 hb1' hyb1 hcur hb hsz1 hz hx hlen eo hc3 hyb
  go_enter Tryz.func54, Tryz.ntmps54
  go_wp2_with (simp only [hov])
  go_region_law (refine step_copy_by rfl _ _ _ _ rfl (by simp [Act.eval, Act.put]; rfl) (by simp [Act.eval, Act.put]; rfl) (HC1.out _ _) ?_)
  have hcp2 := HC2.out
  go_wp2
  go_ret
  exact hp.out

set_option maxHeartbeats 1000000 in
set_option maxRecDepth 100000 in
theorem ins_sl_grow (w : World) (b o c n : Nat) (cur : Array Value) (xs zs : List (Int × Int)) (x : Int × Int) (i : Nat) (hz : zs = xs.take i ++ x :: xs.drop i) (hx : xs.length = n) (hb : w.heap[b]? = some (.cells cur 65 (0, 0))) (hc1 : n ≤ c) (hc3 : o + c * 2 ≤ cur.size) (hcur : (cur.toList.drop o).take (n * 2) = slE.flat xs)
    (yb : Nat) (T' : TypeId) (hyb : Blk w yb T' (slE.enc x)) (hi : i < n) (hroom : c < n + 1) (hn : n ≤ 1000000000) :
    Calls Tryz.prog 54 #[.slice (some ⟨b, o, none⟩) n c, .int .i64 i, .slice (some ⟨yb, 0, none⟩) 1 1] w (RowPost slE 65 (OneB b) w zs) := by
  have hne : ((i : Int) == (n : Int)) = false := by simp; omega
  have hg : decide ((c : Int) < (n : Int) + 1) = true := by simp; omega
  have hfl1 : (slE.flat (xs.take i)).length = i * 2 := by rw [slE.flat_length, List.length_take, hx, Nat.min_eq_left (by omega)]; rfl
  have hfl2 : (slE.flat (xs.drop i)).length = (n - i) * 2 := by rw [slE.flat_length, List.length_drop, hx]; rfl
  have hsrc : ∀ k j u, (slE.flat (xs.drop k))[j]? = some u → w.cell? ⟨b, o + k * 2 + j, none⟩ = some u := by
    intro k j u hu
    rw [cell_of_row w b _ cur 65 (0, 0) hb]
    rw [← slE.flat_drop, ← hcur] at hu
    rw [List.getElem?_drop, List.getElem?_take] at hu
    split at hu
    · rw [List.getElem?_drop] at hu
      rw [← Array.getElem?_toList, ← hu]
      show _ = cur.toList[o + (k * 2 + j)]?
      congr 1; omega
    · cases hu
  obtain ⟨cap, hcap1, hcap2, hr⟩ := run_append_zeros (P := Tryz.prog) (w := w) (ty := 79) (tn := 3) Tryz.underlying79 Tryz.underlying3 etySl (xs := xs.take i) (ao := some ⟨b, o, none⟩) (n := i) (c := c) (l := n + 1 - i) (by rw [List.length_take, hx]; omega)
    (by
      intro a ha j u hu
      cases ha
      have h0 := hsrc 0 j u
      rw [Nat.zero_mul, Nat.add_zero, List.drop_zero] at h0
      rw [Addr.add_lit]
      refine h0 ?_
      rw [← slE.flat_take, List.getElem?_take] at hu
      split at hu
      · exact hu
      · cases hu)
    (by intro h; cases h) (by omega) (by omega) (by omega) (L := (n : Int) + 1 - (i : Int)) (by omega)
  have e1 : i + (n + 1 - i) = n + 1 := by omega
  rw [e1] at hr hcap1
  obtain ⟨cur0, hcur0⟩ : ∃ cur0, cur0 = (slE.flat (xs.take i)).toArray ++ Builtin.zeroCells (Value.agg #[.int .i64 0, .int .i64 0]).cells (n + 1 - i) ++ Builtin.zeroCells (Value.agg #[.int .i64 0, .int .i64 0]).cells (cap - (n + 1)) := ⟨_, rfl⟩
  rw [← hcur0] at hr
  have hs0 : cur0.size = cap * 2 := by
    rw [hcur0]; simp only [Array.size_append, List.size_toArray, size_zeroCells, hfl1]
    show _ + _ * 2 + _ * 2 = _
    omega
  have ht0 : cur0.toList.take (i * 2) = slE.flat (xs.take i) := by
    rw [hcur0]; simp only [Array.toList_append, List.append_assoc]
    exact List.take_left' hfl1
  obtain ⟨W0, hW0⟩ : ∃ W0, W0 = w.drew.alloc (.cells cur0 65) := ⟨_, rfl⟩
  have hb0 : W0.heap[w.heap.size]? = some (.cells cur0 65 (0, 0)) := by rw [hW0]; exact heap_alloc_new w.drew _
  have hold : ∀ k, k < w.heap.size → W0.heap[k]? = w.heap[k]? := by intro k hk; rw [hW0]; exact Below.heap_alloc w.drew _ k hk
  have hcp1 := fun dc => run_copy_at (P := Tryz.prog) (w := W0) (dT := 79) (sT := 79) (ty := 3) Tryz.underlying79 (ety_size etySl) (b := w.heap.size) (o := i * 2) (dl := n + 1 - i) (dc := dc) (sl := 1) (sc := 1) hb0 (ao := some ⟨yb, 0, none⟩) (cs := slE.enc x) (m := 1)
    (by show min _ _ = _; omega) rfl (by intro h; cases h)
    (by intro a ha j u hu; cases ha; rw [Addr.add_lit, Nat.zero_add, World.cell?_of_block (w := w) (hold _ hyb.lt), hyb.cell]; exact hu) (slE.one _) (by rw [hs0]; show _ + 2 ≤ _; omega)
  obtain ⟨cur1, hcur1⟩ : ∃ cur1, cur1 = (cur0.toList.take (i * 2) ++ slE.enc x ++ cur0.toList.drop (i * 2 + (slE.enc x).length)).toArray := ⟨_, rfl⟩
  rw [← hcur1] at hcp1
  have hs1 : cur1.size = cap * 2 := by
    rw [hcur1]; simp only [List.size_toArray, List.length_append, List.length_take, List.length_drop, Array.length_toList, hs0]
    show _ + 2 + (_ - (_ + 2)) = _
    omega
  have ht1 : cur1.toList.take (i * 2 + 2) = slE.flat (xs.take i) ++ slE.enc x := by
    rw [hcur1]; simp only []
    rw [ht0]
    exact List.take_left' (by rw [List.length_append, hfl1]; rfl)
  have hb1 : (W0.setRow w.heap.size cur1).heap[w.heap.size]? = some (.cells cur1 65 (0, 0)) := setRow_heap W0 _ cur0 cur1 _ _ hb0
  have hlb := lt_of_block hb
  have hold1 : ∀ k, k < w.heap.size → (W0.setRow w.heap.size cur1).drew.heap[k]? = w.heap[k]? := by intro k hk; exact (setRow_other W0 _ k cur1 (by omega)).trans (hold k hk)
  have hcp2 := fun dc sc => run_copy_at (P := Tryz.prog) (w := (W0.setRow w.heap.size cur1).drew) (dT := 79) (sT := 79) (ty := 3) Tryz.underlying79 (ety_size etySl) (b := w.heap.size) (o := (i + 1) * 2) (dl := n - i) (dc := dc) (sl := n - i) (sc := sc) hb1 (ao := some ⟨b, o + i * 2, none⟩) (cs := slE.flat (xs.drop i)) (m := n - i)
    (by show min _ _ = _; omega) hfl2 (by intro h; cases h)
    (by intro a ha j u hu; cases ha; rw [Addr.add_lit, World.cell?_of_block (w := w) (hold1 _ hlb)]; exact hsrc i j u hu) (slE.flat_one' _) (by rw [hs1, hfl2]; omega)
  obtain ⟨cur2, hcur2⟩ : ∃ cur2, cur2 = (cur1.toList.take ((i + 1) * 2) ++ slE.flat (xs.drop i) ++ cur1.toList.drop ((i + 1) * 2 + (slE.flat (xs.drop i)).length)).toArray := ⟨_, rfl⟩
  rw [← hcur2] at hcp2
  have hpost : RowPost slE 65 (OneB b) w zs (.returned (.slice (some ⟨w.heap.size, 0, none⟩) (n + 1) cap)) ((W0.setRow w.heap.size cur1).drew.setRow w.heap.size cur2) := by
    refine ⟨_, OneB w.heap.size, rfl, .inr ⟨w.heap.size, 0, cap, cur2, ?_, rfl, setRow_heap _ _ cur1 cur2 _ _ hb1, ?_, hcap2, ?_, ?_⟩, ⟨?_, ?_, ?_, ?_, ?_⟩, fun b hb => .inr (by cases hb; exact Nat.le_refl _)⟩
    · congr 1; rw [hz]; simp; omega
    · rw [hz]; simp; omega
    · rw [hcur2]; simp only [List.size_toArray, List.length_append, List.length_take, List.length_drop, Array.length_toList, hs1, hfl2]
      show 0 + cap * 2 ≤ _; omega
    · rw [hz, List.drop_zero]
      have e : (i + 1) * 2 = i * 2 + 2 := by omega
      rw [hcur2]
      simp only []
      rw [e, ht1, Enc.flat_append, Enc.flat_cons, ← List.append_assoc]
      exact List.take_left' (by simp only [List.length_append, hfl1, hfl2, List.length_take, List.length_cons, List.length_drop, hx]; show _ + 2 + _ = (_ + (_ + 1)) * 2; omega)
    · rw [hW0]; rfl
    · rw [hW0]; rfl
    · rw [hW0]; rfl
    · rw [hW0]; simp [World.setRow]
    · intro k hk _; exact (setRow_other _ _ k cur2 (by omega)).trans (hold1 k hk)
  obtain rfl : W0 = (w.alloc (.cells cur0 65)).drew := hW0
  have hp := Lib.hid hpost
  have HR := Lib.hid hr
  have HC1 := Lib.hid hcp1
  have HC2 := Lib.hid hcp2
  have hb2 : ¬ (cap = i + 1) := by omega
  have hb4 : ¬ (cap = i) := by omega
  have hb5 : i ≤ n := by omega
  have hb6 : ¬ (c = i) := by omega
  have hb7 : i ≤ c := by omega
  have hw0 : IntKind.i64.wrap ((n : Int) + 1) = (n : Int) + 1 := by rw [IntKind.wrap_i64]; omega
  have hw1 : IntKind.i64.wrap ((i : Int) + 1) = (i : Int) + 1 := by rw [IntKind.wrap_i64]; omega
  have hb1 : (0 : Int) ≤ (i : Int) + 1 := by omega
  have htn : ((i : Int) + 1).toNat = i + 1 := by omega
  clear hpost hr hcp1 hcp2 hcur0 hcur1 hcur2 hfl1 hfl2 hb0 hs0 hs1 ht0 ht1 hold hold1 hsrc hcur hb hz hx e1 hc3 hyb
  go_enter Tryz.func54, Tryz.ntmps54
  have hcp1 := HC1.out
  go_wp2_with (at_builtin; refine wpList_append_by ⟨rfl, rfl, rfl, rfl⟩ HR.out ?_)
  go_region_law (refine step_copy_by rfl _ _ _ _ rfl (by simp [Act.eval, Act.put]; rfl) (by simp [Act.eval, Act.put]; rfl) (HC2.out _ _) ?_)
  go_wp2
  go_ret
  exact hp.out

/-- slices.Insert of one element at a row of sleepers. -/
theorem ins_sl (w : World) (F : Nat → Prop) (v : Value) (xs : List (Int × Int)) (x : Int × Int) (hrow : Row slE 65 w F v xs) (yb : Nat) (T' : TypeId) (hyb : Blk w yb T' (slE.enc x)) (hyF : ¬ F yb) (i : Nat) (hi : i ≤ xs.length) (hn : xs.length ≤ 1000000000) :
    Calls Tryz.prog 54 #[v, .int .i64 i, .slice (some ⟨yb, 0, none⟩) 1 1] w (RowPost slE 65 F w (xs.take i ++ x :: xs.drop i)) := by
  by_cases hin : i = xs.length
  · subst hin
    exact ins_sl_end w F v xs _ x (by simp) hrow yb T' hyb hn
  · rcases hrow with ⟨rfl, rfl, rfl⟩ | ⟨b, o, c, cur, rfl, rfl, hb, hc1, hc2, hc3, hcur⟩
    · simp at hi hin; omega
    · by_cases hroom : xs.length + 1 ≤ c
      · exact ins_sl_shift w b o c _ cur xs _ x i rfl rfl hb hc2 hc3 hcur yb T' hyb hyF (by omega) hroom hn
      · exact ins_sl_grow w b o c _ cur xs _ x i rfl rfl hb hc1 hc3 hcur yb T' hyb (by omega) (by omega) hn
end Go.Proofs.YtjbjngikaiggdaaGreat
