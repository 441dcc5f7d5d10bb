/-
  A row of numbers that a frame makes by append, beside the frame's boxes.
-/
import Derived.Test.YtobpioceopfkpaaGreatDoorM07
import Derived.Test.YtobpioceopfkpaaGreatDoorM02
import Derived.Test.YtobpioceopfkpaaGreatDoorM11
import Derived.Deep.RegionHeld3
namespace Go.Proofs.YtobpioceopfkpaaGreatDoor
open Go.RowKit

/-- a row of structs of three cells, none a limb -/
structure Rw (w0 w : World) (v : Value) (n : Nat) (xs : List Value) : Prop where
  len : xs.length = n * 3
  rep : (v = .slice none 0 0 ∧ n = 0) ∨ ∃ g cap cur, v = .slice (some ⟨g, 0, none⟩) n cap ∧ w0.heap.size ≤ g ∧ Blk w g 42 cur ∧ n ≤ cap ∧ cap ≤ maxLen ∧ cur.size = cap * 3 ∧ cur.toList.take (n * 3) = xs ∧ nlA cur = true
/-- the row is none of the boxes -/
def Rn (bs : List (Nat × TypeId × Array Value)) (v : Value) : Prop := ∀ (i g : Nat) t cs, bs[i]? = some (g, t, cs) → v.ownBlock ≠ some g

theorem Rw.nil (w0 w : World) : Rw w0 w (.slice none 0 0) 0 [] := ⟨rfl, .inl ⟨rfl, rfl⟩⟩
theorem Rn.nil (bs : List (Nat × TypeId × Array Value)) : Rn bs (.slice none 0 0) := fun _ _ _ _ _ h => by simp [Value.ownBlock] at h
theorem Rw.keep {w0 w w' : World} {v : Value} {n : Nat} {xs : List Value} (h : Rw w0 w v n xs) (hk : ∀ g, v.ownBlock = some g → w'.heap[g]? = w.heap[g]?) : Rw w0 w' v n xs := by
  refine ⟨h.len, ?_⟩
  rcases h.rep with h1 | ⟨g, cap, cur, rfl, h2, h3, h4⟩
  · exact .inl h1
  · exact .inr ⟨g, cap, cur, rfl, h2, (hk g rfl).trans h3, h4⟩
theorem Rw.lt {w0 w : World} {v : Value} {n : Nat} {xs : List Value} (h : Rw w0 w v n xs) {g : Nat} (hg : v.ownBlock = some g) : g < w.heap.size := by
  rcases h.rep with ⟨rfl, _⟩ | ⟨g', cap, cur, rfl, h2, h3, h4⟩
  · simp [Value.ownBlock] at hg
  · simp [Value.ownBlock] at hg; subst hg; exact h3.lt
theorem Rw.call {w0 w w' : World} {v : Value} {n : Nat} {xs : List Value} (h : Rw w0 w v n xs) (hb : Below w.heap.size w w') : Rw w0 w' v n xs :=
  h.keep fun g hg => hb.block g (h.lt hg)
theorem Rw.alloc {w0 w : World} {v : Value} {n : Nat} {xs : List Value} (h : Rw w0 w v n xs) (o : Obj) : Rw w0 (w.alloc o) v n xs :=
  h.keep fun g hg => Below.heap_alloc w o g (h.lt hg)
theorem Rw.set {w0 w : World} {v : Value} {n : Nat} {xs : List Value} (h : Rw w0 w v n xs) {p : Addr} (hp : v.ownBlock ≠ some p.block) (u : Value) : Rw w0 (w.setCell p u) v n xs :=
  h.keep fun g hg => Below.heap_setCell w p u g (fun e => hp (e ▸ hg))
theorem Rw.drew {w0 w : World} {v : Value} {n : Nat} {xs : List Value} (h : Rw w0 w v n xs) : Rw w0 w.drew v n xs := h.keep fun _ _ => rfl
theorem Rn.new {w0 w : World} {bs : List (Nat × TypeId × Array Value)} {v : Value} {n : Nat} {xs : List Value} (h : Rn bs v) (r : Rw w0 w v n xs) (t : TypeId) (cs : Array Value) : Rn (bs ++ [(w.heap.size, t, cs)]) v := by
  intro i g t' cs' hi hg
  rcases get_snoc hi with hi | ⟨rfl, hi⟩
  · exact h i g t' cs' hi hg
  · simp at hi; obtain ⟨rfl, rfl, rfl⟩ := hi
    exact absurd (r.lt hg) (Nat.lt_irrefl _)
theorem Rn.set {bs : List (Nat × TypeId × Array Value)} {v : Value} (h : Rn bs v) (k : Nat) {g : Nat} {t : TypeId} {cs : Array Value} (hk : bs[k]? = some (g, t, cs)) (cs' : Array Value) : Rn (bs.set k (g, t, cs')) v := by
  intro i g' t' c hi
  by_cases hik : i = k
  · subst hik
    rw [List.getElem?_set_self (List.getElem?_eq_some_iff.1 hk).1] at hi
    simp at hi; obtain ⟨rfl, rfl, rfl⟩ := hi
    exact h i _ _ _ hk
  · rw [List.getElem?_set_ne (Ne.symm hik)] at hi
    exact h i g' t' c hi

theorem nlA_zero (k : Nat) : nlA (Builtin.zeroCells #[.bool false, .slice none 0 0, .int .i64 0] k) = true := by
  unfold nlA Builtin.zeroCells
  rw [List.all_eq_true]
  intro x hx
  rw [Array.mem_toList_iff, Array.mem_map] at hx
  obtain ⟨a, _, rfl⟩ := hx
  have hm : a % (#[Value.bool false, Value.slice none 0 0, Value.int .i64 0] : Array Value).size < 3 := Nat.mod_lt _ (by decide)
  generalize a % (#[Value.bool false, Value.slice none 0 0, Value.int .i64 0] : Array Value).size = r at hm
  rcases r with _ | _ | _ | r
  · rfl
  · rfl
  · rfl
  · omega
theorem nlA_append {a b : Array Value} (ha : nlA a = true) (hb : nlA b = true) : nlA (a ++ b) = true := by
  unfold nlA at *
  rw [Array.toList_append, List.all_append, ha, hb]; rfl
theorem nlL_take {l : List Value} (h : l.all nlB = true) (k : Nat) : (l.take k).all nlB = true := by
  rw [List.all_eq_true] at *
  exact fun x hx => h x (List.mem_of_mem_take hx)
theorem nlL_drop {l : List Value} (h : l.all nlB = true) (k : Nat) : (l.drop k).all nlB = true := by
  rw [List.all_eq_true] at *
  exact fun x hx => h x (List.mem_of_mem_drop hx)

/-- no limb lies in a block without limbs -/
theorem Kp.blocks {w w' : World} {g : Nat} {t : TypeId} {cur : Array Value} (hg : Blk w g t cur) (hn : nlA cur = true) (hk : ∀ k, k < w.heap.size → k ≠ g → w'.heap[k]? = w.heap[k]?) : Kp w w' := by
  intro b o k z hkz hc
  by_cases hb : b = g
  · subst hb
    exfalso
    rw [hg.cell o] at hc
    have := nlA_at hn hc
    rcases hkz with rfl | rfl <;> simp [nlB] at this
  · exact (World.cell?_of_block (hk b (cell_lt hc) hb)).trans hc

theorem run_app3 {P : Program} {w0 w : World} {bs : List (Nat × TypeId × Array Value)} {v : Value} {n : Nat} {xs : List Value} (F : Fx w0 w bs) (R : Rw w0 w v n xs) (N : Rn bs v)
    (t ty : TypeId) (i : TypeInfo) (ht : P.underlying t = some (.slice 42)) (hi : P.info? 42 = some i) (hz : i.zero = some (.agg #[.bool false, .slice none 0 0, .int .i64 0])) (hsize : i.size = 3) (hby : i.bytes ≤ 64)
    (a : Addr) (c : Nat) (x y z : Value) (hnews : ∀ j u, [x, y, z][j]? = some u → w.cell? (a.add j) = some u) (h1 : ∀ u ∈ [x, y, z], u.oneCell' = true) (hl : [x, y, z].all nlB = true) (hn : n ≤ 1000) :
    ∃ v' w', (Builtin.append_ #[t, t] ty #[v, .slice (some a) 1 c]).run P w = .ok v' w' ∧ Fx w0 w' bs ∧ Rw w0 w' v' (n + 1) (xs ++ [x, y, z]) ∧ Rn bs v' ∧ Kp w w' := by
  have hsm : n + 1 ≤ maxLen := by simp only [maxLen]; omega
  have hzc : (Value.agg #[.bool false, .slice none 0 0, .int .i64 0]).cells = #[.bool false, .slice none 0 0, .int .i64 0] := rfl
  have hl0 : ([x, y, z] : List Value).length = 1 * i.size := by rw [hsize]; rfl
  -- a new block
  have fresh : ∀ (cs : Array Value) (cap : Nat), n + 1 ≤ cap → cap ≤ maxLen → cs.size = cap * 3 → cs.toList.take ((n + 1) * 3) = xs ++ [x, y, z] → nlA cs = true →
      Fx w0 (w.drew.alloc (.cells cs 42)) bs ∧ Rw w0 (w.drew.alloc (.cells cs 42)) (.slice (some ⟨w.heap.size, 0, none⟩) (n + 1) cap) (n + 1) (xs ++ [x, y, z]) ∧ Rn bs (.slice (some ⟨w.heap.size, 0, none⟩) (n + 1) cap) ∧ Kp w (w.drew.alloc (.cells cs 42)) := by
    intro cs cap k1 k2 k3 k4 k5
    refine ⟨F.drew.alloc _, ⟨by rw [List.length_append, R.len]; simp; omega, .inr ⟨w.heap.size, cap, cs, rfl, F.b.size, Blk.new w.drew 42 cs, k1, k2, k3, k4, k5⟩⟩, ?_, ?_⟩
    · intro j g t' cs' hj he
      simp [Value.ownBlock] at he
      have := (F.box j g t' cs' hj).lt
      omega
    · exact (Kp.drew w).trans (Kp.alloc _ _)
  rcases R.rep with ⟨rfl, rfl⟩ | ⟨g, cap, cur, rfl, hbg, hg, hnc, hcm, hcs, htake, hnl⟩
  · obtain rfl : xs = [] := List.eq_nil_of_length_eq_zero (by simpa using R.len)
    have hr := run_append_nil (P := P) w t ty 42 i _ ht hi hz a 1 c [x, y, z] hl0 hnews (by omega) (by omega) (by omega)
    have hge := grownCap_ge w 1 0 42
    have hcm := grownCap_le_maxLen w 1 0 42 (by simp only [maxLen]; omega)
    refine ⟨_, _, hr, ?_⟩
    have := fresh (([x, y, z] : List Value).toArray ++ Builtin.zeroCells (Value.agg #[.bool false, .slice none 0 0, .int .i64 0]).cells (grownCap w 1 0 42 - 1)) (grownCap w 1 0 42) (by omega) hcm
      (by rw [hzc]; simp only [Array.size_append, List.size_toArray, size_zeroCells]; simp; omega) (by rw [hzc]; simp) (nlA_append (by exact hl) (by rw [hzc]; exact nlA_zero _))
    exact this
  · by_cases hroom : n + 1 ≤ cap
    · have hfit : n * i.size + ([x, y, z] : List Value).length ≤ cur.size := by rw [hsize, hcs]; simp; omega
      have hr := run_append_room (P := P) w t ty 42 i ht hi g n cap cur hg a 1 c [x, y, z] hl0 hnews h1 hroom hfit
      rw [hsize, htake] at hr
      have hset := setRow_heap w g cur (xs ++ [x, y, z] ++ cur.toList.drop (n * 3 + ([x, y, z] : List Value).length)).toArray 42 (0, 0) hg
      have hoth : ∀ k, k < w.heap.size → k ≠ g → (w.setRow g (xs ++ [x, y, z] ++ cur.toList.drop (n * 3 + ([x, y, z] : List Value).length)).toArray).heap[k]? = w.heap[k]? := fun k _ hk => setRow_other w g k _ hk
      refine ⟨_, _, hr, ?_, ?_, ?_, ?_⟩
      · refine ⟨?_, ?_, F.low, F.asc, F.nl⟩
        · have hg2 : World.grownBy w (w.setRow g (xs ++ [x, y, z] ++ cur.toList.drop (n * 3 + ([x, y, z] : List Value).length)).toArray) (some g) := ⟨rfl, rfl, rfl, by simp [World.setRow], fun k hk hne => hoth k hk (fun e => hne (by rw [e]))⟩
          exact F.b.grown hg2 F.b.size (fun j hj => by cases hj; exact hbg)
        · intro j g' t' cs' hj
          have hne : g' ≠ g := fun e => N j g' t' cs' hj (by simp [Value.ownBlock, e])
          exact (hoth g' (F.box j g' t' cs' hj).lt hne).trans (F.box j g' t' cs' hj)
      · refine ⟨by rw [List.length_append, R.len]; simp; omega, .inr ⟨g, cap, _, rfl, hbg, hset, hroom, hcm, ?_, ?_, ?_⟩⟩
        · have hxl := R.len
          simp only [List.size_toArray, List.length_append, List.length_drop, Array.length_toList]
          simp at hfit ⊢
          omega
        · have hxl : (xs ++ [x, y, z]).length = (n + 1) * 3 := by rw [List.length_append, R.len]; simp; omega
          rw [← hxl]
          exact List.take_left
        · show (xs ++ [x, y, z] ++ cur.toList.drop (n * 3 + ([x, y, z] : List Value).length)).all nlB = true
          rw [List.all_append, List.all_append, hl, ← htake, nlL_take hnl, nlL_drop hnl]; rfl
      · intro j g' t' cs' hj he
        simp [Value.ownBlock] at he
        exact N j g' t' cs' hj (by simp [Value.ownBlock, he])
      · exact Kp.blocks hg hnl hoth
    · have holds : ∀ j u, xs[j]? = some u → w.cell? ((⟨g, 0, none⟩ : Addr).add j) = some u := by
        intro j u hu
        have hadd : (⟨g, 0, none⟩ : Addr).add j = ⟨g, j, none⟩ := by unfold Addr.add; split <;> simp_all
        rw [hadd, hg.cell j]
        rw [← htake, List.getElem?_take] at hu
        split at hu
        · simpa using hu
        · cases hu
      have hr := run_append_grow (P := P) w t ty 42 i _ ht hi hz ⟨g, 0, none⟩ n cap xs (by rw [R.len, hsize]) holds a 1 c [x, y, z] hl0 hnews (by omega) (by omega) (growslice_fits (by omega) (by have := Nat.mul_le_mul (show n + 1 ≤ 1001 by omega) hby; omega))
      have hge := grownCap_ge w (n + 1) cap 42
      have hcm2 := grownCap_le_maxLen w (n + 1) cap 42 hsm
      refine ⟨_, _, hr, ?_⟩
      have hxl : (xs ++ [x, y, z]).length = (n + 1) * 3 := by rw [List.length_append, R.len]; simp; omega
      have := fresh (xs.toArray ++ ([x, y, z] : List Value).toArray ++ Builtin.zeroCells (Value.agg #[.bool false, .slice none 0 0, .int .i64 0]).cells (grownCap w (n + 1) cap 42 - (n + 1))) (grownCap w (n + 1) cap 42) hge hcm2
        (by rw [hzc]; simp only [Array.size_append, List.size_toArray, size_zeroCells, R.len]; simp; omega)
        (by rw [hzc]; simp only [Array.toList_append]; rw [show (xs.toArray.toList ++ ([x, y, z] : List Value).toArray.toList) = xs ++ [x, y, z] by simp, ← hxl]; exact List.take_left)
        (nlA_append (nlA_append (by show xs.all nlB = true; rw [← htake]; exact nlL_take hnl _) (by exact hl)) (by rw [hzc]; exact nlA_zero _))
      exact this

theorem wpList_app3 {P : Program} {w0 w : World} {ops : Array Oper} {rest : List Oper} {o : Oper} {a : Act} {Q : Exit → Act → World → Prop} (hgd : o.guard = none) (s x : Operand) (t : TypeId)
    (ho : o.op = .call { callee := .builtin .append, args := #[s, x], argTypes := #[t, t] })
    (ht : P.underlying t = some (.slice 42)) (hi : (P.info? 42).map (fun i => (i.zero, i.size, i.bytes)) = some (some (.agg #[.bool false, .slice none 0 0, .int .i64 0]), 3, 40))
    {bs : List (Nat × TypeId × Array Value)} {v : Value} {n : Nat} {xs : List Value} (F : Fx w0 w bs) (R : Rw w0 w v n xs) (N : Rn bs v) (hs : a.eval s = v) (c : Nat) (x1 x2 x3 : Value) (hx : a.eval x = .slice (some ⟨w.heap.size, 0, none⟩) 1 c)
    (h1 : ∀ u ∈ [x1, x2, x3], u.oneCell' = true) (hl : [x1, x2, x3].all nlB = true) (hn : n ≤ 1000)
    (h : ∀ v' w', Fx w0 w' bs → Rw w0 w' v' (n + 1) (xs ++ [x1, x2, x3]) → Rn bs v' → Kp w w' → wpList P ops Q rest (a.put o.dst v') w') :
    wpList P ops Q (o :: rest) a (w.alloc (.cells #[x1, x2, x3] 42)) := by
  obtain ⟨i0, hi, hz0, hz1, hz2⟩ := info_parts hi
  refine wpList_plain hgd fun K hK => ?_
  have hcell : ∀ j u, [x1, x2, x3][j]? = some u → (w.alloc (.cells #[x1, x2, x3] 42)).cell? ((⟨w.heap.size, 0, none⟩ : Addr).add j) = some u := by
    intro j u hu
    have hadd : (⟨w.heap.size, 0, none⟩ : Addr).add j = ⟨w.heap.size, j, none⟩ := by unfold Addr.add; split <;> simp_all
    rw [hadd, (Blk.new w 42 #[x1, x2, x3]).cell j]
    simpa using hu
  obtain ⟨v', w', hr, h2, h3, h4, h5⟩ := run_app3 (P := P) (F.alloc (.cells #[x1, x2, x3] 42)) (R.alloc _) N t o.type i0 ht hi hz0 hz1 (by omega) ⟨w.heap.size, 0, none⟩ c x1 x2 x3 hcell h1 hl hn
  unfold Oper.wp execOp
  simp only [ho, resolve, invoke, builtin, Sem.run_bind, Sem.run_pure, Result.andThen_ok, List.map_toArray, List.map_cons, List.map_nil, hs, hx, hr]
  exact hK _ _ (h v' w' h2 h3 h4 ((Kp.alloc _ _).trans h5))

end Go.Proofs.YtobpioceopfkpaaGreatDoor

/-
  slices.MinFunc, slices.MaxFunc of four numbers. Printed by gen_ib.py.
-/
namespace Go.Proofs.YtobpioceopfkpaaGreatDoor
open Go.RowKit

def lessD (x m : Dn) : Dn := if CmpD x m < 0 then x else m
def moreD (x m : Dn) : Dn := if 0 < CmpD x m then x else m
def min4 (a b c d : Dn) : Dn := lessD d (lessD c (lessD b a))
def max4 (a b c d : Dn) : Dn := moreD d (moreD c (moreD b a))
/-- four numbers in a row -/
def Q4 (w : World) (v : Value) (p q r s : Dn) : Prop := ∃ g cap a1 k1 c1 a2 k2 c2 a3 k3 c3 a4 k4 c4, v = .slice (some ⟨g, 0, none⟩) 4 cap ∧
  (w.cell? ⟨g, 0, none⟩ = some (.bool p.neg) ∧ w.cell? ⟨g, 1, none⟩ = some (.slice a1 k1 c1) ∧ w.cell? ⟨g, 2, none⟩ = some (.int .i64 p.e)) ∧
  (w.cell? ⟨g, 3, none⟩ = some (.bool q.neg) ∧ w.cell? ⟨g, 4, none⟩ = some (.slice a2 k2 c2) ∧ w.cell? ⟨g, 5, none⟩ = some (.int .i64 q.e)) ∧
  (w.cell? ⟨g, 6, none⟩ = some (.bool r.neg) ∧ w.cell? ⟨g, 7, none⟩ = some (.slice a3 k3 c3) ∧ w.cell? ⟨g, 8, none⟩ = some (.int .i64 r.e)) ∧
  (w.cell? ⟨g, 9, none⟩ = some (.bool s.neg) ∧ w.cell? ⟨g, 10, none⟩ = some (.slice a4 k4 c4) ∧ w.cell? ⟨g, 11, none⟩ = some (.int .i64 s.e)) ∧
  Cy w (.agg #[.bool p.neg, .slice a1 k1 c1, .int .i64 p.e]) p ∧ Cy w (.agg #[.bool q.neg, .slice a2 k2 c2, .int .i64 q.e]) q ∧
  Cy w (.agg #[.bool r.neg, .slice a3 k3 c3, .int .i64 r.e]) r ∧ Cy w (.agg #[.bool s.neg, .slice a4 k4 c4, .int .i64 s.e]) s
theorem cells_below {w0 w : World} (hb : Below w0.heap.size w0 w) {g a b c : Nat} {x y z : Value} (h : w0.cell? ⟨g, a, none⟩ = some x ∧ w0.cell? ⟨g, b, none⟩ = some y ∧ w0.cell? ⟨g, c, none⟩ = some z) :
    w.cell? ⟨g, a, none⟩ = some x ∧ w.cell? ⟨g, b, none⟩ = some y ∧ w.cell? ⟨g, c, none⟩ = some z :=
  ⟨cell_below hb (Nat.le_refl _) h.1, cell_below hb (Nat.le_refl _) h.2.1, cell_below hb (Nat.le_refl _) h.2.2⟩

def minK (p q r s : Dn) : Nat → Dn
  | 0 => p
  | 1 => p
  | 2 => lessD q p
  | 3 => lessD r (lessD q p)
  | _ => min4 p q r s
def maxK (p q r s : Dn) : Nat → Dn
  | 0 => p
  | 1 => p
  | 2 => moreD q p
  | 3 => moreD r (moreD q p)
  | _ => max4 p q r s

set_option maxRecDepth 100000 in
set_option maxHeartbeats 4000000 in
theorem Min4_r {w : World} {u : Value} {p q r s : Dn} (hu : Q4 w u p q r s) : Calls Tryz.prog 179 #[u, .func (.func 17) #[] #[]] w (RetC (min4 p q r s) w) := by
  obtain ⟨g, cap, a1, k1, c1, a2, k2, c2, a3, k3, c3, a4, k4, c4, rfl, h1, h2, h3, h4, y1, y2, y3, y4⟩ := hu
  have H1 := Lib.hid h1
  have H2 := Lib.hid h2
  have H3 := Lib.hid h3
  have H4 := Lib.hid h4
  have Y1 := Lib.hid y1
  have Y2 := Lib.hid y2
  have Y3 := Lib.hid y3
  have Y4 := Lib.hid y4
  have K1 : Hid (minK p q r s 1 = p) := rfl
  have K2 : Hid (minK p q r s 2 = lessD q (minK p q r s 1)) := rfl
  have K3 : Hid (minK p q r s 3 = lessD r (minK p q r s 2)) := rfl
  have K4 : Hid (minK p q r s 4 = lessD s (minK p q r s 3)) := rfl
  have KE : Hid (minK p q r s 4 = min4 p q r s) := rfl
  generalize min4 p q r s = R at *
  generalize minK p q r s = f at *
  clear h1 h2 h3 h4 y1 y2 y3 y4
  obtain ⟨pn, pm, pe⟩ := p
  obtain ⟨qn, qm, qe⟩ := q
  obtain ⟨rn, rm, re⟩ := r
  obtain ⟨sn, sm, se⟩ := s
  obtain ⟨zn, zm, ze⟩ := R
  simp only at H1 H2 H3 H4 Y1 Y2 Y3 Y4
  go_enter Tryz.func179, Tryz.ntmps179
  have F0 := Lib.hid (Fx.one w 42 #[.bool false, .slice none 0 0, .int .i64 0] rfl)
  go_upto_region 3 with (fail)
  generalize World.alloc _ _ = w0 at F0 ⊢
  have c0_0 := F0.out.c3 0 rfl
  have x1 := cells_below F0.out.b H1.out
  go_wp2
  clear x1
  clear c0_0
  have F1 := Lib.hid (F0.out.new 42 #[.bool pn, .slice a1 k1 c1, .int .i64 pe] rfl)
  clear F0
  obtain ⟨g5, hg5⟩ : ∃ g, g = (World.heap w0).size := ⟨_, rfl⟩
  rw [← hg5] at F1 ⊢
  clear hg5
  simp only [List.nil_append, List.cons_append] at F1
  generalize World.alloc w0 _ = W1 at F1 ⊢
  have c0_1 := F1.out.c3 0 rfl
  have c1_1 := F1.out.c3 1 rfl
  have M1 := Lib.hid (Cy.below Y1.out F1.out.b)
  go_loopw [6] (fun iv wr => ∃ (k : Nat) (mn : Bool) (mm : Nat) (me : Int) (a : Option Addr) (k' c : Nat), iv = .int .i64 (k : Int) ∧ 1 ≤ k ∧ k ≤ 4 ∧ Hid (Fx w wr [(w.heap.size, 42, #[.bool false, .slice none 0 0, .int .i64 0]), (g5, 42, #[.bool mn, .slice a k' c, .int .i64 me])]) ∧ Hid (Cy wr (.agg #[.bool mn, .slice a k' c, .int .i64 me]) ⟨mn, mm, me⟩) ∧ Hid (f k = ⟨mn, mm, me⟩)) (fun i _ => (5 - intOf i).toNat)
  case atStart => exact ⟨1, _, _, _, _, _, _, rfl, by decide, by decide, F1, M1, K1⟩
  case round =>
    clear c0_1 c1_1
    clear F1 M1 K1
    obtain ⟨k, mn, mm, me, a, k', c, rfl, hk1, hk2, hF, hM, hE⟩ := hrel
    rcases (by omega : k = 1 ∨ k = 2 ∨ k = 3 ∨ k = 4) with rfl | rfl | rfl | rfl
    · have HN : Hid (f 2 = lessD ⟨qn, qm, qe⟩ ⟨mn, mm, me⟩) := by have h := K2.out; rw [hE.out] at h; exact h
      have CC := Lib.hid (fun w u v (h : Cy w u ⟨qn, qm, qe⟩) (k : Cy w v ⟨mn, mm, me⟩) => Cmp_d h.ry k.ry)
      have HL : Hid (lessD ⟨qn, qm, qe⟩ ⟨mn, mm, me⟩ = if CmpD ⟨qn, qm, qe⟩ ⟨mn, mm, me⟩ < 0 then ⟨qn, qm, qe⟩ else ⟨mn, mm, me⟩) := rfl
      generalize CmpD ⟨qn, qm, qe⟩ ⟨mn, mm, me⟩ = cc at *
      clear hE hk1 hk2
      have x1 := cells_below hF.out.b H2.out
      have b1 := hF.out.c3 1 rfl
      go_upto_region 7 with (fail)
      clear x1 b1
      have FC := Lib.hid (And.intro (cells_below hF.out.b H2.out) (hF.out.c3 1 rfl).1)
      have FX := Lib.hid (Cy.below Y2.out hF.out.b)
      go_region_held3 (fun w' => (w'.cell? ⟨g, 3, none⟩ = some (.bool qn) ∧ w'.cell? ⟨g, 4, none⟩ = some (.slice a2 k2 c2) ∧ w'.cell? ⟨g, 5, none⟩ = some (.int .i64 qe)) ∧ (w'.cell? ⟨g5, 0, none⟩ = some (.bool mn) ∧ w'.cell? ⟨g5, 1, none⟩ = some (.slice a k' c) ∧ w'.cell? ⟨g5, 2, none⟩ = some (.int .i64 me))) (first | exact FC.out) (first | (go_at_call 17; (with_reducible refine (CC.out _ _ _ (FX.out.drew) (hM.out.drew)).mono ?_); rintro qq ww1 ⟨rfl, hb⟩; have G1 := Lib.hid (hF.out.drew.call hb); have M1 := Lib.hid (hM.out.drew.below hb); have X1 := Lib.hid (FX.out.drew.below hb); have FC := Lib.hid (And.intro (cells_below G1.out.b H2.out) (G1.out.c3 1 rfl).1); clear hb))
      have x1 := cells_below G1.out.b H2.out
      have b1 := G1.out.c3 1 rfl
      by_cases hc : cc < 0
      · have z1 : decide (cc < 0) = true := decide_eq_true hc
        have HN2 : Hid (f 2 = ⟨qn, qm, qe⟩) := HN.out.trans (HL.out.trans (if_pos hc))
        have hc2 : ¬ 0 ≤ cc := by omega
        clear HN HL
        go_wp2_with fail
        obtain ⟨f1, p1⟩ := G1.out.s3 1 rfl (.bool qn) (.slice a2 k2 c2) (.int .i64 qe) rfl rfl rfl
        clear x1 b1
        generalize World.setCell (World.setCell (World.setCell _ _ _) _ _) _ _ = W at f1 p1 ⊢
        have F1 := Lib.hid f1
        have X2 := Lib.hid (X1.out.kp p1)
        clear f1 p1
        go_roundw
        case rel => exact ⟨2, _, _, _, _, _, _, rfl, by decide, by decide, F1, X2, HN2⟩
        case measure => simp [intOf]
      · have z1 : decide (cc < 0) = false := decide_eq_false hc
        have HN2 : Hid (f 2 = ⟨mn, mm, me⟩) := HN.out.trans (HL.out.trans (if_neg hc))
        have hc2 : 0 ≤ cc := by omega
        clear HN HL
        go_wp2_with fail
        go_roundw
        case rel => exact ⟨2, _, _, _, _, _, _, rfl, by decide, by decide, G1, M1, HN2⟩
        case measure => simp [intOf]
    · have HN : Hid (f 3 = lessD ⟨rn, rm, re⟩ ⟨mn, mm, me⟩) := by have h := K3.out; rw [hE.out] at h; exact h
      have CC := Lib.hid (fun w u v (h : Cy w u ⟨rn, rm, re⟩) (k : Cy w v ⟨mn, mm, me⟩) => Cmp_d h.ry k.ry)
      have HL : Hid (lessD ⟨rn, rm, re⟩ ⟨mn, mm, me⟩ = if CmpD ⟨rn, rm, re⟩ ⟨mn, mm, me⟩ < 0 then ⟨rn, rm, re⟩ else ⟨mn, mm, me⟩) := rfl
      generalize CmpD ⟨rn, rm, re⟩ ⟨mn, mm, me⟩ = cc at *
      clear hE hk1 hk2
      have x1 := cells_below hF.out.b H3.out
      have b1 := hF.out.c3 1 rfl
      go_upto_region 7 with (fail)
      clear x1 b1
      have FC := Lib.hid (And.intro (cells_below hF.out.b H3.out) (hF.out.c3 1 rfl).1)
      have FX := Lib.hid (Cy.below Y3.out hF.out.b)
      go_region_held3 (fun w' => (w'.cell? ⟨g, 6, none⟩ = some (.bool rn) ∧ w'.cell? ⟨g, 7, none⟩ = some (.slice a3 k3 c3) ∧ w'.cell? ⟨g, 8, none⟩ = some (.int .i64 re)) ∧ (w'.cell? ⟨g5, 0, none⟩ = some (.bool mn) ∧ w'.cell? ⟨g5, 1, none⟩ = some (.slice a k' c) ∧ w'.cell? ⟨g5, 2, none⟩ = some (.int .i64 me))) (first | exact FC.out) (first | (go_at_call 17; (with_reducible refine (CC.out _ _ _ (FX.out.drew) (hM.out.drew)).mono ?_); rintro qq ww1 ⟨rfl, hb⟩; have G1 := Lib.hid (hF.out.drew.call hb); have M1 := Lib.hid (hM.out.drew.below hb); have X1 := Lib.hid (FX.out.drew.below hb); have FC := Lib.hid (And.intro (cells_below G1.out.b H3.out) (G1.out.c3 1 rfl).1); clear hb))
      have x1 := cells_below G1.out.b H3.out
      have b1 := G1.out.c3 1 rfl
      by_cases hc : cc < 0
      · have z1 : decide (cc < 0) = true := decide_eq_true hc
        have HN2 : Hid (f 3 = ⟨rn, rm, re⟩) := HN.out.trans (HL.out.trans (if_pos hc))
        have hc2 : ¬ 0 ≤ cc := by omega
        clear HN HL
        go_wp2_with fail
        obtain ⟨f1, p1⟩ := G1.out.s3 1 rfl (.bool rn) (.slice a3 k3 c3) (.int .i64 re) rfl rfl rfl
        clear x1 b1
        generalize World.setCell (World.setCell (World.setCell _ _ _) _ _) _ _ = W at f1 p1 ⊢
        have F1 := Lib.hid f1
        have X2 := Lib.hid (X1.out.kp p1)
        clear f1 p1
        go_roundw
        case rel => exact ⟨3, _, _, _, _, _, _, rfl, by decide, by decide, F1, X2, HN2⟩
        case measure => simp [intOf]
      · have z1 : decide (cc < 0) = false := decide_eq_false hc
        have HN2 : Hid (f 3 = ⟨mn, mm, me⟩) := HN.out.trans (HL.out.trans (if_neg hc))
        have hc2 : 0 ≤ cc := by omega
        clear HN HL
        go_wp2_with fail
        go_roundw
        case rel => exact ⟨3, _, _, _, _, _, _, rfl, by decide, by decide, G1, M1, HN2⟩
        case measure => simp [intOf]
    · have HN : Hid (f 4 = lessD ⟨sn, sm, se⟩ ⟨mn, mm, me⟩) := by have h := K4.out; rw [hE.out] at h; exact h
      have CC := Lib.hid (fun w u v (h : Cy w u ⟨sn, sm, se⟩) (k : Cy w v ⟨mn, mm, me⟩) => Cmp_d h.ry k.ry)
      have HL : Hid (lessD ⟨sn, sm, se⟩ ⟨mn, mm, me⟩ = if CmpD ⟨sn, sm, se⟩ ⟨mn, mm, me⟩ < 0 then ⟨sn, sm, se⟩ else ⟨mn, mm, me⟩) := rfl
      generalize CmpD ⟨sn, sm, se⟩ ⟨mn, mm, me⟩ = cc at *
      clear hE hk1 hk2
      have x1 := cells_below hF.out.b H4.out
      have b1 := hF.out.c3 1 rfl
      go_upto_region 7 with (fail)
      clear x1 b1
      have FC := Lib.hid (And.intro (cells_below hF.out.b H4.out) (hF.out.c3 1 rfl).1)
      have FX := Lib.hid (Cy.below Y4.out hF.out.b)
      go_region_held3 (fun w' => (w'.cell? ⟨g, 9, none⟩ = some (.bool sn) ∧ w'.cell? ⟨g, 10, none⟩ = some (.slice a4 k4 c4) ∧ w'.cell? ⟨g, 11, none⟩ = some (.int .i64 se)) ∧ (w'.cell? ⟨g5, 0, none⟩ = some (.bool mn) ∧ w'.cell? ⟨g5, 1, none⟩ = some (.slice a k' c) ∧ w'.cell? ⟨g5, 2, none⟩ = some (.int .i64 me))) (first | exact FC.out) (first | (go_at_call 17; (with_reducible refine (CC.out _ _ _ (FX.out.drew) (hM.out.drew)).mono ?_); rintro qq ww1 ⟨rfl, hb⟩; have G1 := Lib.hid (hF.out.drew.call hb); have M1 := Lib.hid (hM.out.drew.below hb); have X1 := Lib.hid (FX.out.drew.below hb); have FC := Lib.hid (And.intro (cells_below G1.out.b H4.out) (G1.out.c3 1 rfl).1); clear hb))
      have x1 := cells_below G1.out.b H4.out
      have b1 := G1.out.c3 1 rfl
      by_cases hc : cc < 0
      · have z1 : decide (cc < 0) = true := decide_eq_true hc
        have HN2 : Hid (f 4 = ⟨sn, sm, se⟩) := HN.out.trans (HL.out.trans (if_pos hc))
        have hc2 : ¬ 0 ≤ cc := by omega
        clear HN HL
        go_wp2_with fail
        obtain ⟨f1, p1⟩ := G1.out.s3 1 rfl (.bool sn) (.slice a4 k4 c4) (.int .i64 se) rfl rfl rfl
        clear x1 b1
        generalize World.setCell (World.setCell (World.setCell _ _ _) _ _) _ _ = W at f1 p1 ⊢
        have F1 := Lib.hid f1
        have X2 := Lib.hid (X1.out.kp p1)
        clear f1 p1
        go_roundw
        case rel => exact ⟨4, _, _, _, _, _, _, rfl, by decide, by decide, F1, X2, HN2⟩
        case measure => simp [intOf]
      · have z1 : decide (cc < 0) = false := decide_eq_false hc
        have HN2 : Hid (f 4 = ⟨mn, mm, me⟩) := HN.out.trans (HL.out.trans (if_neg hc))
        have hc2 : 0 ≤ cc := by omega
        clear HN HL
        go_wp2_with fail
        go_roundw
        case rel => exact ⟨4, _, _, _, _, _, _, rfl, by decide, by decide, G1, M1, HN2⟩
        case measure => simp [intOf]
    · have HN := Lib.hid (KE.out.symm.trans hE.out)
      clear hE hk1 hk2 KE K2 K3 K4
      have b0 := hF.out.c3 0 rfl
      have b1 := hF.out.c3 1 rfl
      go_wp2
      obtain ⟨f0, p0⟩ := hF.out.s3 0 rfl (.bool mn) (.slice a k' c) (.int .i64 me) rfl rfl rfl
      have p := p0
      have f := f0
      clear f0 p0
      generalize (World.setCell (World.setCell (World.setCell _ _ _) _ _) _ _) = W at f p ⊢
      have g0 := f.c3 0 rfl
      refine bodyPost_ret (v := .agg #[.bool mn, .slice a k' c, .int .i64 me]) (by simp [results, Tryz.results179, go_sem, g0]) rfl ?_
      rw [HN.out]
      exact ⟨_, rfl, hM.out.kp p, f.b⟩

set_option maxRecDepth 100000 in
set_option maxHeartbeats 4000000 in
theorem Max4_r {w : World} {u : Value} {p q r s : Dn} (hu : Q4 w u p q r s) : Calls Tryz.prog 180 #[u, .func (.func 17) #[] #[]] w (RetC (max4 p q r s) w) := by
  obtain ⟨g, cap, a1, k1, c1, a2, k2, c2, a3, k3, c3, a4, k4, c4, rfl, h1, h2, h3, h4, y1, y2, y3, y4⟩ := hu
  have H1 := Lib.hid h1
  have H2 := Lib.hid h2
  have H3 := Lib.hid h3
  have H4 := Lib.hid h4
  have Y1 := Lib.hid y1
  have Y2 := Lib.hid y2
  have Y3 := Lib.hid y3
  have Y4 := Lib.hid y4
  have K1 : Hid (maxK p q r s 1 = p) := rfl
  have K2 : Hid (maxK p q r s 2 = moreD q (maxK p q r s 1)) := rfl
  have K3 : Hid (maxK p q r s 3 = moreD r (maxK p q r s 2)) := rfl
  have K4 : Hid (maxK p q r s 4 = moreD s (maxK p q r s 3)) := rfl
  have KE : Hid (maxK p q r s 4 = max4 p q r s) := rfl
  generalize max4 p q r s = R at *
  generalize maxK p q r s = f at *
  clear h1 h2 h3 h4 y1 y2 y3 y4
  obtain ⟨pn, pm, pe⟩ := p
  obtain ⟨qn, qm, qe⟩ := q
  obtain ⟨rn, rm, re⟩ := r
  obtain ⟨sn, sm, se⟩ := s
  obtain ⟨zn, zm, ze⟩ := R
  simp only at H1 H2 H3 H4 Y1 Y2 Y3 Y4
  go_enter Tryz.func180, Tryz.ntmps180
  have F0 := Lib.hid (Fx.one w 42 #[.bool false, .slice none 0 0, .int .i64 0] rfl)
  go_upto_region 3 with (fail)
  generalize World.alloc _ _ = w0 at F0 ⊢
  have c0_0 := F0.out.c3 0 rfl
  have x1 := cells_below F0.out.b H1.out
  go_wp2
  clear x1
  clear c0_0
  have F1 := Lib.hid (F0.out.new 42 #[.bool pn, .slice a1 k1 c1, .int .i64 pe] rfl)
  clear F0
  obtain ⟨g5, hg5⟩ : ∃ g, g = (World.heap w0).size := ⟨_, rfl⟩
  rw [← hg5] at F1 ⊢
  clear hg5
  simp only [List.nil_append, List.cons_append] at F1
  generalize World.alloc w0 _ = W1 at F1 ⊢
  have c0_1 := F1.out.c3 0 rfl
  have c1_1 := F1.out.c3 1 rfl
  have M1 := Lib.hid (Cy.below Y1.out F1.out.b)
  go_loopw [6] (fun iv wr => ∃ (k : Nat) (mn : Bool) (mm : Nat) (me : Int) (a : Option Addr) (k' c : Nat), iv = .int .i64 (k : Int) ∧ 1 ≤ k ∧ k ≤ 4 ∧ Hid (Fx w wr [(w.heap.size, 42, #[.bool false, .slice none 0 0, .int .i64 0]), (g5, 42, #[.bool mn, .slice a k' c, .int .i64 me])]) ∧ Hid (Cy wr (.agg #[.bool mn, .slice a k' c, .int .i64 me]) ⟨mn, mm, me⟩) ∧ Hid (f k = ⟨mn, mm, me⟩)) (fun i _ => (5 - intOf i).toNat)
  case atStart => exact ⟨1, _, _, _, _, _, _, rfl, by decide, by decide, F1, M1, K1⟩
  case round =>
    clear c0_1 c1_1
    clear F1 M1 K1
    obtain ⟨k, mn, mm, me, a, k', c, rfl, hk1, hk2, hF, hM, hE⟩ := hrel
    rcases (by omega : k = 1 ∨ k = 2 ∨ k = 3 ∨ k = 4) with rfl | rfl | rfl | rfl
    · have HN : Hid (f 2 = moreD ⟨qn, qm, qe⟩ ⟨mn, mm, me⟩) := by have h := K2.out; rw [hE.out] at h; exact h
      have CC := Lib.hid (fun w u v (h : Cy w u ⟨qn, qm, qe⟩) (k : Cy w v ⟨mn, mm, me⟩) => Cmp_d h.ry k.ry)
      have HL : Hid (moreD ⟨qn, qm, qe⟩ ⟨mn, mm, me⟩ = if 0 < CmpD ⟨qn, qm, qe⟩ ⟨mn, mm, me⟩ then ⟨qn, qm, qe⟩ else ⟨mn, mm, me⟩) := rfl
      generalize CmpD ⟨qn, qm, qe⟩ ⟨mn, mm, me⟩ = cc at *
      clear hE hk1 hk2
      have x1 := cells_below hF.out.b H2.out
      have b1 := hF.out.c3 1 rfl
      go_upto_region 7 with (fail)
      clear x1 b1
      have FC := Lib.hid (And.intro (cells_below hF.out.b H2.out) (hF.out.c3 1 rfl).1)
      have FX := Lib.hid (Cy.below Y2.out hF.out.b)
      go_region_held3 (fun w' => (w'.cell? ⟨g, 3, none⟩ = some (.bool qn) ∧ w'.cell? ⟨g, 4, none⟩ = some (.slice a2 k2 c2) ∧ w'.cell? ⟨g, 5, none⟩ = some (.int .i64 qe)) ∧ (w'.cell? ⟨g5, 0, none⟩ = some (.bool mn) ∧ w'.cell? ⟨g5, 1, none⟩ = some (.slice a k' c) ∧ w'.cell? ⟨g5, 2, none⟩ = some (.int .i64 me))) (first | exact FC.out) (first | (go_at_call 17; (with_reducible refine (CC.out _ _ _ (FX.out.drew) (hM.out.drew)).mono ?_); rintro qq ww1 ⟨rfl, hb⟩; have G1 := Lib.hid (hF.out.drew.call hb); have M1 := Lib.hid (hM.out.drew.below hb); have X1 := Lib.hid (FX.out.drew.below hb); have FC := Lib.hid (And.intro (cells_below G1.out.b H2.out) (G1.out.c3 1 rfl).1); clear hb))
      have x1 := cells_below G1.out.b H2.out
      have b1 := G1.out.c3 1 rfl
      by_cases hc : 0 < cc
      · have z1 : decide (0 < cc) = true := decide_eq_true hc
        have HN2 : Hid (f 2 = ⟨qn, qm, qe⟩) := HN.out.trans (HL.out.trans (if_pos hc))
        have hc2 : ¬ cc ≤ 0 := by omega
        clear HN HL
        go_wp2_with fail
        obtain ⟨f1, p1⟩ := G1.out.s3 1 rfl (.bool qn) (.slice a2 k2 c2) (.int .i64 qe) rfl rfl rfl
        clear x1 b1
        generalize World.setCell (World.setCell (World.setCell _ _ _) _ _) _ _ = W at f1 p1 ⊢
        have F1 := Lib.hid f1
        have X2 := Lib.hid (X1.out.kp p1)
        clear f1 p1
        go_roundw
        case rel => exact ⟨2, _, _, _, _, _, _, rfl, by decide, by decide, F1, X2, HN2⟩
        case measure => simp [intOf]
      · have z1 : decide (0 < cc) = false := decide_eq_false hc
        have HN2 : Hid (f 2 = ⟨mn, mm, me⟩) := HN.out.trans (HL.out.trans (if_neg hc))
        have hc2 : cc ≤ 0 := by omega
        clear HN HL
        go_wp2_with fail
        go_roundw
        case rel => exact ⟨2, _, _, _, _, _, _, rfl, by decide, by decide, G1, M1, HN2⟩
        case measure => simp [intOf]
    · have HN : Hid (f 3 = moreD ⟨rn, rm, re⟩ ⟨mn, mm, me⟩) := by have h := K3.out; rw [hE.out] at h; exact h
      have CC := Lib.hid (fun w u v (h : Cy w u ⟨rn, rm, re⟩) (k : Cy w v ⟨mn, mm, me⟩) => Cmp_d h.ry k.ry)
      have HL : Hid (moreD ⟨rn, rm, re⟩ ⟨mn, mm, me⟩ = if 0 < CmpD ⟨rn, rm, re⟩ ⟨mn, mm, me⟩ then ⟨rn, rm, re⟩ else ⟨mn, mm, me⟩) := rfl
      generalize CmpD ⟨rn, rm, re⟩ ⟨mn, mm, me⟩ = cc at *
      clear hE hk1 hk2
      have x1 := cells_below hF.out.b H3.out
      have b1 := hF.out.c3 1 rfl
      go_upto_region 7 with (fail)
      clear x1 b1
      have FC := Lib.hid (And.intro (cells_below hF.out.b H3.out) (hF.out.c3 1 rfl).1)
      have FX := Lib.hid (Cy.below Y3.out hF.out.b)
      go_region_held3 (fun w' => (w'.cell? ⟨g, 6, none⟩ = some (.bool rn) ∧ w'.cell? ⟨g, 7, none⟩ = some (.slice a3 k3 c3) ∧ w'.cell? ⟨g, 8, none⟩ = some (.int .i64 re)) ∧ (w'.cell? ⟨g5, 0, none⟩ = some (.bool mn) ∧ w'.cell? ⟨g5, 1, none⟩ = some (.slice a k' c) ∧ w'.cell? ⟨g5, 2, none⟩ = some (.int .i64 me))) (first | exact FC.out) (first | (go_at_call 17; (with_reducible refine (CC.out _ _ _ (FX.out.drew) (hM.out.drew)).mono ?_); rintro qq ww1 ⟨rfl, hb⟩; have G1 := Lib.hid (hF.out.drew.call hb); have M1 := Lib.hid (hM.out.drew.below hb); have X1 := Lib.hid (FX.out.drew.below hb); have FC := Lib.hid (And.intro (cells_below G1.out.b H3.out) (G1.out.c3 1 rfl).1); clear hb))
      have x1 := cells_below G1.out.b H3.out
      have b1 := G1.out.c3 1 rfl
      by_cases hc : 0 < cc
      · have z1 : decide (0 < cc) = true := decide_eq_true hc
        have HN2 : Hid (f 3 = ⟨rn, rm, re⟩) := HN.out.trans (HL.out.trans (if_pos hc))
        have hc2 : ¬ cc ≤ 0 := by omega
        clear HN HL
        go_wp2_with fail
        obtain ⟨f1, p1⟩ := G1.out.s3 1 rfl (.bool rn) (.slice a3 k3 c3) (.int .i64 re) rfl rfl rfl
        clear x1 b1
        generalize World.setCell (World.setCell (World.setCell _ _ _) _ _) _ _ = W at f1 p1 ⊢
        have F1 := Lib.hid f1
        have X2 := Lib.hid (X1.out.kp p1)
        clear f1 p1
        go_roundw
        case rel => exact ⟨3, _, _, _, _, _, _, rfl, by decide, by decide, F1, X2, HN2⟩
        case measure => simp [intOf]
      · have z1 : decide (0 < cc) = false := decide_eq_false hc
        have HN2 : Hid (f 3 = ⟨mn, mm, me⟩) := HN.out.trans (HL.out.trans (if_neg hc))
        have hc2 : cc ≤ 0 := by omega
        clear HN HL
        go_wp2_with fail
        go_roundw
        case rel => exact ⟨3, _, _, _, _, _, _, rfl, by decide, by decide, G1, M1, HN2⟩
        case measure => simp [intOf]
    · have HN : Hid (f 4 = moreD ⟨sn, sm, se⟩ ⟨mn, mm, me⟩) := by have h := K4.out; rw [hE.out] at h; exact h
      have CC := Lib.hid (fun w u v (h : Cy w u ⟨sn, sm, se⟩) (k : Cy w v ⟨mn, mm, me⟩) => Cmp_d h.ry k.ry)
      have HL : Hid (moreD ⟨sn, sm, se⟩ ⟨mn, mm, me⟩ = if 0 < CmpD ⟨sn, sm, se⟩ ⟨mn, mm, me⟩ then ⟨sn, sm, se⟩ else ⟨mn, mm, me⟩) := rfl
      generalize CmpD ⟨sn, sm, se⟩ ⟨mn, mm, me⟩ = cc at *
      clear hE hk1 hk2
      have x1 := cells_below hF.out.b H4.out
      have b1 := hF.out.c3 1 rfl
      go_upto_region 7 with (fail)
      clear x1 b1
      have FC := Lib.hid (And.intro (cells_below hF.out.b H4.out) (hF.out.c3 1 rfl).1)
      have FX := Lib.hid (Cy.below Y4.out hF.out.b)
      go_region_held3 (fun w' => (w'.cell? ⟨g, 9, none⟩ = some (.bool sn) ∧ w'.cell? ⟨g, 10, none⟩ = some (.slice a4 k4 c4) ∧ w'.cell? ⟨g, 11, none⟩ = some (.int .i64 se)) ∧ (w'.cell? ⟨g5, 0, none⟩ = some (.bool mn) ∧ w'.cell? ⟨g5, 1, none⟩ = some (.slice a k' c) ∧ w'.cell? ⟨g5, 2, none⟩ = some (.int .i64 me))) (first | exact FC.out) (first | (go_at_call 17; (with_reducible refine (CC.out _ _ _ (FX.out.drew) (hM.out.drew)).mono ?_); rintro qq ww1 ⟨rfl, hb⟩; have G1 := Lib.hid (hF.out.drew.call hb); have M1 := Lib.hid (hM.out.drew.below hb); have X1 := Lib.hid (FX.out.drew.below hb); have FC := Lib.hid (And.intro (cells_below G1.out.b H4.out) (G1.out.c3 1 rfl).1); clear hb))
      have x1 := cells_below G1.out.b H4.out
      have b1 := G1.out.c3 1 rfl
      by_cases hc : 0 < cc
      · have z1 : decide (0 < cc) = true := decide_eq_true hc
        have HN2 : Hid (f 4 = ⟨sn, sm, se⟩) := HN.out.trans (HL.out.trans (if_pos hc))
        have hc2 : ¬ cc ≤ 0 := by omega
        clear HN HL
        go_wp2_with fail
        obtain ⟨f1, p1⟩ := G1.out.s3 1 rfl (.bool sn) (.slice a4 k4 c4) (.int .i64 se) rfl rfl rfl
        clear x1 b1
        generalize World.setCell (World.setCell (World.setCell _ _ _) _ _) _ _ = W at f1 p1 ⊢
        have F1 := Lib.hid f1
        have X2 := Lib.hid (X1.out.kp p1)
        clear f1 p1
        go_roundw
        case rel => exact ⟨4, _, _, _, _, _, _, rfl, by decide, by decide, F1, X2, HN2⟩
        case measure => simp [intOf]
      · have z1 : decide (0 < cc) = false := decide_eq_false hc
        have HN2 : Hid (f 4 = ⟨mn, mm, me⟩) := HN.out.trans (HL.out.trans (if_neg hc))
        have hc2 : cc ≤ 0 := by omega
        clear HN HL
        go_wp2_with fail
        go_roundw
        case rel => exact ⟨4, _, _, _, _, _, _, rfl, by decide, by decide, G1, M1, HN2⟩
        case measure => simp [intOf]
    · have HN := Lib.hid (KE.out.symm.trans hE.out)
      clear hE hk1 hk2 KE K2 K3 K4
      have b0 := hF.out.c3 0 rfl
      have b1 := hF.out.c3 1 rfl
      go_wp2
      obtain ⟨f0, p0⟩ := hF.out.s3 0 rfl (.bool mn) (.slice a k' c) (.int .i64 me) rfl rfl rfl
      have p := p0
      have f := f0
      clear f0 p0
      generalize (World.setCell (World.setCell (World.setCell _ _ _) _ _) _ _) = W at f p ⊢
      have g0 := f.c3 0 rfl
      refine bodyPost_ret (v := .agg #[.bool mn, .slice a k' c, .int .i64 me]) (by simp [results, Tryz.results180, go_sem, g0]) rfl ?_
      rw [HN.out]
      exact ⟨_, rfl, hM.out.kp p, f.b⟩


end Go.Proofs.YtobpioceopfkpaaGreatDoor
