/-
  A walk in a frame of an ordinary call, where one operation of a region may be a communication at a channel (a send with room; a select of one case with a default). Over any program.
-/
import Derived.Test.YtpofnljcjoplnaaBase
import Derived.Conc.LoneCalls
import Derived.Conc.LoneSelect
namespace Go.Proofs.Ytpofnljcjoplnaa
open Go.RowKit Go.Conc

/-- As 'Code.wp', of frames of ordinary calls alone. -/
def wpN (P : Program) (c : Code) (Q : Exit → Act → World → Prop) (a : Act) (w : World) : Prop :=
  ∀ (b : Frame) (k : List Item) (cs : List Frame), b.kind = .normal →
    ∃ e a' w', Q e a' w' ∧ Arrives P (lone (b.at a (.code c :: k)) cs w) b k cs e a' w'
/-- What is left of a region. -/
def opsN (P : Program) (ops : Array Oper) (Q : Exit → Act → World → Prop) (l : List Nat) (a : Act) (w : World) : Prop :=
  ∀ (b : Frame) (k : List Item) (cs : List Frame), b.kind = .normal →
    ∃ e a' w', Q e a' w' ∧ Arrives P (lone (b.at a (.inRegion ops l :: k)) cs w) b k cs e a' w'

section
variable {P : Program} {Q : Exit → Act → World → Prop} {a : Act} {w : World} {ops : Array Oper}

theorem wpN_of_wp {c : Code} (h : c.wp P Q a w) : wpN P c Q a w := fun b k cs _ => h b k cs

theorem wpN_seq {x y : Code} (h : ∀ K : Act → World → Prop, (∀ a w, wpN P y Q a w → K a w) → wpN P x (Exit.then K Q) a w) : wpN P (.seq x y) Q a w := by
  intro b k cs hn
  obtain ⟨e, a₁, w₁, hq, harr⟩ := h _ (fun _ _ h => h) b (.code y :: k) cs hn
  cases e with
  | normal =>
    obtain ⟨e₂, a₂, w₂, hq₂, harr₂⟩ := hq b k cs hn
    exact ⟨e₂, a₂, w₂, hq₂, .of_steps (.head step_seq harr) harr₂⟩
  | exit id => exact ⟨_, a₁, w₁, hq, .of_steps (.one step_seq) (.pass (x := .code y) rfl (fun _ _ => .inl (by simp)) harr)⟩
  | goto l => exact ⟨_, a₁, w₁, hq, .of_steps (.one step_seq) (.pass (x := .code y) rfl (fun _ _ => .inl (by simp)) harr)⟩
  | ret => exact ⟨_, a₁, w₁, hq, .of_steps (.one step_seq) (.pass (x := .code y) rfl (fun _ _ => .inl (by simp)) harr)⟩
  | panic ch => exact ⟨_, a₁, w₁, hq, .of_steps (.one step_seq) (.pass (x := .code y) rfl (fun _ _ => .inl (by simp)) harr)⟩
  | outgrown => exact ⟨_, a₁, w₁, hq, .of_steps (.one step_seq) (.pass (x := .code y) rfl (fun _ _ => .inl (by simp)) harr)⟩

/-- The first part has no communication. -/
theorem wpN_seq_wp {x y : Code} (h : ∀ K : Act → World → Prop, (∀ a w, wpN P y Q a w → K a w) → x.wp P (Exit.then K Q) a w) : wpN P (.seq x y) Q a w :=
  wpN_seq fun K hK => wpN_of_wp (h K hK)

theorem wpN_block {id : Nat} {c : Code} (h : wpN P c (Exit.inBlock id Q) a w) : wpN P (.block id c) Q a w := by
  intro b k cs hn
  obtain ⟨e, a₁, w₁, hq, harr⟩ := h b (.inBlock id :: k) cs hn
  cases e with
  | normal => exact ⟨.normal, a₁, w₁, hq, .head step_block (Steps.trans harr (.one step_inBlock))⟩
  | exit id' =>
    by_cases hid : id' = id
    · simp only [Exit.inBlock, hid, if_true] at hq
      exact ⟨.normal, a₁, w₁, hq, .head step_block (harr k (by simp [exitTo, hid]))⟩
    · simp only [Exit.inBlock, hid, if_false] at hq
      refine ⟨.exit id', a₁, w₁, hq, fun k' hk => .head step_block (harr k' ?_)⟩
      have : (id == id') = false := by simp; exact fun h => hid h.symm
      simp [exitTo, this, hk]
  | goto l => exact ⟨_, a₁, w₁, hq, fun k' hk => .head step_block (harr k' (by simp [gotoIn, hk]))⟩
  | ret => exact ⟨_, a₁, w₁, hq, .of_steps (.one step_block) harr⟩
  | panic ch => exact ⟨_, a₁, w₁, hq, .of_steps (.one step_block) harr⟩
  | outgrown => exact ⟨_, a₁, w₁, hq, .of_steps (b := b) (k := k) (cs := cs) (e := .outgrown) (.one step_block) harr⟩

theorem wpN_loop {c : Code} (I : Act → World → Prop) (μ : Act → World → Nat) (h₀ : I a w)
    (round : ∀ a w, I a w → ∀ K : Act → World → Prop, (∀ a' w', I a' w' ∧ μ a' w' < μ a w → K a' w') → wpN P c (Exit.then K Q) a w) : wpN P (.loop c) Q a w := by
  intro b k cs hnb
  have key : ∀ n a w, μ a w = n → I a w →
      ∃ e a' w', Q e a' w' ∧ Arrives P (lone (b.at a (.code c :: .inLoop c :: k)) cs w) b k cs e a' w' := by
    intro n
    induction n using Nat.strongRecOn with
    | _ n ih =>
      intro a w hn hI
      obtain ⟨e, a₁, w₁, hq, harr⟩ := round a w hI _ (fun _ _ h => h) b (.inLoop c :: k) cs hnb
      cases e with
      | normal =>
        obtain ⟨hI₁, hlt⟩ := hq
        obtain ⟨e₂, a₂, w₂, hq₂, harr₂⟩ := ih (μ a₁ w₁) (hn ▸ hlt) a₁ w₁ rfl hI₁
        exact ⟨e₂, a₂, w₂, hq₂, .of_steps (Steps.trans harr (.one step_inLoop)) harr₂⟩
      | exit id => exact ⟨_, a₁, w₁, hq, .pass (x := .inLoop c) rfl (fun _ _ => .inl (by simp)) harr⟩
      | goto l => exact ⟨_, a₁, w₁, hq, .pass (x := .inLoop c) rfl (fun _ _ => .inl (by simp)) harr⟩
      | ret => exact ⟨_, a₁, w₁, hq, .pass (x := .inLoop c) rfl (fun _ _ => .inl (by simp)) harr⟩
      | panic ch => exact ⟨_, a₁, w₁, hq, .pass (x := .inLoop c) rfl (fun _ _ => .inl (by simp)) harr⟩
      | outgrown => exact ⟨_, a₁, w₁, hq, .pass (x := .inLoop c) rfl (fun _ _ => .inl (by simp)) harr⟩
  obtain ⟨e, a', w', hq, harr⟩ := key _ a w rfl h₀
  exact ⟨e, a', w', hq, .of_steps (.one step_loop) harr⟩

theorem wpN_region {id : Nat} (h : opsN P ops Q (List.range ops.size) a w) : wpN P (.region id ops false) Q a w :=
  fun b k cs hn => let ⟨e, a', w', q, r⟩ := h b k cs hn; ⟨e, a', w', q, .of_steps (.one step_region) r⟩

theorem opsN_nil (h : Q .normal a w) : opsN P ops Q [] a w := fun _ _ _ _ => ⟨.normal, a, w, h, .one step_region_end⟩

/-- What is left of the region holds no communication: the plain walk. -/
theorem opsN_rest (k : Nat) {l : List Nat} (hl : List.range' k (ops.size - k) = l) (h : wpList P ops Q (ops.toList.drop k) a w) : opsN P ops Q l a w := by
  subst hl
  have he := wpOps_eq_wpList (P := P) (ops := ops) (Q := Q) (ops.toList.drop k) k (fun j => by simp)
  rw [List.length_drop, Array.length_toList] at he
  rw [← he] at h
  exact fun b k' cs _ => wp_ops _ _ _ h b k' cs

/-- What is asked of an operation that comes to a value. -/
def valOnly (K : Value → World → Prop) : Result Next → Prop
  | .ok (.value v) w' => K v w'
  | _ => False
theorem valOnly_ok (K : Value → World → Prop) (v : Value) (w : World) : valOnly K (.ok (.value v) w) = K v w := rfl

theorem opsN_val {i : Nat} {rest : List Nat} {o : Oper} (ho : ops[i]? = some o) (hg : o.guard = none)
    (h : ∀ K : Value → World → Prop, (∀ v w', opsN P ops Q rest (a.put o.dst v) w' → K v w') → valOnly K ((execOp a.eval o).run P w)) : opsN P ops Q (i :: rest) a w := by
  intro b k cs hn
  have hw : Region.wanted o (yielded ops a.tmps) = true := by simp [Region.wanted, hg]
  have h := h _ (fun _ _ h => h)
  have hfin := fun v => Frame.finish_at b a ops i rest k v
  simp only [ho, Option.bind_some] at hfin
  have hst := stepG_op (P := P) (b := b) (k := k) (cs := cs) (w := w) (rest := rest) ho hw
  generalize hr : (execOp a.eval o).run P w = r at h
  cases r with
  | halt h' w' => exact h.elim
  | ok x w' =>
    cases x with
    | value v =>
      obtain ⟨e, a', w₂, hq, harr⟩ := h b k cs hn
      refine ⟨e, a', w₂, hq, .of_steps (.one (step_lone_go ?_)) harr⟩
      rw [hst]
      simp only [stepG.apply, Sem.runT_eq, hr, GStep.bare_after]
      exact congrArg (fun fr => GStep.go { frame := fr, callers := cs, status := .running, dying := none } w') (hfin v)
    | _ => exact h.elim

/-- A communication that comes about at once. -/
theorem opsN_step {i : Nat} {rest : List Nat} {o : Oper} {v : Value} {w' : World} (ho : ops[i]? = some o)
    (hs : ∀ (b : Frame) (k : List Item) (cs : List Frame), b.kind = .normal →
      step P (solo (G (b.at a (.inRegion ops (i :: rest) :: k)) cs) w) = .next (solo (G ((b.at a (.inRegion ops (i :: rest) :: k)).finish v) cs) w'))
    (h : opsN P ops Q rest (a.put o.dst v) w') : opsN P ops Q (i :: rest) a w := by
  intro b k cs hn
  obtain ⟨e, a', w₂, hq, harr⟩ := h b k cs hn
  have hfin := Frame.finish_at b a ops i rest k v
  simp only [ho, Option.bind_some] at hfin
  have := hs b k cs hn
  rw [hfin] at this
  exact ⟨e, a', w₂, hq, .of_steps (.one this) harr⟩

theorem not_early {b : Frame} (h : b.kind = .normal) : b.kind ≠ .early := by rw [h]; decide

variable {i : Nat} {rest : List Nat} {o : Oper} {c cap s r : Nat} {buf : Array Value} {z z' v : Value} {tm closed : Bool}

theorem opsN_send (ho : ops[i]? = some o) (hg : o.guard = none) (hr : (execOp a.eval o).run P w = .ok (.comm #[scase c v z'] true .send) w)
    (hc : w.heap[c]? = some (.chan cap buf false s r tm)) (hroom : buf.size < cap)
    (h : opsN P ops Q rest (a.put o.dst undef) (w.setChan c cap (buf.push v) false (s + 1) r tm)) : opsN P ops Q (i :: rest) a w :=
  opsN_step ho (fun _ _ _ hn => step_lone_send_room (stepG_comm ho (by simp [Region.wanted, hg]) (not_early hn) hr) hc hroom) h

theorem opsN_sel_recv (ho : ops[i]? = some o) (hg : o.guard = none) (hr : (execOp a.eval o).run P w = .ok (.comm #[rcase c z] false .select) w)
    (hc : w.heap[c]? = some (.chan cap buf closed s r tm)) (hsome : 0 < buf.size)
    (h : opsN P ops Q rest (a.put o.dst (.tuple #[goInt 0, .bool true, buf.getD 0 undef])) (w.setChan c cap (buf.extract 1 buf.size) closed s (r + 1) tm)) : opsN P ops Q (i :: rest) a w :=
  opsN_step ho (fun _ _ _ hn => step_lone_select_recv_buf (stepG_comm ho (by simp [Region.wanted, hg]) (not_early hn) hr) hc hsome) h

theorem opsN_sel_shut (ho : ops[i]? = some o) (hg : o.guard = none) (hr : (execOp a.eval o).run P w = .ok (.comm #[rcase c z] false .select) w)
    (hc : w.heap[c]? = some (.chan cap #[] true s r tm))
    (h : opsN P ops Q rest (a.put o.dst (.tuple #[goInt 0, .bool false, z])) w) : opsN P ops Q (i :: rest) a w :=
  opsN_step ho (fun _ _ _ hn => step_lone_select_recv_shut (stepG_comm ho (by simp [Region.wanted, hg]) (not_early hn) hr) hc) h

theorem opsN_sel_none (ho : ops[i]? = some o) (hg : o.guard = none) (hr : (execOp a.eval o).run P w = .ok (.comm #[rcase c z] false .select) w)
    (hc : w.heap[c]? = some (.chan cap #[] false s r tm))
    (h : opsN P ops Q rest (a.put o.dst (.tuple #[goInt (-1), .bool false, z])) w) : opsN P ops Q (i :: rest) a w :=
  opsN_step ho (fun _ _ _ hn => step_lone_select_default (stepG_comm ho (by simp [Region.wanted, hg]) (not_early hn) hr) hc) h

theorem opsN_sel_room (ho : ops[i]? = some o) (hg : o.guard = none) (hr : (execOp a.eval o).run P w = .ok (.comm #[scase c v z'] false .select) w)
    (hc : w.heap[c]? = some (.chan cap buf false s r tm)) (hroom : buf.size < cap)
    (h : opsN P ops Q rest (a.put o.dst (.tuple #[goInt 0, .bool false])) (w.setChan c cap (buf.push v) false (s + 1) r tm)) : opsN P ops Q (i :: rest) a w :=
  opsN_step ho (fun _ _ _ hn => step_lone_select_send_room (stepG_comm ho (by simp [Region.wanted, hg]) (not_early hn) hr) hc hroom) h

theorem opsN_sel_full (ho : ops[i]? = some o) (hg : o.guard = none) (hr : (execOp a.eval o).run P w = .ok (.comm #[scase c v z'] false .select) w)
    (hc : w.heap[c]? = some (.chan cap buf false s r tm)) (hfull : cap ≤ buf.size)
    (h : opsN P ops Q rest (a.put o.dst (.tuple #[goInt (-1), .bool false])) w) : opsN P ops Q (i :: rest) a w :=
  opsN_step ho (fun _ _ _ hn => step_lone_select_send_full (stepG_comm ho (by simp [Region.wanted, hg]) (not_early hn) hr) hc hfull) h
end

theorem calls_of_wpN {P : Program} {f : FuncId} {fn : Func} {c : Code} {args : Array Value} {w : World} {R : Ending → World → Prop}
    (hf : P.funcs[f]? = some fn) (hb : fn.body = some c)
    (h : wpN P c (bodyPost P fn R) { tmps := args ++ Array.replicate (fn.ntmps - args.size) undef, defers := [] } w) : Calls P f args w R := by
  intro cs
  let b : Frame := { (default : Frame) with fn := f, kind := .normal }
  have henter : Frame.enter P f args .normal =
      b.at { tmps := args ++ Array.replicate (fn.ntmps - args.size) undef, defers := [] } [.code c] := by
    simp [Frame.enter, Frame.at, hf, hb, b]
  obtain ⟨e, a', w', hq, harr⟩ := h b [] cs rfl
  rw [← henter] at harr
  cases e with
  | normal =>
    obtain ⟨hd, v, hr, hR⟩ := hq
    exact ⟨.returned v, w', _, hR, Steps.trans harr (.one step_end), rfl, rfl, hd, rfl, fn, hf, hr⟩
  | ret =>
    obtain ⟨hd, v, hr, hR⟩ := hq
    obtain ⟨todo, hs⟩ := harr
    exact ⟨.returned v, w', _, hR, hs, rfl, rfl, hd, rfl, fn, hf, hr⟩
  | panic chain =>
    obtain ⟨hd, hR⟩ := hq
    obtain ⟨todo, hs⟩ := harr
    exact ⟨.panicked chain, w', _, hR, hs, rfl, rfl, hd, fn, hf⟩
  | exit id => exact hq.elim
  | goto l => exact hq.elim
  | outgrown => exact ⟨.outgrown, w', b, hq, harr.resolve_left (by simp [b]), rfl, trivial⟩

end Go.Proofs.Ytpofnljcjoplnaa
