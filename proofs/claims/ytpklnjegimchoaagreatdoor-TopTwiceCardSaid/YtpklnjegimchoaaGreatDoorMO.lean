/-
  From walks to rows; closed facts; the references in plain words.
-/
import Derived.Test.YtpklnjegimchoaaGreatDoorProg
import Derived.ProofKit
import Derived.OpenShut
import Derived.ReadAgain
import Derived.RowKit
import Derived.Deep.DeepHandedRow
import Derived.Lib.LaidTab
import Derived.Test.YtpklnjegimchoaaGreatDoorMA
import Derived.Test.YtpklnjegimchoaaGreatDoorMC
namespace Go.X
open Go
variable {dF : List Deferred}
inductive TyI where
  | sca
  | slc (e : TypeId) (s b : Nat)
  | str
  | stru (fs : List (Nat × Nat × TypeId))
  | arr (n : Nat) (e : TypeId) (s : Nat)
def TyI.ok (P : Program) (t : TypeId) : TyI → Prop
  | .sca => scalar P t = true
  | .slc e s b => scalar P t = true ∧ Go.X.slc P t = some (e, s, b)
  | .str => scalar P t = true ∧ P.underlying t = some .string
  | .stru fs => ∀ f ∈ fs, fld P t f.1 = some f.2
  | .arr n e s => Go.X.arr P t = some (n, e, s)
abbrev TyT := List (TypeId × TyI)
def tyOf : TyT → Nat → Option TyI
  | [], _ => none
  | (k, i) :: r, t => bif Nat.beq k t then some i else tyOf r t
def TyT.Ok (P : Program) (tt : TyT) : Prop := ∀ p ∈ tt, p.2.ok P p.1
theorem tyOf_ok {P : Program} {tt : TyT} (h : TyT.Ok P tt) {t : Nat} {i : TyI} (ht : tyOf tt t = some i) : i.ok P t := by
  induction tt with
  | nil => simp [tyOf] at ht
  | cons p r ih =>
    obtain ⟨k, j⟩ := p
    simp only [tyOf] at ht
    by_cases hk : k = t
    · subst hk
      simp at ht
      subst ht
      exact h (k, j) (by simp)
    · rw [nbeq hk] at ht
      exact ih (fun q hq => h q (by simp [hq])) ht
def offs : List (Nat × Nat × TypeId) → Nat → Option Nat
  | [], _ => none
  | (k, o, _) :: r, f => bif Nat.beq k f then some o else offs r f
theorem offs_ok : ∀ (fs : List (Nat × Nat × TypeId)) {f o : Nat}, offs fs f = some o → ∃ ft, (f, o, ft) ∈ fs
  | [], _, _, h => by simp [offs] at h
  | (k, o', ft) :: r, f, o, h => by
    simp only [offs] at h
    by_cases hk : k = f
    · subst hk
      simp at h
      subst h
      exact ⟨ft, by simp⟩
    · rw [nbeq hk] at h
      obtain ⟨ft', hm⟩ := offs_ok r h
      exact ⟨ft', by simp [hm]⟩
def evBin (hs : List Nat) (op : BinOp) (k : IntKind) (a b : Int) : Option (Value × Option Prop × List Nat) :=
  match op with
  | .lss => some (.bool (decide (a < b)), none, hs)
  | .leq => some (.bool (decide (a ≤ b)), none, hs)
  | .gtr => some (.bool (decide (b < a)), none, hs)
  | .geq => some (.bool (decide (b ≤ a)), none, hs)
  | .eql => some (.bool (decide (a = b)), none, hs)
  | .neq => some (.bool (decide (a ≠ b)), none, hs)
  | .add => match k with
    | .i64 => some (.int .i64 (a + b), some (-9223372036854775808 ≤ a + b ∧ a + b ≤ 9223372036854775807), hs)
    | k => some (.int k (k.wrap (a + b)), none, hs)
  | .sub => match k with
    | .i64 => some (.int .i64 (a - b), some (-9223372036854775808 ≤ a - b ∧ a - b ≤ 9223372036854775807), hs)
    | k => some (.int k (k.wrap (a - b)), none, hs)
  | .mul => match k with
    | .i64 => some (.int .i64 (a * b), some (-9223372036854775808 ≤ a * b ∧ a * b ≤ 9223372036854775807), hs)
    | k => some (.int k (k.wrap (a * b)), none, hs)
  | .quo => match k with
    | .i64 => some (.int .i64 (a / b), some (0 ≤ a ∧ a ≤ 9223372036854775807 ∧ 0 < b), hs)
    | _ => none
  | .rem => some (.int k (a % b), some (0 ≤ a ∧ b ≠ 0), hs)
  | .and => some (.int k (bits .and k a b), none, hs)
  | .or => some (.int k (bits .or k a b), none, hs)
  | .xor => some (.int k (bits .xor k a b), none, hs)
  | _ => none
def kq : IntKind → IntKind → Bool := fun a b => decide (a = b)
def evq (tt : TyT) (L : Slots) (F : List Blk) (hs : List Nat) (o : Op) : Option (Value × Option Prop × List Nat) :=
  match o with
  | .move x => match ev L x with
    | some v => some (v, none, hs)
    | none => none
  | .assign x => match ev L x with
    | some v => some (v, none, hs)
    | none => none
  | .pick c x y => match ev L c with
    | some (.bool b) => match b with
      | true => match ev L x with
        | some v => some (v, none, hs)
        | none => none
      | false => match ev L y with
        | some v => some (v, none, hs)
        | none => none
    | _ => none
  | .binOp op _ x y _ => match ev L x, ev L y with
    | some (.int k a), some (.int k' b) => match kq k k' with
      | true => evBin hs op k a b
      | false => none
    | _, _ => none
  | .unOp .not _ x => match ev L x with
    | some (.bool b) => some (.bool (!b), none, hs)
    | _ => none
  | .nilCheck x => match ev L x with
    | some (.pointer (some a)) => some (.pointer (some a), none, hs)
    | _ => none
  | .extract x i => match ev L x with
    | some (.tuple vs) => match vs.toList[i]? with
      | some v => some (v, none, hs)
      | none => none
    | _ => none
  | .fieldAddr t x f => match tyOf tt t with
    | some (.stru fs) => match ev L x with
      | some (.pointer (some ⟨k, off, none⟩)) => match offs fs f with
        | some fo => some (.pointer (some ⟨k, off + fo, none⟩), none, hs)
        | none => none
      | _ => none
    | _ => none
  | .load t x => match hs with
    | i :: hs => match F[i]? with
      | some ⟨no, cells, _, _⟩ => match ev L x with
        | some (.pointer (some ⟨k, off, none⟩)) => match tyOf tt t with
          | some .sca | some (.slc _ _ _) | some .str => match cells[off]? with
            | some v => some (v, some (no = some k), hs)
            | none => none
          | _ => none
        | _ => none
      | none => none
    | [] => none
  | .call ⟨.builtin .len, args, tys⟩ => match args.toList, tys.toList with
    | [x], [t] => match tyOf tt t with
      | some (.slc _ _ _) => match ev L x with
        | some (.slice _ l _) => some (.int .i64 l, none, hs)
        | _ => none
      | some .str => match ev L x with
        | some (.string s) => some (.int .i64 s.size, none, hs)
        | _ => none
      | _ => none
    | _, _ => none
  | _ => none
def holds : Option Prop → Prop
  | none => True
  | some p => p
section
variable {P : Program} {n : Nat} {L : Slots} {w0 : World} {X : List Nat} {F : List Blk} {o : Oper}
theorem evBin_ok {S : World → Prop} {op : BinOp} {t t' : TypeId} {x y : Operand} {k : IntKind} {a b : Int} {v : Value} {c : Option Prop} {hs hs' : List Nat} (ho : o.op = .binOp op t x y t') (hx : ev L x = some (.int k a)) (hy : ev L y = some (.int k b))
    (h : evBin hs op k a b = some (v, c, hs')) (hc : holds c) : Qt P dF n L S o v := by
  cases op <;> simp only [evBin] at h
  case lss => cases h; exact q_lss ho hx hy
  case leq => cases h; exact q_leq ho hx hy
  case gtr => cases h; exact q_gtr ho hx hy
  case geq => cases h; exact q_geq ho hx hy
  case eql => cases h; exact q_eql ho hx hy
  case neq => cases h; exact q_neq ho hx hy
  case add => cases k <;> (simp only at h; cases h) <;> first | exact q_addi ho hx hy hc.1 hc.2 | exact q_add ho hx hy
  case sub => cases k <;> (simp only at h; cases h) <;> first | exact q_subi ho hx hy hc.1 hc.2 | exact q_sub ho hx hy
  case mul => cases k <;> (simp only at h; cases h) <;> first | exact q_muli ho hx hy hc.1 hc.2 | exact q_mul ho hx hy
  case quo => cases k <;> simp only at h <;> cases h; exact q_quo ho hx hy hc.1 hc.2.1 hc.2.2
  case rem => cases h; exact q_rem ho hx hy hc.1 hc.2
  case and => cases h; exact q_and ho hx hy
  case or => cases h; exact q_or ho hx hy
  case xor => cases h; exact q_xor ho hx hy
  all_goals cases h
theorem evq_ok {tt : TyT} (ht : TyT.Ok P tt) {hs hs' : List Nat} {v : Value} {c : Option Prop} (h : evq tt L F hs o.op = some (v, c, hs')) (hc : holds c) : Qt P dF n L (Mem w0 X F) o v := by
  generalize hop : o.op = op at h
  unfold evq at h
  split at h
  · split at h
    · next hu => cases h; exact q_move hop hu
    · cases h
  · split at h
    · next hu => cases h; exact q_assign hop hu
    · cases h
  · split at h
    · next hb =>
      split at h
      · split at h
        · next hu => cases h; exact q_pickT hop hb hu
        · cases h
      · split at h
        · next hu => cases h; exact q_pickF hop hb hu
        · cases h
    · cases h
  · split at h
    · next k a k' b hx hy =>
      split at h
      · next hk =>
        have hk' : k = k' := by simpa [kq] using hk
        subst hk'
        exact evBin_ok hop hx hy h hc
      · cases h
    · cases h
  · split at h
    · next hb => cases h; exact q_not hop hb
    · cases h
  · split at h
    · next hb => cases h; exact q_nil hop hb
    · cases h
  · split at h
    · next hb =>
      split at h
      · next hv => cases h; exact q_extract hop hb (by simpa using hv)
      · cases h
    · cases h
  · split at h
    · next hty =>
      split at h
      · next hb =>
        split at h
        · next ho =>
          cases h
          obtain ⟨ft, hft⟩ := offs_ok _ ho
          exact q_fld (tyOf_ok ht hty _ hft) hop hb
        · cases h
      · cases h
    · cases h
  · split at h
    · split at h
      · next hi =>
        split at h
        · next hb =>
          split at h
          all_goals first
            | cases h; done
            | (next hty =>
                split at h
                · next hv =>
                  cases h
                  cases hc
                  first
                  | exact q_load1 (tyOf_ok ht hty) _ hop hb hi hv
                  | exact q_load1 (tyOf_ok ht hty).1 _ hop hb hi hv
                · cases h)
        · cases h
      · cases h
    · cases h
  · split at h
    · next ha hta =>
      have ha' : ∀ {α : Type} {xs : Array α} {y : α}, xs.toList = [y] → xs = #[y] := fun {_ xs y} hh => by
        have := congrArg List.toArray hh
        simpa using this
      split at h
      · next hty =>
        split at h
        · next hb => cases h; exact q_len (tyOf_ok ht hty).2 (by rw [hop, ha' ha, ha' hta]) hb
        · cases h
      · next hty =>
        split at h
        · next hb => cases h; exact q_lenS (tyOf_ok ht hty).2 (by rw [hop, ha' ha, ha' hta]) hb
        · cases h
      · cases h
    · cases h
  · cases h
def wants (ops : Array Oper) (L : Slots) (o : Oper) : Option Bool :=
  match o.guard with
  | none => some true
  | some (j, want) => match (ops[j]?).bind (·.dst) with
    | some t => match look L t with
      | some (.bool true) => some want
      | some (.bool false) => some (!want)
      | some (.tuple vs) => match vs.toList with
        | [] => some false
        | _ :: _ => none
      | _ => none
    | none => none
def both : Option Prop → Prop → Prop
  | none, C => C
  | some p, C => p ∧ C
theorem both_ok {c : Option Prop} {C : Prop} (h : both c C) : holds c ∧ C := by
  cases c with
  | none => exact ⟨trivial, h⟩
  | some p => exact h
def run (tt : TyT) (F : List Blk) (ops : Array Oper) : Nat → List Nat → List Oper → Slots → Option (Slots × List Oper × Prop)
  | 0, _, os, L => some (L, os, True)
  | m + 1, hs, o :: os, L =>
    match wants ops L o with
    | some true => match o.dst, evq tt L F hs o.op with
      | some d, some (v, c, hs') =>
        match run tt F ops m hs' os ((d, v) :: L) with
        | some (L', os', C) => some (L', os', both c C)
        | none => none
      | _, _ => none
    | some false => match o.dst with
      | some d => run tt F ops m hs os ((d, undef) :: L)
      | none => none
    | none => none
  | _, _, _, _ => none
def fits (n : Nat) : Nat → List Oper → Bool
  | 0, _ => true
  | m + 1, o :: os => (match o.dst with | some d => Nat.blt d n | none => false) && fits n m os
  | _, _ => true
theorem wants_yes {ops : Array Oper} (h : wants ops L o = some true) : Wt dF n ops L o := by
  unfold wants at h
  split at h
  · next hg => exact Wt.plain hg
  · next j want hg =>
    split at h
    · next t hj =>
      split at h
      · next hl => cases h; exact Wt.yes hg hj hl
      · next hl =>
        have hw : want = false := by simpa using h
        subst hw
        exact Wt.yes hg hj hl
      · split at h <;> cases h
      · cases h
    · cases h
theorem wants_no {ops : Array Oper} (h : wants ops L o = some false) : Wn dF n ops L o := by
  unfold wants at h
  split at h
  · cases h
  · next j want hg =>
    split at h
    · next t hj =>
      split at h
      · next hl => cases h; exact Wn.no hg hj hl rfl
      · next hl =>
        have hw : want = true := by simpa using h
        subst hw
        exact Wn.no hg hj hl rfl
      · next vs hl =>
        split at h
        · next he =>
          have hv : vs = #[] := by
            have := congrArg List.toArray he
            simpa using this
          subst hv
          exact Wn.none hg hj hl
        · cases h
      · cases h
    · cases h
theorem T.run {Q : Exit → Act → World → Prop} {ops : Array Oper} {tt : TyT} (ht : TyT.Ok P tt) : ∀ (m : Nat) (hs : List Nat) {os os' : List Oper} {L L' : Slots} {C : Prop},
    Go.X.run tt F ops m hs os L = some (L', os', C) → C → fits n m os = true → T P dF n w0 X Q ops os' L' F → T P dF n w0 X Q ops os L F
  | 0, _, _, _, _, _, _, h, _, _, k => by
    simp only [Go.X.run] at h
    cases h
    exact k
  | m + 1, hs, [], _, _, _, _, h, _, _, _ => by simp [Go.X.run] at h
  | m + 1, hs, o :: os, os', L, L', C, h, hC, hf, k => by
    simp only [Go.X.run] at h
    split at h
    · next hw =>
      split at h
      · next d v c hs' hd he =>
        split at h
        · next L1 os1 C1 hr =>
          cases h
          simp only [fits, hd, Bool.and_eq_true] at hf
          exact T.q (evq_ok ht he (both_ok hC).1) (wants_yes hw) hd hf.1 (T.run ht m hs' hr (both_ok hC).2 hf.2 k)
        · cases h
      · cases h
    · next hw =>
      split at h
      · next d hd =>
        simp only [fits, hd, Bool.and_eq_true] at hf
        exact T.no (wants_no hw) hd hf.1 (T.run ht m hs h hC hf.2 k)
      · cases h
    · cases h
def sel : List Nat → Slots → Option Slots
  | [], _ => some []
  | k :: ks, L => match look L k, sel ks L with
    | some v, some r => some ((k, v) :: r)
    | _, _ => none
theorem sel_sub : ∀ (ks : List Nat) {L L' : Slots}, sel ks L = some L' → Sub L' L
  | [], _, _, h => by
    simp only [sel] at h
    cases h
    trivial
  | k :: ks, L, L', h => by
    simp only [sel] at h
    split at h
    · next v r hv hr =>
      cases h
      exact ⟨hv, sel_sub ks hr⟩
    · cases h
theorem W.go {Q : Exit → Act → World → Prop} {tt : TyT} (ht : TyT.Ok P tt) (hs ks : List Nat) {id : Nat} {ops : List Oper} {y : Code} {L L1 L' : Slots} {C : Prop}
    (h : Go.X.run tt F ops.toArray ops.length hs ops L = some (L1, [], C)) (hC : C) (hf : fits n ops.length ops = true) (hk : sel ks L1 = some L') (k : W P dF n w0 X Q y L' F) :
    W P dF n w0 X Q (.seq (.region id ops.toArray false) y) L F :=
  W.seq (W.region (T.run ht _ hs h hC hf (T.nil (Ex.next (W.slots (sel_sub ks hk) k)))))
theorem W.sr {Q : Exit → Act → World → Prop} {id : Nat} {ops : List Oper} {y : Code} (h : T P dF n w0 X (Exit.then (y.wp P Q) Q) ops.toArray ops L F) : W P dF n w0 X Q (.seq (.region id ops.toArray false) y) L F := W.seq (W.region h)
theorem T.fin {Q : Exit → Act → World → Prop} {ops : Array Oper} {y : Code} {L' : Slots} (ks : List Nat) (hk : sel ks L = some L') (k : W P dF n w0 X Q y L' F) : T P dF n w0 X (Exit.then (y.wp P Q) Q) ops [] L F :=
  T.nil (Ex.next (W.slots (sel_sub ks hk) k))
theorem T.end {Q : Exit → Act → World → Prop} {ops : Array Oper} {y : Code} (k : W P dF n w0 X Q y L F) : T P dF n w0 X (Exit.then (y.wp P Q) Q) ops [] L F := T.nil (Ex.next k)
theorem T.runF {Q : Exit → Act → World → Prop} {ops : Array Oper} {y : Code} {tt : TyT} (ht : TyT.Ok P tt) (hs ks : List Nat) {os : List Oper} {L L1 L' : Slots} {C : Prop}
    (h : Go.X.run tt F ops os.length hs os L = some (L1, [], C)) (hC : C) (hf : fits n os.length os = true) (hk : sel ks L1 = some L') (k : W P dF n w0 X Q y L' F) :
    T P dF n w0 X (Exit.then (y.wp P Q) Q) ops os L F := T.run ht _ hs h hC hf (T.fin ks hk k)
theorem W.keep {Q : Exit → Act → World → Prop} {c : Code} {L' : Slots} (ks : List Nat) (hk : sel ks L = some L') (k : W P dF n w0 X Q c L' F) : W P dF n w0 X Q c L F := W.slots (sel_sub ks hk) k
theorem W.drop {Q : Exit → Act → World → Prop} {c : Code} {L' : Slots} (m : List Bool) (ks : List Nat) (hk : sel ks L = some L') (k : W P dF n w0 X Q c L' (pick m F)) : W P dF n w0 X Q c L F := W.less m (sel_sub ks hk) k
end
end Go.X
namespace Go.Proofs.YtpklnjegimchoaaGreatDoor
open Go Go.X
def tt : TyT := [(3, .sca), (4, .sca), (5, .sca), (9, .str), (22, .slc 5 1 1), (26, .sca), (32, .slc 3 1 8), (66, .slc 112 2 16), (79, .slc 22 1 24), (112, .stru [(0, 0, 3), (1, 1, 3)]), (114, .stru [(0, 0, 3), (1, 1, 3), (2, 2, 3), (3, 3, 3), (4, 4, 3), (5, 5, 22)]), (119, .slc 124 13 80), (124, .stru [(0, 0, 3), (1, 1, 3), (2, 2, 3), (3, 3, 66), (4, 4, 22), (5, 5, 84)]), (193, .stru [(0, 0, 26)]), (196, .stru [(0, 0, 22)]), (275, .sca), (279, .stru [(0, 0, 3), (1, 1, 3), (2, 2, 277)])]
theorem ty3 : TyI.ok Tryz.prog 3 (.sca) := (show scalar Tryz.prog 3 = true by kernel_rfl)
theorem ty4 : TyI.ok Tryz.prog 4 (.sca) := (show scalar Tryz.prog 4 = true by kernel_rfl)
theorem ty5 : TyI.ok Tryz.prog 5 (.sca) := (show scalar Tryz.prog 5 = true by kernel_rfl)
theorem ty9 : TyI.ok Tryz.prog 9 (.str) := ⟨(show scalar Tryz.prog 9 = true by kernel_rfl), (show Tryz.prog.underlying 9 = some .string by kernel_rfl)⟩
theorem ty22 : TyI.ok Tryz.prog 22 (.slc 5 1 1) := ⟨(show scalar Tryz.prog 22 = true by kernel_rfl), (show slc Tryz.prog 22 = some (5, 1, 1) by kernel_rfl)⟩
theorem ty26 : TyI.ok Tryz.prog 26 (.sca) := (show scalar Tryz.prog 26 = true by kernel_rfl)
theorem ty32 : TyI.ok Tryz.prog 32 (.slc 3 1 8) := ⟨(show scalar Tryz.prog 32 = true by kernel_rfl), (show slc Tryz.prog 32 = some (3, 1, 8) by kernel_rfl)⟩
theorem ty66 : TyI.ok Tryz.prog 66 (.slc 112 2 16) := ⟨(show scalar Tryz.prog 66 = true by kernel_rfl), (show slc Tryz.prog 66 = some (112, 2, 16) by kernel_rfl)⟩
theorem ty79 : TyI.ok Tryz.prog 79 (.slc 22 1 24) := ⟨(show scalar Tryz.prog 79 = true by kernel_rfl), (show slc Tryz.prog 79 = some (22, 1, 24) by kernel_rfl)⟩
theorem ty112 : TyI.ok Tryz.prog 112 (.stru [(0, 0, 3), (1, 1, 3)]) := (List.forall_mem_cons.2 ⟨(show fld Tryz.prog 112 0 = some (0, 3) by kernel_rfl), List.forall_mem_cons.2 ⟨(show fld Tryz.prog 112 1 = some (1, 3) by kernel_rfl), List.forall_mem_nil _⟩⟩)
theorem ty114 : TyI.ok Tryz.prog 114 (.stru [(0, 0, 3), (1, 1, 3), (2, 2, 3), (3, 3, 3), (4, 4, 3), (5, 5, 22)]) := (List.forall_mem_cons.2 ⟨(show fld Tryz.prog 114 0 = some (0, 3) by kernel_rfl), List.forall_mem_cons.2 ⟨(show fld Tryz.prog 114 1 = some (1, 3) by kernel_rfl), List.forall_mem_cons.2 ⟨(show fld Tryz.prog 114 2 = some (2, 3) by kernel_rfl), List.forall_mem_cons.2 ⟨(show fld Tryz.prog 114 3 = some (3, 3) by kernel_rfl), List.forall_mem_cons.2 ⟨(show fld Tryz.prog 114 4 = some (4, 3) by kernel_rfl), List.forall_mem_cons.2 ⟨(show fld Tryz.prog 114 5 = some (5, 22) by kernel_rfl), List.forall_mem_nil _⟩⟩⟩⟩⟩⟩)
theorem ty119 : TyI.ok Tryz.prog 119 (.slc 124 13 80) := ⟨(show scalar Tryz.prog 119 = true by kernel_rfl), (show slc Tryz.prog 119 = some (124, 13, 80) by kernel_rfl)⟩
theorem ty124 : TyI.ok Tryz.prog 124 (.stru [(0, 0, 3), (1, 1, 3), (2, 2, 3), (3, 3, 66), (4, 4, 22), (5, 5, 84)]) := (List.forall_mem_cons.2 ⟨(show fld Tryz.prog 124 0 = some (0, 3) by kernel_rfl), List.forall_mem_cons.2 ⟨(show fld Tryz.prog 124 1 = some (1, 3) by kernel_rfl), List.forall_mem_cons.2 ⟨(show fld Tryz.prog 124 2 = some (2, 3) by kernel_rfl), List.forall_mem_cons.2 ⟨(show fld Tryz.prog 124 3 = some (3, 66) by kernel_rfl), List.forall_mem_cons.2 ⟨(show fld Tryz.prog 124 4 = some (4, 22) by kernel_rfl), List.forall_mem_cons.2 ⟨(show fld Tryz.prog 124 5 = some (5, 84) by kernel_rfl), List.forall_mem_nil _⟩⟩⟩⟩⟩⟩)
theorem ty193 : TyI.ok Tryz.prog 193 (.stru [(0, 0, 26)]) := (List.forall_mem_cons.2 ⟨(show fld Tryz.prog 193 0 = some (0, 26) by kernel_rfl), List.forall_mem_nil _⟩)
theorem ty196 : TyI.ok Tryz.prog 196 (.stru [(0, 0, 22)]) := (List.forall_mem_cons.2 ⟨(show fld Tryz.prog 196 0 = some (0, 22) by kernel_rfl), List.forall_mem_nil _⟩)
theorem ty275 : TyI.ok Tryz.prog 275 (.sca) := (show scalar Tryz.prog 275 = true by kernel_rfl)
theorem ty279 : TyI.ok Tryz.prog 279 (.stru [(0, 0, 3), (1, 1, 3), (2, 2, 277)]) := (List.forall_mem_cons.2 ⟨(show fld Tryz.prog 279 0 = some (0, 3) by kernel_rfl), List.forall_mem_cons.2 ⟨(show fld Tryz.prog 279 1 = some (1, 3) by kernel_rfl), List.forall_mem_cons.2 ⟨(show fld Tryz.prog 279 2 = some (2, 277) by kernel_rfl), List.forall_mem_nil _⟩⟩⟩)
theorem ttok : TyT.Ok Tryz.prog tt := List.forall_mem_cons.2 ⟨ty3, List.forall_mem_cons.2 ⟨ty4, List.forall_mem_cons.2 ⟨ty5, List.forall_mem_cons.2 ⟨ty9, List.forall_mem_cons.2 ⟨ty22, List.forall_mem_cons.2 ⟨ty26, List.forall_mem_cons.2 ⟨ty32, List.forall_mem_cons.2 ⟨ty66, List.forall_mem_cons.2 ⟨ty79, List.forall_mem_cons.2 ⟨ty112, List.forall_mem_cons.2 ⟨ty114, List.forall_mem_cons.2 ⟨ty119, List.forall_mem_cons.2 ⟨ty124, List.forall_mem_cons.2 ⟨ty193, List.forall_mem_cons.2 ⟨ty196, List.forall_mem_cons.2 ⟨ty275, List.forall_mem_cons.2 ⟨ty279, List.forall_mem_nil _⟩⟩⟩⟩⟩⟩⟩⟩⟩⟩⟩⟩⟩⟩⟩⟩⟩
end Go.Proofs.YtpklnjegimchoaaGreatDoor
namespace Go.X
open Go Go.ChangeShapes Go.WideShapes Go.RowKit
section
variable {H : Type} {enc : TypeId × Value → H} {P : Program}
theorem Kept.cell {W W' : World} (h : Kept [] W W') {b : Nat} (hb : b < W.heap.size) : W'.heap[b]? = W.heap[b]? := h.block b hb (by simp)
theorem Kept.sameAt {W W' : World} (h : Kept [] W W') {p : MemPlace} (hp : p.block < W.heap.size) : W.sameAt W' p := by
  cases p with
  | cell b off =>
    show W'.cell? _ = W.cell? _
    have := h.cell (b := b) hp
    unfold World.cell?
    rw [this]
  | map b => exact h.cell hp
theorem Kept.keptBut {W W' : World} (h : Kept [] W W') (may : MemPlace → Prop) : W.keptBut W' may := by
  refine ⟨h.os, h.output, fun i hi => ?_⟩
  rw [h.cell hi]
  cases ho : W.heap[i]? with
  | none => rfl
  | some o =>
    cases o with
    | cells c t fr => exact ⟨rfl, rfl, rfl, fun _ _ => rfl⟩
    | map es clock => exact .inr ⟨rfl, rfl⟩
    | _ => rfl
theorem Kept.frozen {W W' : World} (h : Kept [] W W') {b off : Nat} (hb : b < W.heap.size) : W'.frozen? ⟨b, off, none⟩ = W.frozen? ⟨b, off, none⟩ := by
  unfold World.frozen?
  rw [h.cell hb]
def fine (P : Program) (ts : List TypeId) : Bool := laidOutB P && ((List.range P.types.size).all fun t => match P.underlying t with | some (.slice e) => decide (0 < P.cellsOf e) | _ => true) && ts.all fun t => decide (t < P.types.size) && P.readableRec t
theorem trodAll_kept {W W' : World} (hk : Kept [] W W') (hl : laidOutB P = true) (hz : ∀ t e, t < P.types.size → P.underlying t = some (.slice e) → 0 < P.cellsOf e) {sp : Nat → Bool} :
    ∀ {ts : List TypeId} {vs : List Value} {ds : List (DataW H)} {ps : List MemPlace}, (∀ t ∈ ts, t < P.types.size ∧ P.readableRec t = true) → DataW.TrodAll enc P W 0 (fun _ => true) true ts vs ds ps → (∀ p ∈ ps, p.block < W.heap.size) → (∀ p ∈ ps, sp p.block = true) →
    DataW.TrodAll enc P W' 0 sp true ts vs ds ps
  | [], [], [], _, _, h, _, _ => h
  | t :: ts, v :: _, d :: _, _, hT, ⟨p, q, h1, h2, e⟩, hb, hs => by
    have h3 : DataW.Trod enc P W' 0 (fun _ => true) true t v d p := by
      obtain ⟨n, hn⟩ := h1
      exact ⟨n, DataW.trod_carry n _ _ _ hn fun x hx => hk.sameAt (hb x (by rw [e]; exact List.mem_append_left _ hx))⟩
    refine ⟨p, q, h3.respare (kids_book hl (hT t (by simp)).2) (fun u e' hu hue => hz u e' hu.1 hue) ⟨(hT t (by simp)).1, book_self t⟩ (fun x hx => hs x (by rw [e]; exact List.mem_append_left _ hx)), ?_, e⟩
    exact trodAll_kept hk hl hz (fun u hu => hT u (by simp [hu])) h2 (fun x hx => hb x (by rw [e]; exact List.mem_append_right _ hx)) (fun x hx => hs x (by rw [e]; exact List.mem_append_right _ hx))
theorem law_post {fn : Func} {s : ChangeSpec} {tb : TypeId} {apart fresh handsOn again : Bool} {W W' : World} {args : Array Value} {ds gs : List (DataW H)} {before : List MemPlace} (hf : fine P fn.params.toList = true) (hv : s.vars = []) (hr : fn.resultTypes = #[tb])
    (htb : P.underlying tb = some .bool) (hW : DataW.Whole enc P fn.params.toList s.vars apart W args.toList ds gs before) (hs : s.fn H (ds ++ gs) = { results := [.lit (.bool true)], args := ds }) (hk : Kept [] W W') :
    s.post enc P fn apart fresh handsOn again W args (.bool true) W' := by
  unfold fine at hf
  simp only [Bool.and_eq_true] at hf
  obtain ⟨⟨hl, hz⟩, ht⟩ := hf
  have hz' := slices_full_of P hz
  have ht' : ∀ t ∈ fn.params.toList, t < P.types.size ∧ P.readableRec t = true := fun t h => by
    have := List.all_eq_true.1 ht t h
    simpa using this
  have hlt := hW.lt
  have hW0 := hW
  obtain ⟨p, q, hA, hV, hpq, hfz, hnd⟩ := hW
  rw [hv] at hV
  obtain ⟨rfl, rfl⟩ := trodVars_none hV
  rw [List.append_nil] at hpq
  subst hpq
  have hargs : ∀ sp : Nat → Bool, (∀ x ∈ before, sp x.block = true) → DataW.TrodAll enc P W' 0 sp true fn.params.toList args.toList ds before := fun sp hsp => trodAll_kept hk hl hz' ht' hA hlt hsp
  have hres : ∀ (b : Nat) (sp : Nat → Bool) (hd : Bool), DataW.TrodAll enc P W' b sp hd fn.resultTypes.toList ((Value.bool true).resultList fn.resultTypes.size) [.lit (.bool true)] [] := fun b sp hd => by
    rw [hr]
    exact trodAll_mk1 (shut_bool htb true)
  have hvars : ∀ sp : Nat → Bool, DataW.TrodVars enc P W' sp s.vars ([] : List (DataW H)) [] := fun sp => by
    rw [hv]; rfl
  have hold : ∀ x ∈ before, (fun b => decide (b < W.heap.size)) x.block = true := fun x hx => by simpa using hlt x hx
  refine ⟨ds, [], before, [], before, [], hW0, by rw [hs]; exact hres _ _ _, by rw [hs]; exact hargs _ hold, by rw [hs]; exact hvars _, hk.keptBut _, fun _ => ⟨?_, [.lit (.bool true)] ++ ds, [], ([] ++ before) ++ [], ⟨[] ++ before, [], trodAll_append (p := []) (hargs _ (fun _ _ => rfl)) (hres _ _ _), ?_, rfl, ?_, ?_⟩, ?_⟩⟩
  · intro j t r h1 h2
    rw [hr] at h1 h2
    have hj : j = 0 := by
      have := (Array.getElem?_eq_some_iff.1 h1).1
      simp at this
      exact this
    subst hj
    simp only [List.getElem?_toArray, List.getElem?_cons_zero, Option.some.injEq] at h1
    subst h1
    have h3 : r = .bool true := by
      have : ([Value.bool true] : List Value)[0]? = some r := h2
      simpa using this.symm
    subst h3
    exact okWide_bool_mk htb true
  · exact hvars _
  · intro b off hp
    have hp' : MemPlace.cell b off ∈ before := by simpa using hp
    exact (hk.frozen (b := b) (off := off) (hlt _ hp')).trans (hfz b off hp')
  · intro ha
    simpa using hnd ha
  · intro x hx _
    simpa using hx
variable {w : World} {base : Nat} {spare : Nat → Bool} {held : Bool}
theorem weights_at {P : Program} : ∀ {ts : List TypeId} {ds : List (DataW H)}, (DataW.weightsEach P ts ds).all (· ≤ reachBytes) = true → ∀ (j : Nat) (t : TypeId) (d : DataW H), ts[j]? = some t → ds[j]? = some d → ∀ m ∈ d.weights P t, m ≤ reachBytes
  | [], _, _, j, t, d, h1, _, _, _ => by simp at h1
  | _ :: _, [], _, j, t, d, _, h2, _, _ => by simp at h2
  | u :: ts, x :: ds, h, j, t, d, h1, h2, m, hm => by
    simp only [DataW.weightsEach, List.all_append, Bool.and_eq_true] at h
    cases j with
    | zero =>
      simp at h1 h2
      subst h1 h2
      have := List.all_eq_true.1 h.1 m hm
      simpa using this
    | succ j => exact weights_at h.2 j t d (by simpa using h1) (by simpa using h2) m hm
theorem open_i {t : TypeId} {k : IntKind} {b0 : Nat} {r : Reach} {v : Value} {d : DataW H} {ps : List MemPlace} (ht : P.underlying t = some (.int k)) (hval : Value.okWide P w r b0 t v) (hd : DataW.Trod enc P w base spare held t v d ps) :
    ∃ z, v = .int k z ∧ (Lit.int k z).wf = true := by
  obtain ⟨z, rfl⟩ := okWide_int ht hval
  obtain ⟨n, hn⟩ := hd
  obtain ⟨z', h1, _, hw⟩ := DataW.trod_int ht hn
  simp only [Value.cells, List.cons.injEq, Value.int.injEq, and_true, true_and] at h1
  subst h1
  exact ⟨z, rfl, hw⟩
theorem wf_u8 {z : Int} (h : (Lit.int .u8 z).wf = true) : 0 ≤ z ∧ z < 256 := by
  simp [Lit.wf, IntKind.min, IntKind.max, IntKind.bits, IntKind.signed] at h; omega
theorem wf_i64 {z : Int} (h : (Lit.int .i64 z).wf = true) : -9223372036854775808 ≤ z ∧ z ≤ 9223372036854775807 := by
  simp [Lit.wf, IntKind.min, IntKind.max, IntKind.bits, IntKind.signed] at h; omega
end
end Go.X
namespace Go.X
open Go
section
variable {P : Program} {W : World}
theorem reads_of_var {name : String} {g : Nat} {cs : Array Value} (hg : P.globalNamed name = some g) (hv : W.var? P name = some cs) : Reads W (some ⟨g, 0, none⟩) cs.toList := fun j v hj => by
  refine ⟨_, rfl, ?_⟩
  rw [add_lit, Nat.zero_add, World.var?_cell hg hv j]
  simpa using hj
theorem reads_of_tab {name : String} {g : Nat} {k : IntKind} {zs : List Int} (hg : P.globalNamed name = some g) (hv : Lib.TabIs P W name k zs) : Reads W (some ⟨g, 0, none⟩) (ints k zs) := reads_of_var hg hv
theorem chunks {α : Type} (m : Nat) : ∀ (n : Nat) (cs : List α), cs.length = n * m → cs = ((List.range n).map fun i => (cs.drop (i * m)).take m).flatten
  | 0, cs, h => by
    have : cs = [] := List.eq_nil_of_length_eq_zero (by simpa using h)
    simp [this]
  | n + 1, cs, h => by
    have ih := chunks m n (cs.drop m) (by rw [List.length_drop, h, Nat.add_mul]; omega)
    rw [List.range_succ_eq_map, List.map_cons, List.flatten_cons, List.map_map]
    have e : (List.range n).map ((fun i => (cs.drop (i * m)).take m) ∘ Nat.succ) = (List.range n).map fun i => ((cs.drop m).drop (i * m)).take m := by
      apply List.map_congr_left
      intro i _
      simp only [Function.comp_apply, List.drop_drop, Nat.succ_mul]
      rw [Nat.add_comm]
    rw [e, ← ih]
    simp
theorem cells_of_tab2 {H : Type} {enc : TypeId × Value → H} {w : World} {base : Nat} {sp : Nat → Bool} {held : Bool} {fuel : Nat} {t a e : TypeId} {n m : Nat} {k : IntKind} {cs : List Value} {rows : List (List Int)} {p : List MemPlace}
    (ht : P.underlying t = some (.array n a)) (ha : P.underlying a = some (.array m e)) (he : P.underlying e = some (.int k)) (hce : P.cellsOf e = 1) (hca : P.cellsOf a = m) (hct : P.cellsOf t = n * m)
    (h : DataW.trod enc P w base sp held fuel t cs = some (.agg (rows.map fun r => Lib.tabData k r), p)) : cs = ints k rows.flatten := by
  cases fuel with
  | zero => simp [DataW.trod] at h
  | succ fuel =>
    simp only [DataW.trod, ht, hca, hct] at h
    split at h
    · rename_i hl
      obtain ⟨xs, hm, hx⟩ := Option.map_eq_some_iff.1 h
      have hxs : xs.map (·.1) = rows.map fun r => Lib.tabData (H := H) k r := by simpa using congrArg Prod.fst hx
      have hxl : xs.length = n := by simpa using Lib.mapM_length hm
      have hrl : rows.length = n := by
        have := congrArg List.length hxs
        simp at this
        omega
      have each : (List.range n).map (fun i => (cs.drop (i * m)).take m) = rows.map (ints k) := by
        apply List.ext_getElem?
        intro i
        by_cases hi : i < n
        · obtain ⟨b, hb, hf⟩ := Lib.mapM_at hm i i (by simp [hi])
          have h2 : (xs.map (·.1))[i]? = some b.1 := by simp [hb]
          rw [hxs] at h2
          simp only [List.getElem?_map, Option.map_eq_some_iff] at h2
          obtain ⟨r, hr, e1⟩ := h2
          have h3 := Lib.cells_of_tab (zs := r) (p := b.2) ha he hce hca (by rw [hf, e1])
          simp only [List.getElem?_map, List.getElem?_range hi, hr, Option.map_some]
          rw [h3]; rfl
        · rw [List.getElem?_eq_none (by simp; omega), List.getElem?_eq_none (by simp; omega)]
      rw [chunks m n cs hl, each, ints, List.map_flatten]
      rfl
    · cases h
theorem laid_first {name : String} {d : DataW Unit} {rest : List (String × DataW Unit)} (h : laidMet P ((name, d) :: rest) W) :
    ∃ g t cs fuel p, P.globalNamed name = some g ∧ (P.globals[g]?).map (·.type) = some t ∧ W.var? P name = some cs ∧ DataW.trod (fun _ => ()) P W 0 (fun _ => true) false fuel t cs.toList = some (d, p) := by
  obtain ⟨ps, ⟨g', t', cs, fuel, p, q, hg', ht', hvar, hd, _, _⟩, _⟩ := h
  exact ⟨g', t', cs, fuel, p, hg', ht', hvar, hd⟩
theorem laid_rest {name : String} {d : DataW Unit} {rest : List (String × DataW Unit)} (h : laidMet P ((name, d) :: rest) W) : laidMet P rest W := by
  obtain ⟨ps, ⟨g', t', cs, fuel, p, q, hg', ht', hvar, hd, hr, he⟩, hn, hc⟩ := h
  refine ⟨q, hr, ?_, fun b off hm => hc b off (by rw [he]; exact List.mem_append_right _ hm)⟩
  rw [he, List.nodup_append] at hn
  exact hn.2.1
theorem reads_tab {name : String} {k : IntKind} {zs : List Int} {rest : List (String × DataW Unit)} {g : Nat} {t e : TypeId} {n : Nat} (hg : P.globalNamed name = some g) (hty : (P.globals[g]?).map (·.type) = some t) (ht : P.underlying t = some (.array n e)) (he : P.underlying e = some (.int k))
    (hce : P.cellsOf e = 1) (hct : P.cellsOf t = n) (h : laidMet P ((name, Lib.tabData k zs) :: rest) W) : Reads W (some ⟨g, 0, none⟩) (ints k zs) := reads_of_tab hg (Lib.tabIs_of_head hg hty ht he hce hct h)
theorem reads_tab2 {name : String} {k : IntKind} {rows : List (List Int)} {rest : List (String × DataW Unit)} {g : Nat} {t a e : TypeId} {n m : Nat} (hg : P.globalNamed name = some g) (hty : (P.globals[g]?).map (·.type) = some t) (ht : P.underlying t = some (.array n a)) (ha : P.underlying a = some (.array m e))
    (he : P.underlying e = some (.int k)) (hce : P.cellsOf e = 1) (hca : P.cellsOf a = m) (hct : P.cellsOf t = n * m) (h : laidMet P ((name, .agg (rows.map fun r => Lib.tabData k r)) :: rest) W) : Reads W (some ⟨g, 0, none⟩) (ints k rows.flatten) := by
  obtain ⟨g', t', cs, fuel, p, hg', hty', hv, hd⟩ := laid_first h
  obtain rfl := Option.some.inj (hg.symm.trans hg')
  obtain rfl := Option.some.inj (hty.symm.trans hty')
  have := reads_of_var hg hv
  rwa [cells_of_tab2 ht ha he hce hca hct hd] at this
end
end Go.X
namespace Go.X
open Go
def add2 (v : List Int) (a b : Nat) (x : Int) : List Int := v.set a (IntKind.u32.wrap (v.getD a 0 + IntKind.u32.wrap (v.getD b 0 + x)))
def xrot (v : List Int) (d a : Nat) (k : Int) : List Int := v.set d (rotl (bits .xor .u32 (v.getD d 0) (v.getD a 0)) k)
def add1 (v : List Int) (c d : Nat) : List Int := v.set c (IntKind.u32.wrap (v.getD c 0 + v.getD d 0))
@[simp] theorem add2_length (v : List Int) (a b : Nat) (x : Int) : (add2 v a b x).length = v.length := by simp [add2]
@[simp] theorem xrot_length (v : List Int) (d a : Nat) (k : Int) : (xrot v d a k).length = v.length := by simp [xrot]
@[simp] theorem add1_length (v : List Int) (c d : Nat) : (add1 v c d).length = v.length := by simp [add1]
def mixS (v : List Int) (a b c d : Nat) (x y : Int) : List Int :=
  xrot (add1 (xrot (add2 (xrot (add1 (xrot (add2 v a b x) d a 16) c d) b c 20) a b y) d a 24) c d) b c 25
@[simp] theorem mixS_length (v : List Int) (a b c d : Nat) (x y : Int) : (mixS v a b c d x y).length = v.length := by simp [mixS]
def wordAt (bs : List Int) (j : Nat) : Int :=
  bits .or .u32 (bits .or .u32 (bits .or .u32 (IntKind.u32.wrap (bs.getD j 0)) (shl .u32 (IntKind.u32.wrap (bs.getD (j + 1) 0)) 8)) (shl .u32 (IntKind.u32.wrap (bs.getD (j + 2) 0)) 16)) (shl .u32 (IntKind.u32.wrap (bs.getD (j + 3) 0)) 24)
def msg (bs : List Int) : List Int := gather (fun q => wordAt bs (4 * q)) 16 []
@[simp] theorem msg_length (bs : List Int) : (msg bs).length = 16 := by simp [msg]
def startW : List Int := [1779033703, 3144134277, 1013904242, 2773480762, 1359893119, 2600822924, 528734635, 1541459225]
@[simp] theorem startW_length : startW.length = 8 := rfl
def vfill (h : List Int) : Nat → List Int
  | 0 => List.replicate 16 0
  | i + 1 => ((vfill h i).set i (h.getD i 0)).set (8 + i) (startW.getD i 0)
@[simp] theorem vfill_length (h : List Int) : ∀ i, (vfill h i).length = 16
  | 0 => by simp [vfill]
  | i + 1 => by simp [vfill, vfill_length h i]
theorem vfill_all (h : List Int) (hl : h.length = 8) : vfill h 8 = h ++ startW := by
  match h, hl with
  | [a, b, c, d, e, f, g, i], _ => rfl
def vtold (v : List Int) (t : Int) : List Int :=
  (v.set 12 (bits .xor .u32 (v.getD 12 0) (IntKind.u32.wrap t))).set 13 (bits .xor .u32 ((v.set 12 (bits .xor .u32 (v.getD 12 0) (IntKind.u32.wrap t))).getD 13 0) (IntKind.u32.wrap (shr .u64 t 32)))
@[simp] theorem vtold_length (v : List Int) (t : Int) : (vtold v t).length = v.length := by simp [vtold]
def vlast (v : List Int) : List Int := v.set 14 (bits .xor .u32 (if IntKind.u32.signed then -1 else IntKind.u32.max) (v.getD 14 0))
@[simp] theorem vlast_length (v : List Int) : (vlast v).length = v.length := by simp [vlast]
def vstart (h : List Int) (t : Int) (last : Bool) : List Int := bif last then vlast (vtold (h ++ startW) t) else vtold (h ++ startW) t
theorem vstart_length (h : List Int) (t : Int) (last : Bool) (hl : h.length = 8) : (vstart h t last).length = 16 := by cases last <;> simp [vstart, hl]
def sgm : List Int := [0, 1, 2, 3, 4, 5, 6, 7, 8, 9, 10, 11, 12, 13, 14, 15, 14, 10, 4, 8, 9, 15, 13, 6, 1, 12, 0, 2, 11, 7, 5, 3, 11, 8, 12, 0, 5, 2, 15, 13, 10, 14, 3, 6, 7, 1, 9, 4, 7, 9, 3, 1, 13, 12, 11, 14, 2, 6, 5, 10, 4, 0, 15, 8, 9, 0, 5, 7, 2, 4, 10, 15, 14, 1, 11, 12, 6, 8, 3, 13, 2, 12, 6, 10, 0, 11, 8, 3, 4, 13, 7, 5, 15, 14, 1, 9, 12, 5, 1, 15, 14, 13, 4, 10, 0, 7, 6, 3, 9, 2, 8, 11, 13, 11, 7, 14, 12, 1, 3, 9, 5, 0, 15, 4, 8, 6, 2, 10, 6, 15, 14, 9, 11, 3, 0, 8, 12, 2, 13, 7, 1, 4, 10, 5, 10, 2, 8, 4, 7, 6, 1, 5, 15, 11, 9, 14, 3, 12, 13, 0]
@[simp] theorem sgm_length : sgm.length = 160 := by decide +kernel
def sg (r : Nat) : List Int := (sgm.drop (r * 16)).take 16
theorem sg_length {r : Nat} (h : r < 10) : (sg r).length = 16 := by simp [sg]; omega
theorem sg_ok {r i : Nat} (hr : r < 10) (hi : i < 16) : 0 ≤ (sg r).getD i 0 ∧ (sg r).getD i 0 < 16 := by
  have h : ∀ r, r < 10 → ∀ i, i < 16 → 0 ≤ (sg r).getD i 0 ∧ (sg r).getD i 0 < 16 := by decide +kernel
  exact h r hr i hi
def bstep (s m v : List Int) (j : Nat) : List Int :=
  mixS v ((pl j).getD 0 0).toNat ((pl j).getD 1 0).toNat ((pl j).getD 2 0).toNat ((pl j).getD 3 0).toNat (m.getD (s.getD (2 * j) 0).toNat 0) (m.getD (s.getD (2 * j + 1) 0).toNat 0)
def bdr (s m v : List Int) : Nat → List Int
  | 0 => v
  | j + 1 => bstep s m (bdr s m v j) j
@[simp] theorem bdr_length (s m v : List Int) : ∀ j, (bdr s m v j).length = v.length
  | 0 => rfl
  | j + 1 => by simp [bdr, bstep, bdr_length s m v j]
def brn (m v : List Int) : Nat → List Int
  | 0 => v
  | r + 1 => bdr (sg r) m (brn m v r) 8
@[simp] theorem brn_length (m v : List Int) : ∀ r, (brn m v r).length = v.length
  | 0 => rfl
  | r + 1 => by simp [brn, brn_length m v r]
def hfold (v : List Int) : Nat → List Int → List Int
  | 0, h => h
  | i + 1, h => (hfold v i h).set i (bits .xor .u32 ((hfold v i h).getD i 0) (bits .xor .u32 (v.getD i 0) (v.getD (8 + i) 0)))
@[simp] theorem hfold_length (v : List Int) (h : List Int) : ∀ i, (hfold v i h).length = h.length
  | 0 => rfl
  | i + 1 => by simp [hfold, hfold_length v h i]
def pressS (h bs : List Int) (t : Int) (last : Bool) : List Int := hfold (brn (msg bs) (vstart h t last) 10) 8 h
@[simp] theorem pressS_length (h bs : List Int) (t : Int) (last : Bool) : (pressS h bs t last).length = h.length := by simp [pressS]
end Go.X
namespace Go.X
open Go
def kpad (key : List Int) : List Int := if key.length = 0 then [] else key ++ List.replicate (64 - key.length) 0
def full (key b : List Int) : List Int := kpad key ++ b
theorem kpad_nil {key : List Int} (h : key.length = 0) : kpad key = [] := if_pos h
theorem kpad_some {key : List Int} (h : key.length ≠ 0) : kpad key = key ++ List.replicate (64 - key.length) 0 := if_neg h
def sumH0 (kl : Nat) (z : Int) : List Int := startW.set 0 (bits .xor .u32 (startW.getD 0 0) (bits .xor .u32 (bits .xor .u32 16842752 (shl .u32 (IntKind.u32.wrap (kl : Int)) 8)) (IntKind.u32.wrap z)))
@[simp] theorem sumH0_length (kl : Nat) (z : Int) : (sumH0 kl z).length = 8 := by simp [sumH0]
def absorb (h ys : List Int) : Nat → List Int
  | 0 => h
  | j + 1 => pressS (absorb h ys j) (ys.drop (64 * j)) ((64 * (j + 1) : Nat) : Int) false
@[simp] theorem absorb_length (h ys : List Int) : ∀ j, (absorb h ys j).length = h.length
  | 0 => rfl
  | j + 1 => by simp [absorb, absorb_length h ys j]
def lastj (n : Nat) : Nat := (n - 1) / 64
def digest (h ys : List Int) : List Int :=
  pressS (absorb h ys (lastj ys.length)) (ys.drop (64 * lastj ys.length) ++ (List.replicate 64 0).drop (ys.length - 64 * lastj ys.length)) ((ys.length : Nat) : Int) true
@[simp] theorem digest_length (h ys : List Int) : (digest h ys).length = h.length := by simp [digest]
def outB (h : List Int) (q : Nat) : Int := IntKind.u8.wrap (shr .u32 (h.getD (q / 4) 0) (8 * ((q % 4 : Nat) : Int)))
def out32 (h : List Int) : List Int := gather (outB h) 32 []
@[simp] theorem out32_length (h : List Int) : (out32 h).length = 32 := by simp [out32]
theorem Bytes.gather {f : Nat → Int} (hf : ∀ i, 0 ≤ f i ∧ f i < 256) {s : List Int} (h : Bytes s) : ∀ i, Bytes (gather f i s)
  | 0 => h
  | i + 1 => fun x hx => by
    rcases List.mem_append.1 hx with h1 | h1
    · exact Bytes.gather hf h i x h1
    · rw [List.mem_singleton] at h1
      rw [h1]; exact hf i
theorem Bytes.out32 (h : List Int) : Bytes (out32 h) := Bytes.gather (fun _ => wrap8 _) (fun _ hx => by cases hx) 32
def sumS (key : List Int) (s : Nat) (b : List Int) : List Int := (out32 (digest (sumH0 key.length ((s : Nat) : Int)) (full key b))).take s
theorem sumS_length (key : List Int) {s : Nat} (b : List Int) (h : s ≤ 32) : (sumS key s b).length = s := by simp [sumS]; omega
def rabs (h zs : List Int) (n tot : Nat) : Nat → List Int
  | 0 => h
  | j + 1 => pressS (rabs h zs n tot j) ((zs.drop (64 * j)).take 64) (min (((64 * j : Nat) : Int) + 64) ((n : Nat) : Int)) (decide (64 * j + 64 = tot))
@[simp] theorem rabs_length (h zs : List Int) (n tot : Nat) : ∀ j, (rabs h zs n tot j).length = h.length
  | 0 => rfl
  | j + 1 => by simp [rabs, rabs_length h zs n tot j]
theorem kpad_split {key : List Int} (n : Nat) (h : key.length ≠ 0) (h' : key.length ≤ 64) : key ++ (List.replicate (64 + n) 0).drop key.length = kpad key ++ List.replicate n 0 := by
  rw [kpad_some h, List.drop_replicate, List.append_assoc, List.replicate_append_replicate, show 64 + n - key.length = 64 - key.length + n by omega]
theorem cut_zero (A : Option Addr) (c : Nat) : cut A c 0 = A := by
  unfold cut
  split
  · rfl
  · cases A <;> simp [Addr.add]
end Go.X
namespace Go.X
open Go
def hashS (b : List Int) : List Int := sumS [] 32 b
@[simp] theorem hashS_length (b : List Int) : (hashS b).length = 32 := sumS_length [] b (Nat.le_refl _)
theorem Bytes.sumS (key : List Int) (s : Nat) (b : List Int) : Bytes (sumS key s b) := fun x hx => Bytes.out32 _ x (List.mem_of_mem_take hx)
theorem Bytes.hashS (b : List Int) : Bytes (hashS b) := Bytes.sumS [] 32 b
def mkey (key : List Int) : List Int := if 64 < key.length then hashS key else key
theorem mkey_long {key : List Int} (h : 64 < key.length) : mkey key = hashS key := if_pos h
theorem mkey_short {key : List Int} (h : key.length ≤ 64) : mkey key = key := if_neg (by omega)
theorem mkey_le (key : List Int) : (mkey key).length ≤ 64 := by
  unfold mkey; split
  · simp
  · omega
def kpd (key : List Int) : List Int := mkey key ++ List.replicate (64 - (mkey key).length) 0
@[simp] theorem kpd_length (key : List Int) : (kpd key).length = 64 := by have := mkey_le key; simp [kpd]; omega
theorem kpd_copy (key : List Int) : mkey key ++ (List.replicate 64 0).drop (mkey key).length = kpd key := by rw [List.drop_replicate, kpd]
theorem kpd_short {key : List Int} (h : key.length ≤ 64) : key ++ (List.replicate 64 0).drop key.length = kpd key := by rw [← kpd_copy, mkey_short h]
theorem kpd_long {key : List Int} (h : 64 < key.length) : hashS key ++ (List.replicate 64 0).drop 32 = kpd key := by rw [← kpd_copy, mkey_long h, hashS_length]
def kxf (c : Int) (key : List Int) (q : Nat) : Int := bits .xor .u8 ((kpd key).getD q 0) c
def kx (c : Int) (key : List Int) : List Int := gather (kxf c key) 64 []
@[simp] theorem kx_length (c : Int) (key : List Int) : (kx c key).length = 64 := by simp [kx]
def macS (key b : List Int) : List Int := hashS (kx 92 key ++ hashS (kx 54 key ++ b))
@[simp] theorem macS_length (key b : List Int) : (macS key b).length = 32 := hashS_length _
theorem Bytes.macS (key b : List Int) : Bytes (macS key b) := Bytes.hashS _
theorem fillAt_ahead (f : Nat → Int) (s : List Int) (j : Nat) : ∀ i, i ≤ j → (fillAt (fun q => q) f i s).getD j 0 = s.getD j 0
  | 0, _ => rfl
  | i + 1, h => by
    rw [fillAt, List.getD_eq_getElem?_getD, List.getElem?_set_ne (by omega), ← List.getD_eq_getElem?_getD]
    exact fillAt_ahead f s j i (by omega)
theorem fillAt_part (f : Nat → Int) (s : List Int) : ∀ i, i ≤ s.length → fillAt (fun q => q) f i s = gather f i [] ++ s.drop i
  | 0, _ => rfl
  | i + 1, h => by
    have hl : (gather f i []).length = i := by simp
    rw [fillAt, fillAt_part f s i (by omega), List.set_append_right _ _ (by omega), hl, Nat.sub_self, gather, List.drop_eq_getElem_cons (by omega), List.set_cons_zero, List.append_assoc]
    rfl
theorem fillAt_whole (f : Nat → Int) (s : List Int) (n : Nat) (h : s.length = n) : fillAt (fun q => q) f n s = gather f n [] := by
  rw [fillAt_part f s n (by omega), List.drop_of_length_le (by omega), List.append_nil]
theorem kx_fill (c : Int) (key : List Int) : fillAt (fun q => q) (kxf c key) 64 (kpd key) = kx c key := fillAt_whole _ _ 64 (kpd_length key)
end Go.X
namespace Go.X
open Go
def lastT (k info : List Int) : Nat → List Int
  | 0 => []
  | i + 1 => macS k (lastT k info i ++ info ++ [IntKind.u8.wrap (((i + 1 : Nat) : Int))])
def outT (k info : List Int) : Nat → List Int
  | 0 => []
  | i + 1 => outT k info i ++ lastT k info (i + 1)
@[simp] theorem lastT_succ (k info : List Int) (i : Nat) : (lastT k info (i + 1)).length = 32 := macS_length _ _
theorem lastT_le (k info : List Int) : ∀ i, (lastT k info i).length ≤ 32
  | 0 => by simp [lastT]
  | i + 1 => Nat.le_of_eq (lastT_succ k info i)
@[simp] theorem outT_length (k info : List Int) : ∀ i, (outT k info i).length = 32 * i
  | 0 => rfl
  | i + 1 => by rw [outT, List.length_append, outT_length k info i, lastT_succ]; omega
def expS (k info : List Int) (n : Nat) : List Int := (outT k info ((n + 31) / 32)).take n
@[simp] theorem expS_length (k info : List Int) (n : Nat) : (expS k info n).length = n := by simp [expS]; omega
theorem Bytes.app {xs ys : List Int} (h : Bytes xs) (g : Bytes ys) : Bytes (xs ++ ys) := fun x hx => (List.mem_append.1 hx).elim (h x) (g x)
theorem Bytes.take {xs : List Int} (h : Bytes xs) (n : Nat) : Bytes (xs.take n) := fun x hx => h x (List.mem_of_mem_take hx)
theorem Bytes.nil : Bytes [] := fun _ h => by cases h
theorem Bytes.lastT (k info : List Int) : ∀ i, Bytes (lastT k info i)
  | 0 => Bytes.nil
  | _ + 1 => Bytes.macS _ _
theorem Bytes.outT (k info : List Int) : ∀ i, Bytes (outT k info i)
  | 0 => Bytes.nil
  | i + 1 => (Bytes.outT k info i).app (Bytes.lastT k info (i + 1))
theorem Bytes.expS (k info : List Int) (n : Nat) : Bytes (expS k info n) := (Bytes.outT k info _).take n
def chainA (k b : List Int) : List Int := macS (macS k b) [1]
def chainB (k b : List Int) : List Int := macS (macS k b) (chainA k b ++ [2])
@[simp] theorem chainA_length (k b : List Int) : (chainA k b).length = 32 := macS_length _ _
@[simp] theorem chainB_length (k b : List Int) : (chainB k b).length = 32 := macS_length _ _
theorem copy33 (xs : List Int) (v : Int) (h : xs.length = 32) : (xs ++ (List.replicate 33 0).drop 32).set 32 v = xs ++ [v] := by
  rw [List.set_append_right _ _ (by omega), h]; rfl
def laterN : List Int := [115, 104, 101, 97, 118, 101, 32, 108, 97, 116, 101, 114]
def keyN : List Int := [115, 104, 101, 97, 118, 101, 32, 107, 101, 121]
def laterS (k : List Int) : List Int := expS k laterN 32
def ofS (k : List Int) : List Int := expS k keyN 32
@[simp] theorem laterS_length (k : List Int) : (laterS k).length = 32 := expS_length _ _ _
@[simp] theorem ofS_length (k : List Int) : (ofS k).length = 32 := expS_length _ _ _
end Go.X
namespace Go.X
open Go
def kd (n : Nat) : Nat := if n < 64 then 0 else if n < 16384 then 1 else if n < 1073741824 then 2 else 3
theorem kd_le (n : Nat) : kd n ≤ 3 := by unfold kd; split <;> (try omega); split <;> (try omega); split <;> omega
theorem kd_cases (n : Nat) (h : n < 4611686018427387904) : (kd n = 0 ∧ n < 64) ∨ (kd n = 1 ∧ 64 ≤ n ∧ n < 16384) ∨ (kd n = 2 ∧ 16384 ≤ n ∧ n < 1073741824) ∨ (kd n = 3 ∧ 1073741824 ≤ n ∧ n < 4611686018427387904) := by
  unfold kd
  split
  · exact .inl ⟨rfl, by omega⟩
  · split
    · exact .inr (.inl ⟨rfl, by omega, by omega⟩)
    · split
      · exact .inr (.inr (.inl ⟨rfl, by omega, by omega⟩))
      · exact .inr (.inr (.inr ⟨rfl, by omega, h⟩))
def bt (n q : Nat) : Int := ((n / 256 ^ q % 256 : Nat) : Int)
theorem bt_ok (n q : Nat) : 0 ≤ bt n q ∧ bt n q < 256 := by unfold bt; omega
def bigf (n s q : Nat) : Int := bt n (s - 1 - q)
def bigS (n s : Nat) : List Int := gather (bigf n s) s []
@[simp] theorem bigS_length (n s : Nat) : (bigS n s).length = s := by simp [bigS]
theorem Bytes.bigS (n s : Nat) : Bytes (bigS n s) := Bytes.gather (fun _ => bt_ok _ _) (fun _ hx => by cases hx) s
theorem shr_bt (n q : Nat) (h : n < 9223372036854775808) (hq : q ≤ 7) : IntKind.u8.wrap (shr .i64 ((n : Nat) : Int) (8 * ((q : Nat) : Int))) = bt n q := by
  rw [show (8 * ((q : Nat) : Int)) = ((8 * q : Nat) : Int) by omega, shr_nat .i64 n (8 * q) (by simp [IntKind.bits]; omega), bt, Nat.pow_mul]
  simp [IntKind.wrap, IntKind.bits, IntKind.signed]
def putV (n : Nat) : List Int := (bigS n (2 ^ kd n)).set 0 (bt n (2 ^ kd n - 1) + 64 * ((kd n : Nat) : Int))
@[simp] theorem putV_length (n : Nat) : (putV n).length = 2 ^ kd n := by simp [putV]
def tk (b : List Int) : Nat := (b.getD 0 0).toNat / 64
theorem pow_kd (n : Nat) (h : n < 4611686018427387904) : n < 64 * 256 ^ (2 ^ kd n - 1) := by
  rcases kd_cases n h with ⟨e, h1⟩ | ⟨e, h1, h2⟩ | ⟨e, h1, h2⟩ | ⟨e, h1, h2⟩ <;> rw [e] <;> omega
theorem top_lt (n : Nat) (h : n < 4611686018427387904) : bt n (2 ^ kd n - 1) < 64 := by
  have hp := pow_kd n h
  have : n / 256 ^ (2 ^ kd n - 1) < 64 := by rw [Nat.div_lt_iff_lt_mul (Nat.pow_pos (by decide))]; exact hp
  unfold bt
  generalize n / 256 ^ (2 ^ kd n - 1) = m at *
  omega
end Go.X
namespace Go.X
def kt (i : Nat) : Nat := ([6, 14, 30, 62] : List Nat).getD i 0
theorem kt_get {i : Nat} (h : i < 4) : ([6, 14, 30, 62] : List Int).getD i 0 = ((kt i : Nat) : Int) := by
  match i, h with
  | 0, _ => rfl
  | 1, _ => rfl
  | 2, _ => rfl
  | 3, _ => rfl
theorem no_step {m i : Nat} (h : ∀ q, q < i → ¬ m < 2 ^ kt q) (hi : ¬ m < 2 ^ kt i) (q : Nat) (hq : q < i + 1) : ¬ m < 2 ^ kt q := by
  by_cases e : q = i
  · subst e; exact hi
  · exact h q (by omega)
theorem kt_last (m : Nat) : m < 4611686018427387904 ↔ m < 2 ^ kt 3 := Iff.rfl
theorem kd_first {m i : Nat} (hi : i < 4) (h : m < 2 ^ kt i) (hno : ∀ q, q < i → ¬ m < 2 ^ kt q) : kd m = i := by
  match i, hi with
  | 0, _ =>
    have h : m < 64 := h
    exact if_pos h
  | 1, _ =>
    have h0 : ¬ m < 64 := hno 0 (by omega)
    have h : m < 16384 := h
    rw [kd, if_neg h0, if_pos h]
  | 2, _ =>
    have h0 : ¬ m < 64 := hno 0 (by omega)
    have h1 : ¬ m < 16384 := hno 1 (by omega)
    have h : m < 1073741824 := h
    rw [kd, if_neg h0, if_neg h1, if_pos h]
  | 3, _ =>
    have h0 : ¬ m < 64 := hno 0 (by omega)
    have h1 : ¬ m < 16384 := hno 1 (by omega)
    have h2 : ¬ m < 1073741824 := hno 2 (by omega)
    rw [kd, if_neg h0, if_neg h1, if_neg h2]
end Go.X
namespace Go.X
end Go.X
namespace Go.X
def own (b : List Int) : List Int := (b.take (2 ^ tk b)).set 0 (b.getD 0 0 % 64)
theorem Bytes.own {b : List Int} (h : Bytes b) : Bytes (own b) := by
  have := h.getD 0
  exact Bytes.set (h.take _) (by omega) 0
end Go.X
namespace Go.X
end Go.X
namespace Go.X
theorem Bytes.putV {n : Nat} (h : n < 4611686018427387904) : Bytes (putV n) := by
  have h1 := top_lt n h
  have h0 := bt_ok n (2 ^ kd n - 1)
  have hk := kd_le n
  exact Bytes.set (Bytes.bigS _ _) (by omega) 0
end Go.X
namespace Go.X
end Go.X
namespace Go.X
open Go
def hd (r p e c : Nat) : List Int := [3, (r : Int), (p : Int), bt e 1, bt e 0, bt c 5, bt c 4, bt c 3, bt c 2, bt c 1, bt c 0]
@[simp] theorem hd_length (r p e c : Nat) : (hd r p e c).length = 11 := rfl
theorem Bytes.hd {r p e c : Nat} (hr : r ≤ 1) (hp : p ≤ 255) : Bytes (hd r p e c) := by
  intro x hx
  simp only [Go.X.hd, List.mem_cons, List.not_mem_nil, or_false] at hx
  have h := fun n q => bt_ok n q
  rcases hx with rfl | rfl | rfl | rfl | rfl | rfl | rfl | rfl | rfl | rfl | rfl <;> first | omega | exact bt_ok _ _
def nn (p e c : Nat) : List Int := [(p : Int), bt e 1, bt e 0, 0, 0, 0, bt c 5, bt c 4, bt c 3, bt c 2, bt c 1, bt c 0]
@[simp] theorem nn_length (p e c : Nat) : (nn p e c).length = 12 := rfl
end Go.X
namespace Go.X
open Go
def keyS (E f : Int) (s0 s1 : List Int) (e : Int) : List Int × Int := if e < f ∨ (e ≠ E ∧ e ≠ E - 1) then (List.replicate 32 0, 150) else if e = E then (ofS s0, 0) else (ofS s1, 0)
def refKeyS (E : Int) (now last : List Int) (hs : Bool) (e : Int) : List Int × Int := if e = E then (ofS now, 0) else if e = E - 1 ∧ hs = true then (ofS last, 0) else (List.replicate 32 0, 150)
@[simp] theorem keyS_length (E f : Int) (s0 s1 : List Int) (e : Int) : (keyS E f s0 s1 e).1.length = 32 := by
  unfold keyS; split
  · simp
  · split <;> simp
@[simp] theorem refKeyS_length (E : Int) (now last : List Int) (hs : Bool) (e : Int) : (refKeyS E now last hs e).1.length = 32 := by
  unfold refKeyS; split
  · simp
  · split <;> simp
def nextS (E : Int) (s0 : List Int) : List Int × Int := if 65535 ≤ E then (List.replicate 32 0, 6) else (ofS (laterS s0), 0)
@[simp] theorem nextS_length (E : Int) (s0 : List Int) : (nextS E s0).1.length = 32 := by unfold nextS; split <;> simp
def itS (key : List Int) : Nat → List Int
  | 0 => key
  | i + 1 => laterS (itS key i)
@[simp] theorem itS_length {key : List Int} (h : key.length = 32) : ∀ i, (itS key i).length = 32
  | 0 => h
  | _ + 1 => laterS_length _
def k7 : List Int := 7 :: List.replicate 31 0
@[simp] theorem k7_length : k7.length = 32 := rfl
end Go.X
namespace Go.X
open Go
def zkey : List Int := List.replicate 32 0
@[simp] theorem zkey_length : zkey.length = 32 := rfl
end Go.X
namespace Go.X
open Go
end Go.X
namespace Go.Proofs.YtpklnjegimchoaaGreatDoor
open Go Go.X
theorem ar338 : arr Tryz.prog 338 = some (4, 275, 1) := by kernel_rfl
theorem ar38 : arr Tryz.prog 38 = some (32, 5, 1) := by kernel_rfl
theorem ar189 : arr Tryz.prog 189 = some (12, 5, 1) := by kernel_rfl
theorem ar311 : arr Tryz.prog 311 = some (64, 5, 1) := by kernel_rfl
theorem ar337 : arr Tryz.prog 337 = some (16, 275, 1) := by kernel_rfl
theorem ar340 : arr Tryz.prog 340 = some (4, 3, 1) := by kernel_rfl
theorem ar341 : arr Tryz.prog 341 = some (8, 340, 4) := by kernel_rfl
theorem sc22 : slc Tryz.prog 22 = some (5, 1, 1) := by kernel_rfl
theorem sc32 : slc Tryz.prog 32 = some (3, 1, 8) := by kernel_rfl
theorem ss3 : scalar Tryz.prog 3 = true := by kernel_rfl
theorem ss5 : scalar Tryz.prog 5 = true := by kernel_rfl
theorem ss275 : scalar Tryz.prog 275 = true := by kernel_rfl
theorem un3 : Tryz.prog.underlying 3 = some (.int .i64) := by kernel_rfl
theorem un5 : Tryz.prog.underlying 5 = some (.int .u8) := by kernel_rfl
theorem un9 : Tryz.prog.underlying 9 = some (.string) := by kernel_rfl
theorem un275 : Tryz.prog.underlying 275 = some (.int .u32) := by kernel_rfl
theorem un301 : Tryz.prog.underlying 301 = some (.int .u64) := by kernel_rfl
theorem wd338 : wide Tryz.prog 338 = some 4 := by kernel_rfl
theorem wd38 : wide Tryz.prog 38 = some 32 := by kernel_rfl
theorem wd189 : wide Tryz.prog 189 = some 12 := by kernel_rfl
theorem wd311 : wide Tryz.prog 311 = some 64 := by kernel_rfl
theorem wd337 : wide Tryz.prog 337 = some 16 := by kernel_rfl
theorem wd340 : wide Tryz.prog 340 = some 4 := by kernel_rfl
theorem wd341 : wide Tryz.prog 341 = some 32 := by kernel_rfl
theorem ze3 : zer Tryz.prog 3 = some ([.int .i64 0]) := by kernel_rfl
theorem ze5 : zer Tryz.prog 5 = some ([.int .u8 0]) := by kernel_rfl
theorem ze338 : zer Tryz.prog 338 = some (ints .u32 (List.replicate 4 0)) := by kernel_rfl
theorem ze38 : zer Tryz.prog 38 = some (ints .u8 (List.replicate 32 0)) := by kernel_rfl
theorem ze311 : zer Tryz.prog 311 = some (ints .u8 (List.replicate 64 0)) := by kernel_rfl
theorem ze337 : zer Tryz.prog 337 = some (ints .u32 (List.replicate 16 0)) := by kernel_rfl
theorem ze340 : zer Tryz.prog 340 = some (ints .i64 (List.replicate 4 0)) := by kernel_rfl
theorem enters263 : Enters Tryz.prog 263 := enters_of Tryz.func263 (by kernel_rfl) (by kernel_rfl)
theorem enters235 : Enters Tryz.prog 235 := enters_of Tryz.func235 (by kernel_rfl) (by kernel_rfl)
theorem enters185 : Enters Tryz.prog 185 := enters_of Tryz.func185 (by kernel_rfl) (by kernel_rfl)
theorem enters280 : Enters Tryz.prog 280 := enters_of Tryz.func280 (by kernel_rfl) (by kernel_rfl)
theorem enters262 : Enters Tryz.prog 262 := enters_of Tryz.func262 (by kernel_rfl) (by kernel_rfl)
theorem ar37 : arr Tryz.prog 37 = some (32, 5, 1) := by kernel_rfl
theorem ar333 : arr Tryz.prog 333 = some (8, 275, 1) := by kernel_rfl
theorem ar271 : arr Tryz.prog 271 = some (16, 5, 1) := by kernel_rfl
theorem ar357 : arr Tryz.prog 357 = some (10, 271, 16) := by kernel_rfl
theorem ar358 : arr Tryz.prog 358 = some (4, 5, 1) := by kernel_rfl
theorem ar359 : arr Tryz.prog 359 = some (8, 358, 4) := by kernel_rfl
theorem un22 : Tryz.prog.underlying 22 = some (.slice 5) := by kernel_rfl
theorem un240 : Tryz.prog.underlying 240 = some (.int .u64) := by kernel_rfl
theorem wd333 : wide Tryz.prog 333 = some 8 := by kernel_rfl
theorem wd271 : wide Tryz.prog 271 = some 16 := by kernel_rfl
theorem wd357 : wide Tryz.prog 357 = some 160 := by kernel_rfl
theorem wd358 : wide Tryz.prog 358 = some 4 := by kernel_rfl
theorem wd359 : wide Tryz.prog 359 = some 32 := by kernel_rfl
theorem ze37 : zer Tryz.prog 37 = some (ints .u8 (List.replicate 32 0)) := by kernel_rfl
theorem ze333 : zer Tryz.prog 333 = some (ints .u32 (List.replicate 8 0)) := by kernel_rfl
theorem ze271 : zer Tryz.prog 271 = some (ints .u8 (List.replicate 16 0)) := by kernel_rfl
theorem ze358 : zer Tryz.prog 358 = some (ints .u8 (List.replicate 4 0)) := by kernel_rfl
theorem enters217 : Enters Tryz.prog 217 := enters_of Tryz.func217 (by kernel_rfl) (by kernel_rfl)
theorem enters154 : Enters Tryz.prog 154 := enters_of Tryz.func154 (by kernel_rfl) (by kernel_rfl)
theorem enters274 : Enters Tryz.prog 274 := enters_of Tryz.func274 (by kernel_rfl) (by kernel_rfl)
theorem enters258 : Enters Tryz.prog 258 := enters_of Tryz.func258 (by kernel_rfl) (by kernel_rfl)
theorem enters279 : Enters Tryz.prog 279 := enters_of Tryz.func279 (by kernel_rfl) (by kernel_rfl)
theorem ss22 : scalar Tryz.prog 22 = true := by kernel_rfl
theorem enters114 : Enters Tryz.prog 114 := enters_of Tryz.func114 (by kernel_rfl) (by kernel_rfl)
theorem ar353 : arr Tryz.prog 353 = some (33, 5, 1) := by kernel_rfl
theorem sc79 : slc Tryz.prog 79 = some (22, 1, 24) := by kernel_rfl
theorem ze22 : zer Tryz.prog 22 = some ([.slice none 0 0]) := by kernel_rfl
theorem ze353 : zer Tryz.prog 353 = some (ints .u8 (List.replicate 33 0)) := by kernel_rfl
theorem enters271 : Enters Tryz.prog 271 := enters_of Tryz.func271 (by kernel_rfl) (by kernel_rfl)
theorem enters234 : Enters Tryz.prog 234 := enters_of Tryz.func234 (by kernel_rfl) (by kernel_rfl)
theorem enters246 : Enters Tryz.prog 246 := enters_of Tryz.func246 (by kernel_rfl) (by kernel_rfl)
theorem enters155 : Enters Tryz.prog 155 := enters_of Tryz.func155 (by kernel_rfl) (by kernel_rfl)
theorem enters286 : Enters Tryz.prog 286 := enters_of Tryz.func286 (by kernel_rfl) (by kernel_rfl)
theorem enters240 : Enters Tryz.prog 240 := enters_of Tryz.func240 (by kernel_rfl) (by kernel_rfl)
theorem enters218 : Enters Tryz.prog 218 := enters_of Tryz.func218 (by kernel_rfl) (by kernel_rfl)
theorem ar370 : arr Tryz.prog 370 = some (3, 3, 1) := by kernel_rfl
theorem wd370 : wide Tryz.prog 370 = some 3 := by kernel_rfl
theorem ze370 : zer Tryz.prog 370 = some (ints .i64 (List.replicate 3 0)) := by kernel_rfl
theorem enters272 : Enters Tryz.prog 272 := enters_of Tryz.func272 (by kernel_rfl) (by kernel_rfl)
theorem enters28 : Enters Tryz.prog 28 := enters_of Tryz.func28 (by kernel_rfl) (by kernel_rfl)
theorem enters238 : Enters Tryz.prog 238 := enters_of Tryz.func238 (by kernel_rfl) (by kernel_rfl)
theorem enters287 : Enters Tryz.prog 287 := enters_of Tryz.func287 (by kernel_rfl) (by kernel_rfl)
theorem enters288 : Enters Tryz.prog 288 := enters_of Tryz.func288 (by kernel_rfl) (by kernel_rfl)
theorem enters270 : Enters Tryz.prog 270 := enters_of Tryz.func270 (by kernel_rfl) (by kernel_rfl)
end Go.Proofs.YtpklnjegimchoaaGreatDoor
