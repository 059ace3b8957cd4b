/-
  Texts of numbers, joined texts; all that the whole program's runs ask.
-/
import Derived.Test.YtpklnjegimchoaaGreatDoorProg
import Derived.Shelf.Strings.OnBuilder
import Derived.Shelf.Strconv.Itoa3
import Derived.Lib.ItoaLen
import Derived.KernelRfl
import Derived.Test.YtpklnjegimchoaaGreatDoorMA
import Derived.Test.YtpklnjegimchoaaGreatDoorMQ
import Derived.Test.YtpklnjegimchoaaGreatDoorMV
namespace Go.Proofs.YtpklnjegimchoaaGreatDoor
open Go Go.X
def renI : Shelf.Ren := ⟨fun x => match x with | 171 => 81 | 243 => 150 | 246 => 214 | 283 => 252 | 284 => 253 | 285 => 254 | 286 => 255 | 129 => 270 | 317 => 275 | 318 => 276 | 319 => 277 | 320 => 278 | 337 => 289 | 338 => 290 | n => n, fun x => match x with | 3 => 3 | 9 => 9 | 2 => 2 | 4 => 4 | 171 => 326 | 0 => 0 | 53 => 240 | 37 => 22 | 5 => 5 | 173 => 329 | 212 => 355 | 51 => 275 | 20 => 20 | 213 => 356 | 46 => 301 | 232 => 37 | 233 => 311 | n => n, fun x => match x with | 17 => 6 | 18 => 11 | 19 => 12 | n => n⟩
def renJ : Shelf.Ren := ⟨fun x => match x with | 156 => 82 | 165 => 151 | 166 => 152 | 169 => 153 | 240 => 215 | 241 => 216 | 276 => 256 | 277 => 257 | n => n, fun x => match x with | 31 => 146 | 9 => 9 | 3 => 3 | 4 => 4 | 0 => 0 | 20 => 20 | 72 => 233 | 76 => 236 | 70 => 231 | 37 => 22 | 75 => 235 | 127 => 295 | 164 => 331 | 5 => 5 | 80 => 238 | n => n, fun x => x⟩
theorem laysI : LaysM.n171 Tryz.prog renI := by
  constructor
  all_goals first | kernel_rfl | (intro _; kernel_rfl) | (constructor <;> first | kernel_rfl | (intro _; kernel_rfl))
theorem laysJ : Lays.n156 Tryz.prog renJ := by
  constructor
  all_goals first | kernel_rfl | (intro _; kernel_rfl)
theorem extraJ : Builder.Extra Tryz.prog renJ := by
  refine ⟨⟨?_, ?_⟩, ?_, ?_, ?_, ?_, ?_, ?_, ?_, ?_⟩
  all_goals first | kernel_rfl | (intro _; kernel_rfl) | (show (233 : Nat) ≠ 5; decide)
theorem kept_grow (w : World) (k : Nat) (os : Array Obj) : Kept [] w (Sort.grow (w.drewN k) os) :=
  ⟨rfl, rfl, rfl, by show w.heap.size ≤ (w.heap ++ os).size; simp, fun k hk _ => by show (w.heap ++ os)[k]? = _; rw [Array.getElem?_append_left hk]⟩
theorem kept_below {w w' : World} (h : RowKit.Below w.heap.size w w') : Kept [] w w' := ⟨h.os, h.tape, h.output, h.size, fun k hk _ => h.block k hk⟩
theorem enters81 : Enters Tryz.prog 81 := Go.X.enters_of Tryz.func81 (by kernel_rfl) (by kernel_rfl)
theorem enters82 : Enters Tryz.prog 82 := Go.X.enters_of Tryz.func82 (by kernel_rfl) (by kernel_rfl)
abbrev Pow10 (w : World) : Prop := Lib.TabIs Tryz.prog w "internal/strconv.uint64pow10" .u64 Lib.pow10Tab
theorem itoa81 (n : Int) (h0 : -9223372036854775808 ≤ n) (h1 : n ≤ 9223372036854775807) (w : World) (hT : Pow10 w) : Calls Tryz.prog 81 #[.int .i64 n] w fun e w' => e = .returned (.string ⟨(Lib.itoa n).toArray⟩) ∧ Kept [] w w' :=
  (Any.strconv_Itoa laysI n h0 h1 w hT).mono fun _ _ ⟨he, k, os, hw⟩ => ⟨he, hw ▸ kept_grow w k os⟩
theorem join82 (bk o c : Nat) (xs : List ByteArray) (sep : ByteArray) (w : World) (hcells : ∀ (j : Nat) x, xs[j]? = some x → w.cell? ⟨bk, o + j, none⟩ = some (.string x)) (hbk : bk < w.heap.size) (hN : xs.length ≤ 140737488355328) (hcap : xs.length ≤ c) (hlen : (Lib.join (xs.map (·.data.toList)) sep.data.toList).length ≤ 140737488355328) :
    Calls Tryz.prog 82 #[.slice (some ⟨bk, o, none⟩) xs.length c, .string sep] w fun e w' => e = .returned (.string ⟨(Lib.join (xs.map (·.data.toList)) sep.data.toList).toArray⟩) ∧ Kept [] w w' :=
  (Any.strings_Join laysJ extraJ bk o c xs sep w hcells hbk hN hcap hlen).mono fun _ _ ⟨he, hb⟩ => ⟨he, kept_below hb⟩
theorem pow10_kept {w w' : World} (h : Pow10 w) (hk : Kept [] w w') : Pow10 w' := by
  unfold Pow10 Lib.TabIs World.var? at h ⊢
  have hg : Tryz.prog.globalNamed "internal/strconv.uint64pow10" = some 6 := laysI.m17
  rw [hg] at h ⊢
  simp only [Option.bind_some] at h ⊢
  have hlt : 6 < w.heap.size := by
    by_cases hc : 6 < w.heap.size
    · exact hc
    · rw [Array.getElem?_eq_none (by omega)] at h
      cases h
  rw [hk.block 6 hlt (by simp)]
  exact h
end Go.Proofs.YtpklnjegimchoaaGreatDoor
namespace Go.Proofs.YtpklnjegimchoaaGreatDoor
open Go Go.X Go.Z
section
variable {sl : SealF} {hsl : ∀ k n b t, Bytes (sl k n b t)} {w0 w : World} {ρ ρ' : Env} {g g' : G}
theorem ent_txt {I : In} {f : FuncId} {vs : List Value} {s : ByteArray} {i : Nat} (hent : Enters Tryz.prog f) (hc : Calls Tryz.prog f vs.toArray w fun e w' => e = .returned (.string s) ∧ Kept [] w w') (hle : ρ.le ρ') (hg : Gok I w0 ρ' g' w) (hi : ρ'.s i = some s) : Ent Tryz.prog I w0 ρ f vs w (.e (.c (.sym i))) g' := by
  refine .inl ⟨fun w => hent _ w, Calls.mono hc ?_⟩
  rintro e w' ⟨rfl, hk⟩
  exact ⟨ρ', _, hle, rfl, by simp only [SV.ev, EV.ev, SC.ev, hi, Option.map_some], hg.kept hk⟩
theorem pItoa_ok (hT : Pow10 w0) : PrimOk Tryz.prog (inZ sl hsl) w0 81 pItoa := by
  intro args g r g' h ρ vs w hvs hg
  unfold pItoa at h
  split at h
  · next n =>
    split at h
    · next lo hi hr =>
      cases hb : (ile (-9223372036854775808) lo && ile hi 9223372036854775807) with
      | false => rw [hb, cond_false] at h; cases h
      | true =>
        rw [hb, cond_true] at h
        simp only [Bool.and_eq_true] at hb
        have h1 := ile_true hb.1
        have h2 := ile_true hb.2
        obtain ⟨z, hz, h3, h4⟩ := rng_ok hg.env.bok hr
        split at h
        next i e hmk =>
        cases h
        simp only [evVs, SV.ev, EV.ev, SC.ev, hz, Option.map_some] at hvs
        cases hvs
        obtain ⟨ρ', hle, hi, hg'⟩ := mkS_ok hg hmk (s := ⟨(Lib.itoa z).toArray⟩) (us := [[.int .i64 z]]) (by
          have := Lib.itoa_length_le z (by omega) (by omega)
          show ((Lib.itoa z).toArray.size : Int) ≤ 21
          rw [List.size_toArray]; omega) (by simp only [evAs, Cs.ev, Seg.ev, SC.ev, hz, Option.map_some]; rfl) ⟨z, rfl, rfl⟩
        exact ent_txt enters81 (itoa81 z (by omega) (by omega) w (pow10_kept hT hg.mem.kept)) hle hg' hi
    · cases h
  · cases h
theorem upAll_ok {I : In} (hg : Gok I w0 ρ g w) {p : Nat} : ∀ {cs : Cs} {n : Int} {vs : List Value}, upAll g (.ofNat p) cs = some n → Cs.ev ρ cs = some vs → ∃ xs : List ByteArray, vs = xs.map .string ∧ (xs.map fun x => x.size + p).sum ≤ n ∧ xs.length = lenN cs
  | [], n, vs, h, hv => by cases h; cases hv; exact ⟨[], rfl, by simp, rfl⟩
  | s :: r, n, vs, h, hv => by
    unfold upAll at h
    split at h
    · next heq => cases heq
    · next x r' heq =>
      cases heq
      split at h
      · next a b ha hb =>
        cases h
        obtain ⟨v, u, hv1, hv2, rfl⟩ := Cs.ev_one1 hv
        obtain ⟨s1, rfl, hs1⟩ := txtUp_ok hg ha hv1
        obtain ⟨xs, rfl, h3, h4⟩ := upAll_ok hg hb hv2
        refine ⟨s1 :: xs, rfl, ?_, by simp only [List.length_cons, h4]; rfl⟩
        simp only [List.map_cons, List.sum_cons]
        have e1 : Int.add (Int.add a (.ofNat p)) b = a + (p : Int) + b := rfl
        rw [e1]
        omega
      · cases h
    · cases h
theorem join_le (p : List UInt8) : ∀ (xs : List (List UInt8)), (Lib.join xs p).length ≤ (xs.map fun x => x.length + p.length).sum
  | [] => by simp [Lib.join]
  | [x] => by simp [Lib.join]
  | x :: y :: r => by
    have ih := join_le p (y :: r)
    have e : Lib.join (x :: y :: r) p = x ++ p ++ Lib.join (y :: r) p := by simp [Lib.join, List.intercalate]
    rw [e]
    simp only [List.length_append, List.map_cons, List.sum_cons] at ih ⊢
    omega
theorem pJoin_ok : PrimOk Tryz.prog (inZ sl hsl) w0 82 pJoin := by
  intro args g r g' h ρ vs w hvs hg
  unfold pJoin at h
  split at h
  · next b o l c p =>
    split at h
    · next cs cs0 ty hcs hb0 =>
      split at h
      · next n hn =>
        cases hb : (ile n 1000000 && Nat.blt (lenN cs) 1000000) with
        | false => rw [hb, cond_false] at h; cases h
        | true =>
          rw [hb, cond_true] at h
          simp only [Bool.and_eq_true] at hb
          have hn1 := ile_true hb.1
          have hn2 := blt_iff.1 hb.2
          split at h
          next i e hmk =>
          cases h
          simp only [evVs] at hvs
          split at hvs
          · next v vr hx hvr =>
            cases hvs
            cases hvr
            obtain ⟨ad, lv, cv, had, hl, hc, hlc, rfl⟩ := slc_ev hx
            obtain ⟨ad', had', k, vs0, rfl, _, hblk⟩ := hg.mem.has b _ hb0
            rw [had] at had'
            cases had'
            obtain ⟨ad2, vv, had2, hvv, hlen, hrd⟩ := slCs_ok hg hcs hl
            rw [had] at had2
            cases had2
            obtain ⟨xs, rfl, hx1, hx2⟩ := upAll_ok hg hn hvv
            rw [List.length_map] at hlen
            have hll : lv = xs.length := by omega
            subst hll
            have hsum : (Lib.join (xs.map (·.data.toList)) p.data.toList).length ≤ (xs.map fun x => x.size + p.size).sum := by
              have := join_le p.data.toList (xs.map (·.data.toList))
              rw [List.map_map] at this
              exact this
            obtain ⟨ρ', hle, hi, hg'⟩ := mkS_ok hg hmk (s := ⟨(Lib.join (xs.map (·.data.toList)) p.data.toList).toArray⟩) (us := [xs.map .string, [.string p]]) (by
              show ((Lib.join (xs.map (·.data.toList)) p.data.toList).toArray.size : Int) ≤ n
              rw [List.size_toArray]; omega) (by simp only [evAs, hvv, Cs.ev, Seg.ev, SC.ev, Option.map_some]; rfl) ⟨xs, p, rfl, rfl⟩
            refine ent_txt enters82 ?_ hle hg' hi
            have := join82 k o cv xs p w (fun j x hj => by
              have := hrd j (.string x) (by rw [List.getElem?_map, hj]; rfl)
              rw [add_lit, add_lit, Nat.zero_add] at this
              exact this) (Array.getElem?_eq_some_iff.1 hblk).1 (by omega) (by omega) (by omega)
            rw [add_lit, Nat.zero_add]
            exact this
          · cases hvs
      · cases h
    · cases h
  · cases h
end
end Go.Proofs.YtpklnjegimchoaaGreatDoor
namespace Go.Proofs.YtpklnjegimchoaaGreatDoor
open Go Go.X Go.Z
set_option maxRecDepth 1000000
def useW : List Nat := [3, 4, 5, 6, 7, 8, 9, 10, 11, 12, 13, 15, 16, 17, 18, 19, 21, 22, 23, 27, 28, 29, 30, 31, 32, 33, 34, 35, 38, 42, 43, 44, 45, 46, 47, 48, 50, 53, 55, 56, 57, 58, 59, 60, 61, 62, 63, 64, 65, 66, 67, 68, 69, 70, 71, 77, 78, 79, 80, 83, 84, 85, 95, 96, 97, 98, 99, 101, 102, 103, 104, 105, 106, 107, 108, 110, 111, 113, 115, 116, 117, 120, 122, 124, 125, 126, 127, 128, 129, 130, 131, 133, 135, 137, 139, 140, 141, 142, 144, 145, 146, 147, 148, 149, 155, 163, 164, 165, 166, 167, 168, 169, 170, 171, 172, 173, 174, 175, 176, 177, 178, 179, 181, 182, 186, 188, 189, 190, 192, 199, 200, 201, 205, 207, 208, 209, 210, 211, 213, 218, 224, 225, 226, 227, 231, 232, 233, 239, 241, 242, 247, 249, 250, 251, 259, 261]
def useN : Nat := 4638253614863978499435352875224751551185217786732050733092343468564166109806584
def path12 : List SC := [.int .i64 (.k 0), .int .i64 (.k 0), .int .i64 (.k 0), .int .i64 (.k 0), .int .u8 (.k 0), .int .u8 (.k 0), .int .u8 (.k 0), .int .u8 (.k 0), .int .u8 (.k 0), .int .u8 (.k 0), .int .u8 (.k 0), .int .u8 (.k 0)]
def zt0 : Zt := [(97, [.rep path12 256]), (98, [.rep path12 256]), (99, [.rep path12 256])]
def path12v : List Value := [.int .i64 0, .int .i64 0, .int .i64 0, .int .i64 0, .int .u8 0, .int .u8 0, .int .u8 0, .int .u8 0, .int .u8 0, .int .u8 0, .int .u8 0, .int .u8 0]
theorem ev12 (ρ : Env) : Cs.ev ρ [.rep path12 256] = some (times 256 path12v) := by
  have e : evSs ρ path12 = some path12v := rfl
  simp only [Cs.ev, Seg.ev, e, Option.map_some, List.append_nil]
theorem z97 : zer Tryz.prog 97 = some (times 256 path12v) := by kernel_rfl
theorem z98 : zer Tryz.prog 98 = some (times 256 path12v) := by kernel_rfl
theorem z99 : zer Tryz.prog 99 = some (times 256 path12v) := by kernel_rfl
theorem zt0_ok : zt0.Ok Tryz.prog := fun p hp => by
  simp only [zt0, List.mem_cons, List.not_mem_nil, or_false] at hp
  rcases hp with rfl | rfl | rfl
  · exact ⟨_, z97, ev12⟩
  · exact ⟨_, z98, ev12⟩
  · exact ⟨_, z99, ev12⟩
noncomputable def cfS : Cf := { zt := zt0, keep := keepF, pl := fun _ _ => none, tmps := fun _ => [], use := fun _ => false, prim := fun _ => none, dfr := fun _ _ => false, skip := fun _ _ => none, lpd := lpdF }
theorem cfS_ok (I : In) (w : World) : CfOk Tryz.prog I w cfS where
  zt := zt0_ok
  mixed := mixed
  use := fun f hu => by cases hu
  prim := fun f p hp => by cases hp
  dfr := fun f k hd => by cases hd
theorem s131 : tabRun Tryz.prog cfS 100 131 68 (loopAt Tryz.f131.body 4) 10 [1, 5] = true := by kernel_rfl
theorem s22 : tabRun Tryz.prog cfS 100 22 22 (loopAt Tryz.f22.body 3) 5 [3] = true := by kernel_rfl
theorem s116 : tabRun Tryz.prog cfS 100 116 52 (loopAt Tryz.f116.body 7) 24 [1, 5, 7] = true := by kernel_rfl
theorem s70 : mapRun Tryz.prog cfS 100 70 171 (loopAt Tryz.f70.body 13) 83 [1] 114 = true := by kernel_rfl
noncomputable def skipW : Nat → Nat → Option (Nat → Sl → G → Option (Sl × G))
  | 131, 4 => some (tabSk 68 10 [1, 5])
  | 22, 3 => some (tabSk 22 5 [3])
  | 116, 7 => some (tabSk 52 24 [1, 5, 7])
  | 70, 13 => some (mapSk 171 83 [1] 114)
  | _, _ => none
noncomputable def primW : Nat → Option (List SV → G → Option (SV × G))
  | 154 => some pHash
  | 246 => some pChain
  | 234 => some pOf
  | 212 => some pSeal
  | 109 => some pOpen
  | 272 => some pKind
  | 238 => some pLen
  | 81 => some pItoa
  | 82 => some pJoin
  | 220 => some pAdd
  | 222 => some pSub
  | 223 => some pMul
  | 20 => some pPub
  | 198 => some pSh
  | _ => none
noncomputable def cfW : Cf := { zt := zt0, keep := keepF, pl := plF, tmps := tmpF, use := fun f => bitN useN f, prim := primW, dfr := fun f k => Nat.beq f 114 && Nat.beq k 2, skip := skipW, lpd := lpdF }
theorem useW_ok : allUse Tryz.prog cfW useW = true := by kernel_rfl
end Go.Proofs.YtpklnjegimchoaaGreatDoor
namespace Go.Proofs.YtpklnjegimchoaaGreatDoor
open Go Go.X Go.Z
set_option maxRecDepth 1000000
structure Ready (w : World) : Prop where
  glob : Glob w
  prime : Reads w (some ⟨10, 0, none⟩) (ints .u64 primeW)
  pow : Pow10 w
theorem Ready.kept {w w' : World} (h : Ready w) (hk : Kept [] w w') : Ready w' := ⟨h.glob.kept hk, reads_kept h.prime hk, pow10_kept h.pow hk⟩
theorem face20 : Tryz.prog.underlying 20 = some (.interface (Tryz.prog.methodsAt 20)) := by kernel_rfl
theorem idle_part {Q : Exit → Act → World → Prop} (v0 v1 : Value) (w0 : World) (hQ : ∀ (a : Act) (w : World), a.defers = [] → Kept [] w0 w → Q .normal a w) : W Tryz.prog [] 13 w0 [] Q (seq2 (Tryz.f114.body.getD .skip)) [(0, v0), (1, v1), (5, .nilIface)] [] := by
  refine W.block ?_
  refine W.seq ?_
  refine W.region ?_
  refine T.q (q_eqlNN face20 rfl rfl) (Wt.plain rfl) rfl rfl ?_
  refine T.nil ?_
  refine Ex.next ?_
  refine W.slots (L' := [(0, _), (1, _), (5, _), (7, _)]) ⟨rfl, rfl, rfl, rfl, trivial⟩ ?_
  refine W.condT rfl ?_
  refine W.region ?_
  refine T.q (q_assign rfl rfl) (Wt.plain rfl) rfl rfl ?_
  refine T.nil ?_
  refine Ex.in_normal ?_
  exact fun a w hf hm => hQ a w hf.defers hm.kept
theorem idle114 (v0 v1 : Value) (w0 : World) : CallsD Tryz.prog 114 #[v0, v1] .returning w0 fun en u' w' => (∃ v, en = .returned v) ∧ u' = .returning ∧ Kept [] w0 w' := by
  refine callsD_of_wpS Tryz.func114 rfl fun c₀ cs hu => ?_
  apply wpS_seq
  apply wpS_region
  simp [wpOpsS, go_sem, recoverD, hu, Tryz.ntmps114, Exit.thenS]
  refine wpS_of_wp ?_
  refine idle_part v0 v1 w0 (fun a w hd hm => ?_) _ _ ⟨rfl, rfl, ?_⟩ (Mem.start w0 [])
  · refine ⟨hd, .returning, ?_, .tuple #[], ?_, ⟨_, rfl⟩, rfl, hm⟩
    · cases c₀; simp_all
    · exact results_none rfl _ _ _
  · intro t v h
    rcases t with _ | _ | _ | _ | _ | _ | t
    · obtain rfl := Option.some.inj (show some _ = some v from h); rfl
    · obtain rfl := Option.some.inj (show some _ = some v from h); rfl
    · cases (show (none : Option Value) = some v from h)
    · cases (show (none : Option Value) = some v from h)
    · cases (show (none : Option Value) = some v from h)
    · obtain rfl := Option.some.inj (show some _ = some v from h); rfl
    · cases (show (none : Option Value) = some v from h)
theorem dfrW {f k : Nat} (h : (Nat.beq f 114 && Nat.beq k 2) = true) : Enters Tryz.prog f ∧ ∀ vs : List Value, vs.length = k → ∀ w, CallsD Tryz.prog f vs.toArray .returning w fun e u w' => (∃ v, e = .returned v) ∧ u = .returning ∧ Kept [] w w' := by
  simp only [Bool.and_eq_true] at h
  obtain rfl := nat_ok h.1
  obtain rfl := nat_ok h.2
  refine ⟨enters114, fun vs hl w => ?_⟩
  match vs, hl with
  | [a, b], _ => exact idle114 a b w
theorem uniq131 : uniqB Tryz.f131.body = true := by kernel_rfl
theorem uniq22 : uniqB Tryz.f22.body = true := by kernel_rfl
theorem uniq116 : uniqB Tryz.f116.body = true := by kernel_rfl
theorem uniq70 : uniqB Tryz.f70.body = true := by kernel_rfl
theorem idle_code {I : In} {w : World} {f : FuncId} {b : Code} (h : codeOk cfS f b = true) : CodeOk Tryz.prog I w cfS f b := ⟨h, fun b' _ sk hs => by cases hs⟩
theorem code131 : codeOk cfS 131 (loopAt Tryz.f131.body 4) = true := by kernel_rfl
theorem code22 : codeOk cfS 22 (loopAt Tryz.f22.body 3) = true := by kernel_rfl
theorem code116 : codeOk cfS 116 (loopAt Tryz.f116.body 7) = true := by kernel_rfl
theorem code70 : codeOk cfS 70 (loopAt Tryz.f70.body 13) = true := by kernel_rfl
theorem loopAt_of {fn : Func} {c b : Code} {h : Nat} (hu : uniqB fn.body = true) (hc : fn.body = some c) (hb : b ∈ loopsOf c) (hh : headId b = h) : b = loopAt fn.body h := by
  rw [hc] at hu ⊢
  exact loopAt_ok hu hb hh
theorem skipW_ok (I : In) (w : World) : ∀ f, ∀ fn, Tryz.prog.funcs[f]? = some fn → ∀ c, fn.body = some c → ∀ b ∈ loopsOf c, ∀ sk, skipW f (headId b) = some sk → SkipOk Tryz.prog I w b sk := by
  intro f fn hf c hc b hb sk hs
  generalize hh : headId b = h at hs
  unfold skipW at hs
  split at hs
  · cases hs
    rw [Tryz.func131] at hf
    cases hf
    obtain rfl := loopAt_of uniq131 hc hb hh
    exact tab_skip 68 10 [1, 5] (by decide) (cfS_ok I) (fun _ => idle_code code131) s131
  · cases hs
    rw [Tryz.func22] at hf
    cases hf
    obtain rfl := loopAt_of uniq22 hc hb hh
    exact tab_skip 22 5 [3] (by decide) (cfS_ok I) (fun _ => idle_code code22) s22
  · cases hs
    rw [Tryz.func116] at hf
    cases hf
    obtain rfl := loopAt_of uniq116 hc hb hh
    exact tab_skip 52 24 [1, 5, 7] (by decide) (cfS_ok I) (fun _ => idle_code code116) s116
  · cases hs
    rw [Tryz.func70] at hf
    cases hf
    obtain rfl := loopAt_of uniq70 hc hb hh
    exact map_skip 171 83 [1] 114 (cfS_ok I) (fun _ => idle_code code70) s70
  · cases hs
theorem primW_ok {w : World} (h : Ready w) : ∀ f p, primW f = some p → PrimOk Tryz.prog inS w f p := fun f p hp => by
  unfold primW at hp
  split at hp <;> cases hp
  · exact pHash_ok _ h.glob
  · exact pChain_ok _ h.glob
  · exact pOf_ok _ h.glob
  · exact pSeal_ok h.glob h.prime
  · exact pOpen_ok h.glob h.prime
  · exact pKind_ok
  · exact pLen_ok
  · exact pItoa_ok h.pow
  · exact pJoin_ok
  · exact pAdd220
  · exact pSub222
  · exact pMul223
  · exact pPub_ok
  · exact pSh_ok
theorem useW_mem : (List.range 300).all (fun f => !bitN useN f || memN f useW) = true := by kernel_rfl
theorem useN_high : useN >>> 300 = 0 := by decide +kernel
theorem use_mem {f : Nat} (h : bitN useN f = true) : memN f useW = true := by
  have hf : f < 300 := by
    by_cases hc : f < 300
    · exact hc
    · obtain ⟨j, rfl⟩ := Nat.exists_eq_add_of_le (Nat.le_of_not_lt hc)
      rw [bitN_test, ← Nat.testBit_shiftRight, useN_high, Nat.zero_testBit] at h
      cases h
  have := List.all_eq_true.1 useW_mem f (List.mem_range.2 hf)
  rw [h] at this
  simpa using this
theorem cfW_ok {w : World} (h : Ready w) : CfOk Tryz.prog inS w cfW where
  zt := zt0_ok
  mixed := mixed
  use := fun f hu fn hf c hc => by
    obtain ⟨h1, h2⟩ := allUse_ok useW_ok f (use_mem hu) fn hf c hc
    exact ⟨h1, h2, skipW_ok inS w f fn hf c hc⟩
  prim := primW_ok h
  dfr := fun _ _ hd => dfrW hd
end Go.Proofs.YtpklnjegimchoaaGreatDoor
