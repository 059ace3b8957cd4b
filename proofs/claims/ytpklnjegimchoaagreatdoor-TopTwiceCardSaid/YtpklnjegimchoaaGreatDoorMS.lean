/-
  The walks of the stream.
-/
import Derived.Test.YtpklnjegimchoaaGreatDoorMC
import Derived.Test.YtpklnjegimchoaaGreatDoorMO
import Derived.Test.YtpklnjegimchoaaGreatDoorMQ
namespace Go.Proofs.YtpklnjegimchoaaGreatDoor
open Go Go.X
set_option maxRecDepth 100000 in
theorem clone_nil (n bc : Nat) (w0 : World) : Does Tryz.prog 28 #[.slice none n bc] w0 [] (fun v G => v = .slice none 0 0 ∧ G = [⟨none, [], 5, (0, 0)⟩]) := by
  refine spec_of 8 Tryz.func28 rfl rfl rfl ?_
  refine W.go ttok [] [0] rfl trivial rfl rfl ?_
  refine W.seq ?_
  refine W.sr ?_
  refine T.q (q_move rfl rfl) (Wt.plain rfl) rfl rfl ?_
  refine T.q (q_eqlSN un22 rfl rfl rfl) (Wt.plain rfl) rfl rfl ?_
  refine T.fin [0, 4] rfl ?_
  refine W.condT rfl ?_
  refine W.sr ?_
  refine T.q (q_assign rfl rfl) (Wt.plain rfl) rfl rfl ?_
  refine T.ghost 5 ?_
  refine T.fin [2] rfl ?_
  refine W.ret ?_
  refine Ex.then_ret ?_
  refine Ex.out1 [true] rfl rfl ?_
  exact ⟨rfl, rfl⟩
set_option maxRecDepth 100000 in
theorem clone_some (b : List Int) (ad : Addr) (bc : Nat) (_hbc : b.length ≤ bc) (hbl : b.length ≤ 140737488354000) (w0 : World) (hB : Reads w0 (some ad) (ints .u8 b)) : Does Tryz.prog 28 #[.slice (some ad) b.length bc] w0 [] (fun v G => ∃ (k cap : Nat) (junk : List Value), v = .slice (some ⟨k, 0, none⟩) (0 + b.length) cap ∧ 0 + b.length + junk.length = cap ∧ G = [⟨some k, ints .u8 ([] ++ b) ++ junk, 5, (0, 0)⟩]) := by
  refine spec_of 8 Tryz.func28 rfl rfl rfl ?_
  refine W.go ttok [] [0] rfl trivial rfl rfl ?_
  refine W.seq ?_
  refine W.sr ?_
  refine T.q (q_move rfl rfl) (Wt.plain rfl) rfl rfl ?_
  refine T.q (q_eqlSN un22 rfl rfl rfl) (Wt.plain rfl) rfl rfl ?_
  refine T.fin [0, 4] rfl ?_
  refine W.condF rfl ?_
  refine W.skip ?_
  refine Ex.next ?_
  refine W.keep [0] rfl ?_
  refine W.sr ?_
  refine T.eff (e_litA sc22 ze5 rfl rfl rfl (by simp [Value.cells]) rfl rfl rfl) (Wt.plain rfl) ?_
  rintro _ _ ⟨k1, rfl, rfl⟩
  change (_ : List Blk → Prop) [_]
  refine T.q (q_move rfl rfl) (Wt.plain rfl) rfl rfl ?_
  refine T.eff (e_appendI sc22 ze5 rfl 0 .u8 [] b [] ((List.append_nil _).symm) (R_ext hB.ext) rfl rfl rfl rfl (by first | omega | (simp; done) | (simp [-List.getD_eq_getElem?_getD]; omega) | (simp at *; omega) | rfl) (by first | omega | (simp; done) | (simp [-List.getD_eq_getElem?_getD]; omega) | (simp at *; omega) | rfl) (by first | omega | (simp; done) | (simp [-List.getD_eq_getElem?_getD]; omega) | (simp at *; omega) | rfl) (by first | omega | (simp; done) | (simp [-List.getD_eq_getElem?_getD]; omega)) (by first | omega | (simp; done) | (simp [-List.getD_eq_getElem?_getD]; omega)) rfl rfl) (Wt.plain rfl) ?_
  rintro _ _ ⟨k2, cap3, junk4, hc5, rfl, rfl⟩
  change (_ : List Blk → Prop) [_]
  refine T.runF ttok [] [2] rfl trivial rfl rfl ?_
  refine W.ret ?_
  refine Ex.out1 [true] rfl rfl ?_
  exact ⟨_, _, _, rfl, by assumption, rfl⟩
theorem reads_none {w : World} {k : IntKind} {xs : List Int} (h : Reads w none (ints k xs)) : xs = [] := by
  cases xs with
  | nil => rfl
  | cons x r =>
    obtain ⟨_, h', _⟩ := h 0 (.int k x) (by simp [ints])
    cases h'
theorem clone_spec (b : List Int) (BA : Option Addr) (bc : Nat) {m : Nat} (hbc : m ≤ bc) (hbl : m ≤ 140737488354000) (w0 : World) (hB : Reads w0 BA (ints .u8 b)) (hm : b.length = m) : Does Tryz.prog 28 #[.slice BA m bc] w0 [] (fun v G => ∃ (no : Option Nat) (cap : Nat) (junk : List Value), v = .slice (no.map fun k => (⟨k, 0, none⟩ : Addr)) m cap ∧ m + junk.length = cap ∧ (0 < m → no.isSome = true) ∧ G = [⟨no, ints .u8 b ++ junk, 5, (0, 0)⟩]) := by
  subst hm
  cases BA with
  | none =>
    obtain rfl := reads_none hB
    refine (clone_nil _ bc w0).mono ?_
    rintro v G ⟨rfl, rfl⟩
    exact ⟨none, 0, [], rfl, rfl, fun h => absurd h (Nat.lt_irrefl 0), rfl⟩
  | some ad =>
    refine (clone_some b ad bc hbc hbl w0 hB).mono ?_
    rintro v G ⟨k, cap, junk, rfl, h, rfl⟩
    exact ⟨some k, cap, junk, by rw [Nat.zero_add]; rfl, by omega, fun _ => rfl, rfl⟩
theorem clone_pos (b : List Int) (BA : Option Addr) (bc : Nat) {m : Nat} (hbc : m ≤ bc) (hbl : m ≤ 140737488354000) (w0 : World) (hB : Reads w0 BA (ints .u8 b)) (hpos : 0 < m) (hm : b.length = m) : Does Tryz.prog 28 #[.slice BA m bc] w0 [] (fun v G => ∃ (k cap : Nat) (junk : List Value), v = .slice (some ⟨k, 0, none⟩) m cap ∧ m + junk.length = cap ∧ G = [⟨some k, ints .u8 b ++ junk, 5, (0, 0)⟩]) := by
  subst hm
  refine (clone_spec b BA bc hbc hbl w0 hB rfl).mono ?_
  rintro v G ⟨no, cap, junk, rfl, h, hs, rfl⟩
  obtain ⟨k, rfl⟩ := Option.isSome_iff_exists.1 (hs hpos)
  exact ⟨k, cap, junk, rfl, h, rfl⟩
end Go.Proofs.YtpklnjegimchoaaGreatDoor
namespace Go.Proofs.YtpklnjegimchoaaGreatDoor
open Go Go.X
set_option maxRecDepth 100000 in
theorem rot_specC (x k : Int) (h0 : 0 ≤ k) (h1 : k < 32) (w0 : World) : Does Tryz.prog 280 #[.int .u32 x, .int .i64 k] w0 [] (fun v G => v = .int .u32 (rotl x k) ∧ G = []) := by
  have hs := and31 k h0 h1
  have ht : IntKind.u64.wrap (32 - k) = 32 - k := by simp [IntKind.wrap, IntKind.bits, IntKind.signed]; omega
  refine spec_of 17 Tryz.func280 rfl rfl rfl ?_
  refine W.go ttok [] [0, 1] rfl trivial rfl rfl ?_
  refine W.sr ?_
  refine T.q (q_move rfl rfl) (Wt.plain rfl) rfl rfl ?_
  refine T.q (q_conv un3 un301 rfl rfl) (Wt.plain rfl) rfl rfl ?_
  refine T.q (q_int (b := k) (q_and rfl rfl rfl) hs) (Wt.plain rfl) rfl rfl ?_
  refine T.runF ttok [] [0, 5] rfl trivial rfl rfl ?_
  refine W.sr ?_
  refine T.run ttok 2 [] rfl trivial rfl ?_
  refine T.q (q_shl rfl rfl rfl (by omega)) (Wt.plain rfl) rfl rfl ?_
  refine T.run ttok 2 [] rfl trivial rfl ?_
  refine T.q (q_int (b := (32 - k)) (q_sub rfl rfl rfl) ht) (Wt.plain rfl) rfl rfl ?_
  refine T.q (q_shr rfl rfl rfl (by omega)) (Wt.plain rfl) rfl rfl ?_
  refine T.q (q_or rfl rfl rfl) (Wt.plain rfl) rfl rfl ?_
  refine T.runF ttok [] [4] rfl trivial rfl rfl ?_
  refine W.ret ?_
  refine Ex.out1 [] rfl rfl ?_
  exact ⟨rfl, rfl⟩
set_option maxRecDepth 100000 in
theorem quarter_spec (x : List Int) (hx : x.length = 4) (w0 : World) : Does Tryz.prog 263 #[.agg (ints .u32 x).toArray] w0 [] (fun v G => v = .agg (ints .u32 (quarter x)).toArray ∧ G = []) := by
  obtain ⟨a, b, c, d, rfl⟩ : ∃ a b c d, x = [a, b, c, d] := by match x, hx with | [a, b, c, d], _ => exact ⟨a, b, c, d, rfl⟩
  clear hx
  refine spec_of 48 Tryz.func263 rfl rfl rfl ?_
  refine W.sr ?_
  refine T.eff (e_box rfl rfl rfl rfl) (Wt.plain rfl) ?_
  rintro _ _ ⟨k1, rfl, rfl⟩
  change (_ : List Blk → Prop) [_]
  refine T.eff (e_alloc ze338 rfl rfl rfl) (Wt.plain rfl) ?_
  rintro _ _ ⟨k2, rfl, rfl⟩
  change (_ : List Blk → Prop) [_, _]
  refine T.fin [1, 2] rfl ?_
  refine W.seq ?_
  refine W.draw 11 (by kernel_rfl) ?_
  refine D.take 0 rfl (by kernel_rfl) (fun _ h => h) (q_ixA0 ar338 0 rfl rfl rfl (rfl) (by decide)) (Wt.plain rfl) rfl rfl ?_
  refine D.take 1 rfl (by kernel_rfl) (fun _ h => h) (q_loadI ss275 0 rfl rfl rfl (by first | omega | (simp; done) | (simp [-List.getD_eq_getElem?_getD]; omega))) (Wt.plain rfl) rfl rfl ?_
  refine D.take 2 rfl (by kernel_rfl) (fun _ h => h) (q_ixA0 ar338 1 rfl rfl rfl (rfl) (by decide)) (Wt.plain rfl) rfl rfl ?_
  refine D.take 3 rfl (by kernel_rfl) (fun _ h => h) (q_loadI ss275 0 rfl rfl rfl (by first | omega | (simp; done) | (simp [-List.getD_eq_getElem?_getD]; omega))) (Wt.plain rfl) rfl rfl ?_
  refine D.take 4 rfl (by kernel_rfl) (fun _ h => h) (q_ixA0 ar338 2 rfl rfl rfl (rfl) (by decide)) (Wt.plain rfl) rfl rfl ?_
  refine D.take 5 rfl (by kernel_rfl) (fun _ h => h) (q_loadI ss275 0 rfl rfl rfl (by first | omega | (simp; done) | (simp [-List.getD_eq_getElem?_getD]; omega))) (Wt.plain rfl) rfl rfl ?_
  refine D.take 6 rfl (by kernel_rfl) (fun _ h => h) (q_ixA0 ar338 3 rfl rfl rfl (rfl) (by decide)) (Wt.plain rfl) rfl rfl ?_
  refine D.take 7 rfl (by kernel_rfl) (fun _ h => h) (q_loadI ss275 0 rfl rfl rfl (by first | omega | (simp; done) | (simp [-List.getD_eq_getElem?_getD]; omega))) (Wt.plain rfl) rfl rfl ?_
  refine D.take 8 rfl (by kernel_rfl) (fun _ h => h) (q_assign rfl rfl) (Wt.plain rfl) rfl rfl ?_
  refine D.take 9 rfl (by kernel_rfl) (fun _ h => h) (q_assign rfl rfl) (Wt.plain rfl) rfl rfl ?_
  refine D.take 10 rfl (by kernel_rfl) (fun _ h => h) (q_assign rfl rfl) (Wt.plain rfl) rfl rfl ?_
  refine D.one 11 (by kernel_rfl) ?_
  refine Up.q rfl (q_assign rfl rfl) (Wt.plain rfl) rfl rfl (fun h => absurd h (by decide)) ?_
  refine D.done (by kernel_rfl) ?_
  refine Ex.next ?_
  refine W.drop [false, true] [2, 3, 4, 5, 6] rfl ?_
  change (_ : List Blk → Prop) [_]
  refine W.sr ?_
  refine T.run ttok 2 [] rfl trivial rfl ?_
  refine T.q (q_add rfl rfl rfl) (Wt.plain rfl) rfl rfl ?_
  refine T.runF ttok [] [2, 3, 4, 5, 6] rfl trivial rfl rfl ?_
  refine W.sr ?_
  refine T.run ttok 2 [] rfl trivial rfl ?_
  refine T.q (q_xor rfl rfl rfl) (Wt.plain rfl) rfl rfl ?_
  refine T.eff (e_call enters280 rfl rfl (fun w hm => rot_specC _ _ (by decide) (by decide) w) rfl rfl) (Wt.plain rfl) ?_
  rintro _ _ ⟨_, _, ⟨rfl, rfl⟩, rfl, rfl⟩
  change (_ : List Blk → Prop) [_]
  refine T.runF ttok [] [2, 3, 4, 5, 6] rfl trivial rfl rfl ?_
  refine W.sr ?_
  refine T.run ttok 2 [] rfl trivial rfl ?_
  refine T.q (q_add rfl rfl rfl) (Wt.plain rfl) rfl rfl ?_
  refine T.runF ttok [] [2, 3, 4, 5, 6] rfl trivial rfl rfl ?_
  refine W.sr ?_
  refine T.run ttok 2 [] rfl trivial rfl ?_
  refine T.q (q_xor rfl rfl rfl) (Wt.plain rfl) rfl rfl ?_
  refine T.eff (e_call enters280 rfl rfl (fun w hm => rot_specC _ _ (by decide) (by decide) w) rfl rfl) (Wt.plain rfl) ?_
  rintro _ _ ⟨_, _, ⟨rfl, rfl⟩, rfl, rfl⟩
  change (_ : List Blk → Prop) [_]
  refine T.runF ttok [] [2, 3, 4, 5, 6] rfl trivial rfl rfl ?_
  refine W.sr ?_
  refine T.run ttok 2 [] rfl trivial rfl ?_
  refine T.q (q_add rfl rfl rfl) (Wt.plain rfl) rfl rfl ?_
  refine T.runF ttok [] [2, 3, 4, 5, 6] rfl trivial rfl rfl ?_
  refine W.sr ?_
  refine T.run ttok 2 [] rfl trivial rfl ?_
  refine T.q (q_xor rfl rfl rfl) (Wt.plain rfl) rfl rfl ?_
  refine T.eff (e_call enters280 rfl rfl (fun w hm => rot_specC _ _ (by decide) (by decide) w) rfl rfl) (Wt.plain rfl) ?_
  rintro _ _ ⟨_, _, ⟨rfl, rfl⟩, rfl, rfl⟩
  change (_ : List Blk → Prop) [_]
  refine T.runF ttok [] [2, 3, 4, 5, 6] rfl trivial rfl rfl ?_
  refine W.sr ?_
  refine T.run ttok 2 [] rfl trivial rfl ?_
  refine T.q (q_add rfl rfl rfl) (Wt.plain rfl) rfl rfl ?_
  refine T.runF ttok [] [2, 3, 4, 5, 6] rfl trivial rfl rfl ?_
  refine W.sr ?_
  refine T.run ttok 2 [] rfl trivial rfl ?_
  refine T.q (q_xor rfl rfl rfl) (Wt.plain rfl) rfl rfl ?_
  refine T.eff (e_call enters280 rfl rfl (fun w hm => rot_specC _ _ (by decide) (by decide) w) rfl rfl) (Wt.plain rfl) ?_
  rintro _ _ ⟨_, _, ⟨rfl, rfl⟩, rfl, rfl⟩
  change (_ : List Blk → Prop) [_]
  refine T.runF ttok [] [2, 3, 4, 5, 6] rfl trivial rfl rfl ?_
  refine W.sr ?_
  refine T.run ttok 4 [] rfl trivial rfl ?_
  refine T.q (q_buildA ar338 ze338 rfl rfl rfl rfl (by simp [Value.cells])) (Wt.plain rfl) rfl rfl ?_
  refine T.eff (e_storeA wd338 0 rfl rfl rfl rfl (by first | omega | (simp; done) | (simp [-List.getD_eq_getElem?_getD]; omega) | (simp at *; omega) | rfl) (by simp [Value.oneCell']) rfl) (Wt.plain rfl) ?_
  rintro _ _ ⟨rfl, rfl⟩
  change (_ : List Blk → Prop) [_]
  refine T.fin [2] rfl ?_
  refine W.ret ?_
  refine Ex.outC [false] 0 rfl (by exact wd338) rfl rfl ?_
  exact ⟨rfl, rfl⟩
set_option maxRecDepth 100000 in
theorem word_spec (A : Option Addr) (n c : Nat) (xs : List Int) (hn : 4 ≤ n) (hx : 4 ≤ xs.length) (w0 : World) (hR : Reads w0 A (ints .u8 xs)) : Does Tryz.prog 262 #[.slice A n c] w0 [] (fun v G => v = .int .u32 (word xs) ∧ G = []) := by
  refine spec_of 25 Tryz.func262 rfl rfl rfl ?_
  refine W.go ttok [] [0] rfl trivial rfl rfl ?_
  refine W.seq ?_
  refine W.draw 22 (by kernel_rfl) ?_
  refine D.take 0 rfl (by kernel_rfl) (fun _ h => h) (q_move rfl rfl) (Wt.plain rfl) rfl rfl ?_
  refine D.take 1 rfl (by kernel_rfl) (fun _ h => h) (q_ixE1 sc22 0 (R_ext hR.ext) rfl rfl rfl (rfl) (by omega) (by first | omega | (simp; done) | (simp [-List.getD_eq_getElem?_getD]; omega))) (Wt.plain rfl) rfl rfl ?_
  refine D.take 2 rfl (by kernel_rfl) (fun _ h => h) (q_loadE ss5 (R_ext hR.ext) rfl rfl (ints_get (by first | omega | (simp; done) | (simp [-List.getD_eq_getElem?_getD]; omega)))) (Wt.plain rfl) rfl rfl ?_
  refine D.take 3 rfl (by kernel_rfl) (fun _ h => h) (q_conv un5 un275 rfl rfl) (Wt.plain rfl) rfl rfl ?_
  refine D.take 4 rfl (by kernel_rfl) (fun _ h => h) (q_move rfl rfl) (Wt.plain rfl) rfl rfl ?_
  refine D.take 5 rfl (by kernel_rfl) (fun _ h => h) (q_ixE1 sc22 1 (R_ext hR.ext) rfl rfl rfl (rfl) (by omega) (by first | omega | (simp; done) | (simp [-List.getD_eq_getElem?_getD]; omega))) (Wt.plain rfl) rfl rfl ?_
  refine D.take 6 rfl (by kernel_rfl) (fun _ h => h) (q_loadE ss5 (R_ext hR.ext) rfl rfl (ints_get (by first | omega | (simp; done) | (simp [-List.getD_eq_getElem?_getD]; omega)))) (Wt.plain rfl) rfl rfl ?_
  refine D.take 7 rfl (by kernel_rfl) (fun _ h => h) (q_conv un5 un275 rfl rfl) (Wt.plain rfl) rfl rfl ?_
  refine D.take 8 rfl (by kernel_rfl) (fun _ h => h) (q_shl rfl rfl rfl (by decide)) (Wt.plain rfl) rfl rfl ?_
  refine D.take 9 rfl (by kernel_rfl) (fun _ h => h) (q_or rfl rfl rfl) (Wt.plain rfl) rfl rfl ?_
  refine D.take 10 rfl (by kernel_rfl) (fun _ h => h) (q_move rfl rfl) (Wt.plain rfl) rfl rfl ?_
  refine D.take 11 rfl (by kernel_rfl) (fun _ h => h) (q_ixE1 sc22 2 (R_ext hR.ext) rfl rfl rfl (rfl) (by omega) (by first | omega | (simp; done) | (simp [-List.getD_eq_getElem?_getD]; omega))) (Wt.plain rfl) rfl rfl ?_
  refine D.take 12 rfl (by kernel_rfl) (fun _ h => h) (q_loadE ss5 (R_ext hR.ext) rfl rfl (ints_get (by first | omega | (simp; done) | (simp [-List.getD_eq_getElem?_getD]; omega)))) (Wt.plain rfl) rfl rfl ?_
  refine D.take 13 rfl (by kernel_rfl) (fun _ h => h) (q_conv un5 un275 rfl rfl) (Wt.plain rfl) rfl rfl ?_
  refine D.take 14 rfl (by kernel_rfl) (fun _ h => h) (q_shl rfl rfl rfl (by decide)) (Wt.plain rfl) rfl rfl ?_
  refine D.take 15 rfl (by kernel_rfl) (fun _ h => h) (q_or rfl rfl rfl) (Wt.plain rfl) rfl rfl ?_
  refine D.take 16 rfl (by kernel_rfl) (fun _ h => h) (q_move rfl rfl) (Wt.plain rfl) rfl rfl ?_
  refine D.take 17 rfl (by kernel_rfl) (fun _ h => h) (q_ixE1 sc22 3 (R_ext hR.ext) rfl rfl rfl (rfl) (by omega) (by first | omega | (simp; done) | (simp [-List.getD_eq_getElem?_getD]; omega))) (Wt.plain rfl) rfl rfl ?_
  refine D.take 18 rfl (by kernel_rfl) (fun _ h => h) (q_loadE ss5 (R_ext hR.ext) rfl rfl (ints_get (by first | omega | (simp; done) | (simp [-List.getD_eq_getElem?_getD]; omega)))) (Wt.plain rfl) rfl rfl ?_
  refine D.take 19 rfl (by kernel_rfl) (fun _ h => h) (q_conv un5 un275 rfl rfl) (Wt.plain rfl) rfl rfl ?_
  refine D.take 20 rfl (by kernel_rfl) (fun _ h => h) (q_shl rfl rfl rfl (by decide)) (Wt.plain rfl) rfl rfl ?_
  refine D.take 21 rfl (by kernel_rfl) (fun _ h => h) (q_or rfl rfl rfl) (Wt.plain rfl) rfl rfl ?_
  refine D.one 22 (by kernel_rfl) ?_
  refine Up.q rfl (q_assign rfl rfl) (Wt.plain rfl) rfl rfl (fun h => absurd h (by decide)) ?_
  refine D.done (by kernel_rfl) ?_
  refine Ex.next ?_
  refine W.keep [2] rfl ?_
  refine W.ret ?_
  refine Ex.out1 [] rfl rfl ?_
  exact ⟨rfl, rfl⟩
end Go.Proofs.YtpklnjegimchoaaGreatDoor
namespace Go.Proofs.YtpklnjegimchoaaGreatDoor
open Go Go.X
set_option maxRecDepth 100000 in
set_option maxHeartbeats 1000000 in
theorem block_spec (key nonce : List Int) (ctr : Int) (hk : key.length = 32) (hnn : nonce.length = 12) (w0 : World) (hh : Reads w0 (some ⟨4, 0, none⟩) (ints .u32 headW)) (ht : Reads w0 (some ⟨5, 0, none⟩) (ints .i64 tbl)) : Does Tryz.prog 235 #[.agg (ints .u8 key).toArray, .int .u32 ctr, .agg (ints .u8 nonce).toArray] w0 [] (fun v G => v = .agg (ints .u8 (block key nonce ctr)).toArray ∧ G = []) := by
  refine spec_of 119 Tryz.func235 rfl rfl rfl ?_
  refine W.sr ?_
  refine T.eff (e_box rfl rfl rfl rfl) (Wt.plain rfl) ?_
  rintro _ _ ⟨k1, rfl, rfl⟩
  change (_ : List Blk → Prop) [_]
  refine T.eff (e_box rfl rfl rfl rfl) (Wt.plain rfl) ?_
  rintro _ _ ⟨k2, rfl, rfl⟩
  change (_ : List Blk → Prop) [_, _]
  refine T.eff (e_alloc ze311 rfl rfl rfl) (Wt.plain rfl) ?_
  rintro _ _ ⟨k3, rfl, rfl⟩
  change (_ : List Blk → Prop) [_, _, _]
  refine T.fin [1, 3, 5, 6] rfl ?_
  refine W.sr ?_
  refine T.eff (e_alloc ze337 rfl rfl rfl) (Wt.plain rfl) ?_
  rintro _ _ ⟨k4, rfl, rfl⟩
  change (_ : List Blk → Prop) [_, _, _, _]
  refine T.fin [1, 3, 5, 6, 7] rfl ?_
  refine W.seq ?_
  refine W.sr ?_
  refine T.q (q_loadW (wide_ints wd338 (by first | omega | (simp; done) | (simp [-List.getD_eq_getElem?_getD]; omega) | (simp at *; omega) | rfl)) (R_ext hh.ext) rfl rfl) (Wt.plain rfl) rfl rfl ?_
  refine T.runF ttok [] [1, 3, 5, 6, 7, 22, 23] rfl trivial rfl rfl ?_
  refine W.block ?_
  refine W.loop (α := Nat) (fun i => [(1, .int .u32 ctr), (3, .pointer (some ⟨k1, 0, none⟩)), (5, .pointer (some ⟨k2, 0, none⟩)), (6, .pointer (some ⟨k3, 0, none⟩)), (7, .pointer (some ⟨k4, 0, none⟩)), (22, .agg (ints .u32 headW).toArray), (23, .int .i64 ((i : Nat) : Int))]) (fun i => [⟨some k1, ints .u8 key, 38, (0, 0)⟩, ⟨some k2, ints .u8 nonce, 189, (0, 0)⟩, ⟨some k3, ints .u8 (List.replicate 64 0), 311, (0, 0)⟩, ⟨some k4, ints .u32 (fillAt (fun q => q) (fun q => headW.getD q 0) i (List.replicate 16 0)), 337, (0, 0)⟩]) (fun i => i ≤ 4) (fun i => 4 - i) [true, true, true, true] 0 (by omega) ⟨rfl, rfl, rfl, rfl, rfl, rfl, rfl, trivial⟩ rfl ?_
  rintro i hi
  refine W.go ttok [] [1, 3, 5, 6, 7, 22, 23, 24] rfl trivial rfl rfl ?_
  refine W.seq ?_
  refine W.cond _ rfl (fun hb5 => ?_) (fun hb5 => ?_)
  · replace hb5 := of_decide_eq_true hb5
    refine W.skip ?_
    refine Ex.next ?_
    refine W.keep [1, 3, 5, 6, 7, 22, 23] rfl ?_
    refine W.seq ?_
    refine W.block ?_
    refine W.sr ?_
    refine T.q (q_move rfl rfl) (Wt.plain rfl) rfl rfl ?_
    refine T.q (q_ixVI ar338 ss275 i rfl rfl rfl (by omega) (by omega) (by first | omega | (simp; done) | (simp [-List.getD_eq_getElem?_getD]; omega))) (Wt.plain rfl) rfl rfl ?_
    refine T.runF ttok [] [1, 3, 5, 6, 7, 8, 9, 22, 23] rfl trivial rfl rfl ?_
    refine W.region ?_
    refine T.run ttok 2 [] rfl trivial rfl ?_
    refine T.q (q_ixA0 ar337 i rfl rfl rfl (by omega) (by omega)) (Wt.plain rfl) rfl rfl ?_
    refine T.eff (e_storeI ss275 3 rfl rfl rfl rfl (by first | omega | (simp; done) | (simp [-List.getD_eq_getElem?_getD]; omega)) rfl) (Wt.plain rfl) ?_
    rintro _ _ ⟨rfl, rfl⟩
    change (_ : List Blk → Prop) [_, _, _, _]
    refine T.nil ?_
    refine Ex.in_normal ?_
    refine Ex.next ?_
    refine W.keep [1, 3, 5, 6, 7, 22, 23] rfl ?_
    refine W.region ?_
    refine T.run ttok 2 [] rfl ⟨⟨(by omega), (by omega)⟩, trivial⟩ rfl ?_
    refine T.nil ?_
    exact Ex.again [true, true, true, true] (i + 1) (by omega) (by omega) ⟨rfl, rfl, rfl, rfl, rfl, rfl, rfl, trivial⟩ rfl
  · replace hb5 := of_decide_eq_false hb5
    obtain rfl : i = 4 := by omega
    refine W.exit ?_
    refine Ex.then_exit ?_
    refine Ex.then_exit ?_
    refine Ex.in_here ?_
    refine Ex.next ?_
    refine W.keep [1, 3, 5, 6, 7] rfl ?_
    refine W.seq ?_
    refine W.go ttok [] [1, 3, 5, 6, 7, 31] rfl trivial rfl rfl ?_
    refine W.block ?_
    refine W.loop (α := Nat) (fun i => [(1, .int .u32 ctr), (3, .pointer (some ⟨k1, 0, none⟩)), (5, .pointer (some ⟨k2, 0, none⟩)), (6, .pointer (some ⟨k3, 0, none⟩)), (7, .pointer (some ⟨k4, 0, none⟩)), (31, .int .i64 ((i : Nat) : Int))]) (fun i => [⟨some k1, ints .u8 key, 38, (0, 0)⟩, ⟨some k2, ints .u8 nonce, 189, (0, 0)⟩, ⟨some k3, ints .u8 (List.replicate 64 0), 311, (0, 0)⟩, ⟨some k4, ints .u32 (fillAt (fun q => 4 + q) (fun q => word (key.drop (4 * q))) i (fillAt (fun q => q) (fun q => headW.getD q 0) 4 (List.replicate 16 0))), 337, (0, 0)⟩]) (fun i => i ≤ 8) (fun i => 8 - i) [true, true, true, true] 0 (by omega) ⟨rfl, rfl, rfl, rfl, rfl, rfl, trivial⟩ rfl ?_
    rintro i hi
    refine W.go ttok [] [1, 3, 5, 6, 7, 31, 32] rfl trivial rfl rfl ?_
    refine W.seq ?_
    refine W.cond _ rfl (fun hb6 => ?_) (fun hb6 => ?_)
    · replace hb6 := of_decide_eq_true hb6
      refine W.skip ?_
      refine Ex.next ?_
      refine W.keep [1, 3, 5, 6, 7, 31] rfl ?_
      refine W.seq ?_
      refine W.block ?_
      refine W.go ttok [] [1, 3, 5, 6, 7, 10, 31] rfl trivial rfl rfl ?_
      refine W.region ?_
      refine T.run ttok 4 [] rfl ⟨⟨(by omega), (by omega)⟩, ⟨(by omega), (by omega)⟩, trivial⟩ rfl ?_
      refine T.q (q_slA ar38 (4 * i) 32 32 rfl rfl ⟨_, _, rfl, by omega⟩ rfl rfl (by first | omega | (simp; done) | (simp [-List.getD_eq_getElem?_getD]; omega)) (by first | omega | (simp; done) | (simp [-List.getD_eq_getElem?_getD]; omega)) (by first | omega | (simp; done) | (simp [-List.getD_eq_getElem?_getD]; omega)) (by simp)) (Wt.plain rfl) rfl rfl ?_
      refine T.eff (e_call enters262 rfl rfl (fun w hm => word_spec _ _ _ ((key).drop (4 * i)) (by omega) (by simp; omega) w ((R_cutI (R_blk 0 rfl) (by first | omega | (simp; done) | (simp [-List.getD_eq_getElem?_getD]; omega))) w hm)) rfl rfl) (Wt.plain rfl) ?_
      rintro _ _ ⟨_, _, ⟨rfl, rfl⟩, rfl, rfl⟩
      change (_ : List Blk → Prop) [_, _, _, _]
      refine T.q (q_ixA0 ar337 (4 + i) rfl rfl rfl (by omega) (by omega)) (Wt.plain rfl) rfl rfl ?_
      refine T.eff (e_storeI ss275 3 rfl rfl rfl rfl (by first | omega | (simp; done) | (simp [-List.getD_eq_getElem?_getD]; omega)) rfl) (Wt.plain rfl) ?_
      rintro _ _ ⟨rfl, rfl⟩
      change (_ : List Blk → Prop) [_, _, _, _]
      refine T.nil ?_
      refine Ex.in_normal ?_
      refine Ex.next ?_
      refine W.keep [1, 3, 5, 6, 7, 31] rfl ?_
      refine W.region ?_
      refine T.run ttok 2 [] rfl ⟨⟨(by omega), (by omega)⟩, trivial⟩ rfl ?_
      refine T.nil ?_
      exact Ex.again [true, true, true, true] (i + 1) (by omega) (by omega) ⟨rfl, rfl, rfl, rfl, rfl, rfl, trivial⟩ rfl
    · replace hb6 := of_decide_eq_false hb6
      obtain rfl : i = 8 := by omega
      refine W.exit ?_
      refine Ex.then_exit ?_
      refine Ex.then_exit ?_
      refine Ex.in_here ?_
      refine Ex.next ?_
      refine W.drop [false, true, true, true] [1, 5, 6, 7] rfl ?_
      change (_ : List Blk → Prop) [_, _, _]
      refine W.sr ?_
      refine T.q (q_move rfl rfl) (Wt.plain rfl) rfl rfl ?_
      refine T.q (q_ixA0 ar337 12 rfl rfl rfl (rfl) (by decide)) (Wt.plain rfl) rfl rfl ?_
      refine T.eff (e_storeI ss275 2 rfl rfl rfl rfl (by first | omega | (simp; done) | (simp [-List.getD_eq_getElem?_getD]; omega)) rfl) (Wt.plain rfl) ?_
      rintro _ _ ⟨rfl, rfl⟩
      change (_ : List Blk → Prop) [_, _, _]
      refine T.fin [5, 6, 7] rfl ?_
      refine W.seq ?_
      refine W.go ttok [] [5, 6, 7, 44] rfl trivial rfl rfl ?_
      refine W.block ?_
      refine W.loop (α := Nat) (fun i => [(5, .pointer (some ⟨k2, 0, none⟩)), (6, .pointer (some ⟨k3, 0, none⟩)), (7, .pointer (some ⟨k4, 0, none⟩)), (44, .int .i64 ((i : Nat) : Int))]) (fun i => [⟨some k2, ints .u8 nonce, 189, (0, 0)⟩, ⟨some k3, ints .u8 (List.replicate 64 0), 311, (0, 0)⟩, ⟨some k4, ints .u32 (fillAt (fun q => 13 + q) (fun q => word (nonce.drop (4 * q))) i ((fillAt (fun q => 4 + q) (fun q => word (key.drop (4 * q))) 8 (fillAt (fun q => q) (fun q => headW.getD q 0) 4 (List.replicate 16 0))).set 12 ctr)), 337, (0, 0)⟩]) (fun i => i ≤ 3) (fun i => 3 - i) [true, true, true] 0 (by omega) ⟨rfl, rfl, rfl, rfl, trivial⟩ rfl ?_
      rintro i hi
      refine W.go ttok [] [5, 6, 7, 44, 45] rfl trivial rfl rfl ?_
      refine W.seq ?_
      refine W.cond _ rfl (fun hb7 => ?_) (fun hb7 => ?_)
      · replace hb7 := of_decide_eq_true hb7
        refine W.skip ?_
        refine Ex.next ?_
        refine W.keep [5, 6, 7, 44] rfl ?_
        refine W.seq ?_
        refine W.block ?_
        refine W.go ttok [] [5, 6, 7, 11, 44] rfl trivial rfl rfl ?_
        refine W.region ?_
        refine T.run ttok 4 [] rfl ⟨⟨(by omega), (by omega)⟩, ⟨(by omega), (by omega)⟩, trivial⟩ rfl ?_
        refine T.q (q_slA ar189 (4 * i) 12 12 rfl rfl ⟨_, _, rfl, by omega⟩ rfl rfl (by first | omega | (simp; done) | (simp [-List.getD_eq_getElem?_getD]; omega)) (by first | omega | (simp; done) | (simp [-List.getD_eq_getElem?_getD]; omega)) (by first | omega | (simp; done) | (simp [-List.getD_eq_getElem?_getD]; omega)) (by simp)) (Wt.plain rfl) rfl rfl ?_
        refine T.eff (e_call enters262 rfl rfl (fun w hm => word_spec _ _ _ ((nonce).drop (4 * i)) (by omega) (by simp; omega) w ((R_cutI (R_blk 0 rfl) (by first | omega | (simp; done) | (simp [-List.getD_eq_getElem?_getD]; omega))) w hm)) rfl rfl) (Wt.plain rfl) ?_
        rintro _ _ ⟨_, _, ⟨rfl, rfl⟩, rfl, rfl⟩
        change (_ : List Blk → Prop) [_, _, _]
        refine T.q (q_ixA0 ar337 (13 + i) rfl rfl rfl (by omega) (by omega)) (Wt.plain rfl) rfl rfl ?_
        refine T.eff (e_storeI ss275 2 rfl rfl rfl rfl (by first | omega | (simp; done) | (simp [-List.getD_eq_getElem?_getD]; omega)) rfl) (Wt.plain rfl) ?_
        rintro _ _ ⟨rfl, rfl⟩
        change (_ : List Blk → Prop) [_, _, _]
        refine T.nil ?_
        refine Ex.in_normal ?_
        refine Ex.next ?_
        refine W.keep [5, 6, 7, 44] rfl ?_
        refine W.region ?_
        refine T.run ttok 2 [] rfl ⟨⟨(by omega), (by omega)⟩, trivial⟩ rfl ?_
        refine T.nil ?_
        exact Ex.again [true, true, true] (i + 1) (by omega) (by omega) ⟨rfl, rfl, rfl, rfl, trivial⟩ rfl
      · replace hb7 := of_decide_eq_false hb7
        obtain rfl : i = 3 := by omega
        refine W.exit ?_
        refine Ex.then_exit ?_
        refine Ex.then_exit ?_
        refine Ex.in_here ?_
        refine Ex.next ?_
        refine W.drop [false, true, true] [6, 7] rfl ?_
        change (_ : List Blk → Prop) [_, _]
        refine W.sr ?_
        refine T.q (q_loadW (wide_ints wd337 (by first | omega | (simp; done) | (simp [-List.getD_eq_getElem?_getD]; omega) | (simp at *; omega) | rfl)) (R_blk 1 rfl) rfl rfl) (Wt.plain rfl) rfl rfl ?_
        refine T.eff (e_alloc ze337 rfl rfl rfl) (Wt.plain rfl) ?_
        rintro _ _ ⟨k8, rfl, rfl⟩
        change (_ : List Blk → Prop) [_, _, _]
        refine T.eff (e_storeA (wide_ints wd337 (by first | omega | (simp; done) | (simp [-List.getD_eq_getElem?_getD]; omega) | (simp at *; omega) | rfl)) 2 rfl rfl rfl rfl (by first | omega | (simp; done) | (simp [-List.getD_eq_getElem?_getD]; omega) | (simp at *; omega) | rfl) ints_one rfl) (Wt.plain rfl) ?_
        rintro _ _ ⟨rfl, rfl⟩
        change (_ : List Blk → Prop) [_, _, _]
        refine T.fin [6, 7, 12] rfl ?_
        refine W.seq ?_
        refine W.go ttok [] [6, 7, 12, 56] rfl trivial rfl rfl ?_
        refine W.block ?_
        refine W.loop (α := Nat) (fun n => [(6, .pointer (some ⟨k3, 0, none⟩)), (7, .pointer (some ⟨k4, 0, none⟩)), (12, .pointer (some ⟨k8, 0, none⟩)), (56, .int .i64 ((n : Nat) : Int))]) (fun n => [⟨some k3, ints .u8 (List.replicate 64 0), 311, (0, 0)⟩, ⟨some k4, ints .u32 (initS key nonce ctr), 337, (0, 0)⟩, ⟨some k8, ints .u32 (rn n (initS key nonce ctr)), 337, (0, 0)⟩]) (fun n => n ≤ 10) (fun n => 10 - n) [true, true, true] 0 (by omega) ⟨rfl, rfl, rfl, rfl, trivial⟩ rfl ?_
        rintro n hn
        refine W.go ttok [] [6, 7, 12, 56, 57] rfl trivial rfl rfl ?_
        refine W.seq ?_
        refine W.cond _ rfl (fun hb9 => ?_) (fun hb9 => ?_)
        · replace hb9 := of_decide_eq_true hb9
          refine W.skip ?_
          refine Ex.next ?_
          refine W.keep [6, 7, 12, 56] rfl ?_
          refine W.seq ?_
          refine W.block ?_
          refine W.sr ?_
          refine T.q (q_loadW (wide_ints wd341 (by first | omega | (simp; done) | (simp [-List.getD_eq_getElem?_getD]; omega) | (simp at *; omega) | rfl)) (R_ext ht.ext) rfl rfl) (Wt.plain rfl) rfl rfl ?_
          refine T.runF ttok [] [6, 7, 12, 56, 58, 59] rfl trivial rfl rfl ?_
          refine W.block ?_
          refine W.loop (α := Nat) (fun j => [(6, .pointer (some ⟨k3, 0, none⟩)), (7, .pointer (some ⟨k4, 0, none⟩)), (12, .pointer (some ⟨k8, 0, none⟩)), (56, .int .i64 ((n : Nat) : Int)), (58, .agg (ints .i64 tbl).toArray), (59, .int .i64 ((j : Nat) : Int))]) (fun j => [⟨some k3, ints .u8 (List.replicate 64 0), 311, (0, 0)⟩, ⟨some k4, ints .u32 (initS key nonce ctr), 337, (0, 0)⟩, ⟨some k8, ints .u32 (dr j (rn n (initS key nonce ctr))), 337, (0, 0)⟩]) (fun j => j ≤ 8) (fun j => 8 - j) [true, true, true] 0 (by omega) ⟨rfl, rfl, rfl, rfl, rfl, rfl, trivial⟩ rfl ?_
          rintro j hj
          refine W.go ttok [] [6, 7, 12, 56, 58, 59, 60] rfl trivial rfl rfl ?_
          refine W.seq ?_
          refine W.cond _ rfl (fun hb10 => ?_) (fun hb10 => ?_)
          · replace hb10 := of_decide_eq_true hb10
            have hj8 : j < 8 := by omega
            have hpl := pl_length hj8
            have p0 := pl_ok hj8 (by decide : 0 < 4)
            have p1 := pl_ok hj8 (by decide : 1 < 4)
            have p2 := pl_ok hj8 (by decide : 2 < 4)
            have p3 := pl_ok hj8 (by decide : 3 < 4)
            refine W.skip ?_
            refine Ex.next ?_
            refine W.keep [6, 7, 12, 56, 58, 59] rfl ?_
            refine W.seq ?_
            refine W.block ?_
            refine W.sr ?_
            refine T.q (q_ixVW (p := ints .i64 (pl j)) ar341 wd340 j rfl rfl rfl (by omega) (by omega) (by simp [ints_drop, ints_take, pl])) (Wt.plain rfl) rfl rfl ?_
            refine T.eff (e_alloc ze340 rfl rfl rfl) (Wt.plain rfl) ?_
            rintro _ _ ⟨k11, rfl, rfl⟩
            change (_ : List Blk → Prop) [_, _, _, _]
            refine T.eff (e_storeA (wide_ints wd340 (by first | omega | (simp; done) | (simp [-List.getD_eq_getElem?_getD]; omega) | (simp at *; omega) | rfl)) 3 rfl rfl rfl rfl (by first | omega | (simp; done) | (simp [-List.getD_eq_getElem?_getD]; omega) | (simp at *; omega) | rfl) ints_one rfl) (Wt.plain rfl) ?_
            rintro _ _ ⟨rfl, rfl⟩
            change (_ : List Blk → Prop) [_, _, _, _]
            refine T.fin [6, 7, 12, 14, 56, 58, 59] rfl ?_
            refine W.seq ?_
            refine W.draw 19 (by kernel_rfl) ?_
            refine D.take 0 rfl (by kernel_rfl) (fun _ h => h) (q_ixA0 ar340 0 rfl rfl rfl (rfl) (by decide)) (Wt.plain rfl) rfl rfl ?_
            refine D.take 1 rfl (by kernel_rfl) (fun _ h => h) (q_loadI ss3 3 rfl rfl rfl (by first | omega | (simp; done) | (simp [-List.getD_eq_getElem?_getD]; omega))) (Wt.plain rfl) rfl rfl ?_
            refine D.take 2 rfl (by kernel_rfl) (fun _ h => h) (q_ixA0 ar337 (((pl j).getD 0 0).toNat) rfl rfl rfl (by omega) (by omega)) (Wt.plain rfl) rfl rfl ?_
            refine D.take 3 rfl (by kernel_rfl) (fun _ h => h) (q_loadI ss275 2 rfl rfl rfl (by first | omega | (simp; done) | (simp [-List.getD_eq_getElem?_getD]; omega))) (Wt.plain rfl) rfl rfl ?_
            refine D.take 4 rfl (by kernel_rfl) (fun _ h => h) (q_ixA0 ar340 1 rfl rfl rfl (rfl) (by decide)) (Wt.plain rfl) rfl rfl ?_
            refine D.take 5 rfl (by kernel_rfl) (fun _ h => h) (q_loadI ss3 3 rfl rfl rfl (by first | omega | (simp; done) | (simp [-List.getD_eq_getElem?_getD]; omega))) (Wt.plain rfl) rfl rfl ?_
            refine D.take 6 rfl (by kernel_rfl) (fun _ h => h) (q_ixA0 ar337 (((pl j).getD 1 0).toNat) rfl rfl rfl (by omega) (by omega)) (Wt.plain rfl) rfl rfl ?_
            refine D.take 7 rfl (by kernel_rfl) (fun _ h => h) (q_loadI ss275 2 rfl rfl rfl (by first | omega | (simp; done) | (simp [-List.getD_eq_getElem?_getD]; omega))) (Wt.plain rfl) rfl rfl ?_
            refine D.take 8 rfl (by kernel_rfl) (fun _ h => h) (q_ixA0 ar340 2 rfl rfl rfl (rfl) (by decide)) (Wt.plain rfl) rfl rfl ?_
            refine D.take 9 rfl (by kernel_rfl) (fun _ h => h) (q_loadI ss3 3 rfl rfl rfl (by first | omega | (simp; done) | (simp [-List.getD_eq_getElem?_getD]; omega))) (Wt.plain rfl) rfl rfl ?_
            refine D.take 10 rfl (by kernel_rfl) (fun _ h => h) (q_ixA0 ar337 (((pl j).getD 2 0).toNat) rfl rfl rfl (by omega) (by omega)) (Wt.plain rfl) rfl rfl ?_
            refine D.take 11 rfl (by kernel_rfl) (fun _ h => h) (q_loadI ss275 2 rfl rfl rfl (by first | omega | (simp; done) | (simp [-List.getD_eq_getElem?_getD]; omega))) (Wt.plain rfl) rfl rfl ?_
            refine D.take 12 rfl (by kernel_rfl) (fun _ h => h) (q_ixA0 ar340 3 rfl rfl rfl (rfl) (by decide)) (Wt.plain rfl) rfl rfl ?_
            refine D.take 13 rfl (by kernel_rfl) (fun _ h => h) (q_loadI ss3 3 rfl rfl rfl (by first | omega | (simp; done) | (simp [-List.getD_eq_getElem?_getD]; omega))) (Wt.plain rfl) rfl rfl ?_
            refine D.take 14 rfl (by kernel_rfl) (fun _ h => h) (q_ixA0 ar337 (((pl j).getD 3 0).toNat) rfl rfl rfl (by omega) (by omega)) (Wt.plain rfl) rfl rfl ?_
            refine D.take 15 rfl (by kernel_rfl) (fun _ h => h) (q_loadI ss275 2 rfl rfl rfl (by first | omega | (simp; done) | (simp [-List.getD_eq_getElem?_getD]; omega))) (Wt.plain rfl) rfl rfl ?_
            refine D.take 16 rfl (by kernel_rfl) (fun _ h => h) (q_buildA ar338 ze338 rfl rfl rfl rfl (by simp [Value.cells])) (Wt.plain rfl) rfl rfl ?_
            refine D.two 17 18 (by kernel_rfl) ?_ ?_
            ·
              refine Up.eff rfl (e_call enters263 rfl rfl (fun w hm => quarter_spec [_, _, _, _] rfl w) rfl rfl) (Wt.plain rfl) ?_
              rintro _ _ ⟨_, _, ⟨rfl, rfl⟩, rfl, rfl⟩
              refine ⟨fun _ => (fun _ h => h), ?_⟩
              refine D.one 18 (by kernel_rfl) ?_
              refine Up.eff rfl (e_alloc ze338 rfl rfl rfl) (Wt.plain rfl) ?_
              rintro _ _ ⟨k12, rfl, rfl⟩
              refine ⟨fun _ => (S_sub ((((((List.Sublist.slnil).cons _).cons_cons _).cons_cons _).cons_cons _).cons_cons _)), ?_⟩
              refine D.one 19 (by kernel_rfl) ?_
              refine Up.eff rfl (e_storeA (wide_ints wd338 (by first | omega | (simp; done) | (simp [-List.getD_eq_getElem?_getD]; omega) | (simp at *; omega) | rfl)) 4 rfl rfl rfl rfl (by first | omega | (simp; done) | (simp [-List.getD_eq_getElem?_getD]; omega) | (simp at *; omega) | rfl) ints_one rfl) (Wt.plain rfl) ?_
              rintro _ _ ⟨rfl, rfl⟩
              refine ⟨fun h => absurd h (by decide), ?_⟩
              refine D.done (by kernel_rfl) ?_
              refine Ex.next ?_
              refine W.keep [6, 7, 12, 14, 15, 56, 58, 59] rfl ?_
              refine W.sr ?_
              refine T.q (q_loadW (wide_ints wd340 (by first | omega | (simp; done) | (simp [-List.getD_eq_getElem?_getD]; omega) | (simp at *; omega) | rfl)) (R_blk 3 rfl) rfl rfl) (Wt.plain rfl) rfl rfl ?_
              refine T.q (q_move rfl rfl) (Wt.plain rfl) rfl rfl ?_
              refine T.end ?_
              refine W.drop [true, true, true, false, true] [6, 7, 12, 15, 56, 58, 59, 80, 81] rfl ?_
              change (_ : List Blk → Prop) [_, _, _, _]
              refine W.block ?_
              refine W.loop (α := Nat) (fun i => [(6, .pointer (some ⟨k3, 0, none⟩)), (7, .pointer (some ⟨k4, 0, none⟩)), (12, .pointer (some ⟨k8, 0, none⟩)), (15, .pointer (some ⟨k12, 0, none⟩)), (56, .int .i64 ((n : Nat) : Int)), (58, .agg (ints .i64 tbl).toArray), (59, .int .i64 ((j : Nat) : Int)), (80, .agg (ints .i64 (pl j)).toArray), (81, .int .i64 ((i : Nat) : Int))]) (fun i => [⟨some k3, ints .u8 (List.replicate 64 0), 311, (0, 0)⟩, ⟨some k4, ints .u32 (initS key nonce ctr), 337, (0, 0)⟩, ⟨some k8, ints .u32 (fillAt (fun q => ((pl j).getD q 0).toNat) (fun q => (qof (pl j) (dr j (rn n (initS key nonce ctr)))).getD q 0) i (dr j (rn n (initS key nonce ctr)))), 337, (0, 0)⟩, ⟨some k12, ints .u32 (qof (pl j) (dr j (rn n (initS key nonce ctr)))), 338, (0, 0)⟩]) (fun i => i ≤ 4) (fun i => 4 - i) [true, true, true, true] 0 (by omega) ⟨rfl, rfl, rfl, rfl, rfl, rfl, rfl, rfl, rfl, trivial⟩ rfl ?_
              rintro i hi
              refine W.go ttok [] [6, 7, 12, 15, 56, 58, 59, 80, 81, 82] rfl trivial rfl rfl ?_
              refine W.seq ?_
              refine W.cond _ rfl (fun hb13 => ?_) (fun hb13 => ?_)
              · replace hb13 := of_decide_eq_true hb13
                have hi4 : i < 4 := by omega
                have pi := pl_ok hj8 hi4
                refine W.skip ?_
                refine Ex.next ?_
                refine W.keep [6, 7, 12, 15, 56, 58, 59, 80, 81] rfl ?_
                refine W.seq ?_
                refine W.block ?_
                refine W.sr ?_
                refine T.q (q_move rfl rfl) (Wt.plain rfl) rfl rfl ?_
                refine T.q (q_ixVI ar340 ss3 i rfl rfl rfl (by omega) (by omega) (by first | omega | (simp; done) | (simp [-List.getD_eq_getElem?_getD]; omega))) (Wt.plain rfl) rfl rfl ?_
                refine T.runF ttok [] [6, 7, 12, 15, 16, 17, 56, 58, 59, 80, 81] rfl trivial rfl rfl ?_
                refine W.region ?_
                refine T.run ttok 2 [] rfl trivial rfl ?_
                refine T.q (q_ixA0 ar338 i rfl rfl rfl (by omega) (by omega)) (Wt.plain rfl) rfl rfl ?_
                refine T.q (q_loadI ss275 3 rfl rfl rfl (by first | omega | (simp; done) | (simp [-List.getD_eq_getElem?_getD]; omega))) (Wt.plain rfl) rfl rfl ?_
                refine T.q (q_ixA0 ar337 (((pl j).getD i 0).toNat) rfl rfl rfl (by omega) (by omega)) (Wt.plain rfl) rfl rfl ?_
                refine T.eff (e_storeI ss275 2 rfl rfl rfl rfl (by first | omega | (simp; done) | (simp [-List.getD_eq_getElem?_getD]; omega)) rfl) (Wt.plain rfl) ?_
                rintro _ _ ⟨rfl, rfl⟩
                change (_ : List Blk → Prop) [_, _, _, _]
                refine T.nil ?_
                refine Ex.in_normal ?_
                refine Ex.next ?_
                refine W.keep [6, 7, 12, 15, 56, 58, 59, 80, 81] rfl ?_
                refine W.region ?_
                refine T.run ttok 2 [] rfl ⟨⟨(by omega), (by omega)⟩, trivial⟩ rfl ?_
                refine T.nil ?_
                exact Ex.again [true, true, true, true] (i + 1) (by omega) (by omega) ⟨rfl, rfl, rfl, rfl, rfl, rfl, rfl, rfl, rfl, trivial⟩ rfl
              · replace hb13 := of_decide_eq_false hb13
                obtain rfl : i = 4 := by omega
                refine W.exit ?_
                refine Ex.then_exit ?_
                refine Ex.then_exit ?_
                refine Ex.in_here ?_
                refine Ex.in_normal ?_
                refine Ex.next ?_
                refine W.drop [true, true, true, false] [6, 7, 12, 56, 58, 59] rfl ?_
                change (_ : List Blk → Prop) [_, _, _]
                refine W.region ?_
                refine T.run ttok 2 [] rfl ⟨⟨(by omega), (by omega)⟩, trivial⟩ rfl ?_
                refine T.nil ?_
                exact Ex.again [true, true, true] (j + 1) (by omega) (by omega) ⟨rfl, rfl, rfl, rfl, rfl, rfl, trivial⟩ rfl
            ·
              refine Up.eff rfl (e_alloc ze338 rfl rfl rfl) (Wt.plain rfl) ?_
              rintro _ _ ⟨k14, rfl, rfl⟩
              refine ⟨fun _ => (S_sub ((((((List.Sublist.slnil).cons _).cons_cons _).cons_cons _).cons_cons _).cons_cons _)), ?_⟩
              refine D.one 17 (by kernel_rfl) ?_
              refine Up.eff rfl (e_call enters263 rfl rfl (fun w hm => quarter_spec [_, _, _, _] rfl w) rfl rfl) (Wt.plain rfl) ?_
              rintro _ _ ⟨_, _, ⟨rfl, rfl⟩, rfl, rfl⟩
              refine ⟨fun _ => (S_sub ((((((List.Sublist.slnil).cons _).cons_cons _).cons_cons _).cons_cons _).cons_cons _)), ?_⟩
              refine D.one 19 (by kernel_rfl) ?_
              refine Up.eff rfl (e_storeA (wide_ints wd338 (by first | omega | (simp; done) | (simp [-List.getD_eq_getElem?_getD]; omega) | (simp at *; omega) | rfl)) 4 rfl rfl rfl rfl (by first | omega | (simp; done) | (simp [-List.getD_eq_getElem?_getD]; omega) | (simp at *; omega) | rfl) ints_one rfl) (Wt.plain rfl) ?_
              rintro _ _ ⟨rfl, rfl⟩
              refine ⟨fun h => absurd h (by decide), ?_⟩
              refine D.done (by kernel_rfl) ?_
              refine Ex.next ?_
              refine W.keep [6, 7, 12, 14, 15, 56, 58, 59] rfl ?_
              refine W.sr ?_
              refine T.q (q_loadW (wide_ints wd340 (by first | omega | (simp; done) | (simp [-List.getD_eq_getElem?_getD]; omega) | (simp at *; omega) | rfl)) (R_blk 3 rfl) rfl rfl) (Wt.plain rfl) rfl rfl ?_
              refine T.q (q_move rfl rfl) (Wt.plain rfl) rfl rfl ?_
              refine T.end ?_
              refine W.drop [true, true, true, false, true] [6, 7, 12, 15, 56, 58, 59, 80, 81] rfl ?_
              change (_ : List Blk → Prop) [_, _, _, _]
              refine W.block ?_
              refine W.loop (α := Nat) (fun i => [(6, .pointer (some ⟨k3, 0, none⟩)), (7, .pointer (some ⟨k4, 0, none⟩)), (12, .pointer (some ⟨k8, 0, none⟩)), (15, .pointer (some ⟨k14, 0, none⟩)), (56, .int .i64 ((n : Nat) : Int)), (58, .agg (ints .i64 tbl).toArray), (59, .int .i64 ((j : Nat) : Int)), (80, .agg (ints .i64 (pl j)).toArray), (81, .int .i64 ((i : Nat) : Int))]) (fun i => [⟨some k3, ints .u8 (List.replicate 64 0), 311, (0, 0)⟩, ⟨some k4, ints .u32 (initS key nonce ctr), 337, (0, 0)⟩, ⟨some k8, ints .u32 (fillAt (fun q => ((pl j).getD q 0).toNat) (fun q => (qof (pl j) (dr j (rn n (initS key nonce ctr)))).getD q 0) i (dr j (rn n (initS key nonce ctr)))), 337, (0, 0)⟩, ⟨some k14, ints .u32 (qof (pl j) (dr j (rn n (initS key nonce ctr)))), 338, (0, 0)⟩]) (fun i => i ≤ 4) (fun i => 4 - i) [true, true, true, true] 0 (by omega) ⟨rfl, rfl, rfl, rfl, rfl, rfl, rfl, rfl, rfl, trivial⟩ rfl ?_
              rintro i hi
              refine W.go ttok [] [6, 7, 12, 15, 56, 58, 59, 80, 81, 82] rfl trivial rfl rfl ?_
              refine W.seq ?_
              refine W.cond _ rfl (fun hb15 => ?_) (fun hb15 => ?_)
              · replace hb15 := of_decide_eq_true hb15
                have hi4 : i < 4 := by omega
                have pi := pl_ok hj8 hi4
                refine W.skip ?_
                refine Ex.next ?_
                refine W.keep [6, 7, 12, 15, 56, 58, 59, 80, 81] rfl ?_
                refine W.seq ?_
                refine W.block ?_
                refine W.sr ?_
                refine T.q (q_move rfl rfl) (Wt.plain rfl) rfl rfl ?_
                refine T.q (q_ixVI ar340 ss3 i rfl rfl rfl (by omega) (by omega) (by first | omega | (simp; done) | (simp [-List.getD_eq_getElem?_getD]; omega))) (Wt.plain rfl) rfl rfl ?_
                refine T.runF ttok [] [6, 7, 12, 15, 16, 17, 56, 58, 59, 80, 81] rfl trivial rfl rfl ?_
                refine W.region ?_
                refine T.run ttok 2 [] rfl trivial rfl ?_
                refine T.q (q_ixA0 ar338 i rfl rfl rfl (by omega) (by omega)) (Wt.plain rfl) rfl rfl ?_
                refine T.q (q_loadI ss275 3 rfl rfl rfl (by first | omega | (simp; done) | (simp [-List.getD_eq_getElem?_getD]; omega))) (Wt.plain rfl) rfl rfl ?_
                refine T.q (q_ixA0 ar337 (((pl j).getD i 0).toNat) rfl rfl rfl (by omega) (by omega)) (Wt.plain rfl) rfl rfl ?_
                refine T.eff (e_storeI ss275 2 rfl rfl rfl rfl (by first | omega | (simp; done) | (simp [-List.getD_eq_getElem?_getD]; omega)) rfl) (Wt.plain rfl) ?_
                rintro _ _ ⟨rfl, rfl⟩
                change (_ : List Blk → Prop) [_, _, _, _]
                refine T.nil ?_
                refine Ex.in_normal ?_
                refine Ex.next ?_
                refine W.keep [6, 7, 12, 15, 56, 58, 59, 80, 81] rfl ?_
                refine W.region ?_
                refine T.run ttok 2 [] rfl ⟨⟨(by omega), (by omega)⟩, trivial⟩ rfl ?_
                refine T.nil ?_
                exact Ex.again [true, true, true, true] (i + 1) (by omega) (by omega) ⟨rfl, rfl, rfl, rfl, rfl, rfl, rfl, rfl, rfl, trivial⟩ rfl
              · replace hb15 := of_decide_eq_false hb15
                obtain rfl : i = 4 := by omega
                refine W.exit ?_
                refine Ex.then_exit ?_
                refine Ex.then_exit ?_
                refine Ex.in_here ?_
                refine Ex.in_normal ?_
                refine Ex.next ?_
                refine W.drop [true, true, true, false] [6, 7, 12, 56, 58, 59] rfl ?_
                change (_ : List Blk → Prop) [_, _, _]
                refine W.region ?_
                refine T.run ttok 2 [] rfl ⟨⟨(by omega), (by omega)⟩, trivial⟩ rfl ?_
                refine T.nil ?_
                exact Ex.again [true, true, true] (j + 1) (by omega) (by omega) ⟨rfl, rfl, rfl, rfl, rfl, rfl, trivial⟩ rfl
          · replace hb10 := of_decide_eq_false hb10
            obtain rfl : j = 8 := by omega
            refine W.exit ?_
            refine Ex.then_exit ?_
            refine Ex.then_exit ?_
            refine Ex.in_here ?_
            refine Ex.in_normal ?_
            refine Ex.next ?_
            refine W.keep [6, 7, 12, 56] rfl ?_
            refine W.region ?_
            refine T.run ttok 2 [] rfl ⟨⟨(by omega), (by omega)⟩, trivial⟩ rfl ?_
            refine T.nil ?_
            exact Ex.again [true, true, true] (n + 1) (by omega) (by omega) ⟨rfl, rfl, rfl, rfl, trivial⟩ rfl
        · replace hb9 := of_decide_eq_false hb9
          obtain rfl : n = 10 := by omega
          refine W.exit ?_
          refine Ex.then_exit ?_
          refine Ex.then_exit ?_
          refine Ex.in_here ?_
          refine Ex.next ?_
          refine W.keep [6, 7, 12] rfl ?_
          refine W.sr ?_
          refine T.eff (e_alloc ze311 rfl rfl rfl) (Wt.plain rfl) ?_
          rintro _ _ ⟨k16, rfl, rfl⟩
          change (_ : List Blk → Prop) [_, _, _, _]
          refine T.fin [6, 7, 12, 18] rfl ?_
          refine W.seq ?_
          refine W.go ttok [] [6, 7, 12, 18, 93] rfl trivial rfl rfl ?_
          refine W.block ?_
          refine W.loop (α := Nat) (fun i => [(6, .pointer (some ⟨k3, 0, none⟩)), (7, .pointer (some ⟨k4, 0, none⟩)), (12, .pointer (some ⟨k8, 0, none⟩)), (18, .pointer (some ⟨k16, 0, none⟩)), (93, .int .i64 ((i : Nat) : Int))]) (fun i => [⟨some k3, ints .u8 (List.replicate 64 0), 311, (0, 0)⟩, ⟨some k4, ints .u32 (initS key nonce ctr), 337, (0, 0)⟩, ⟨some k8, ints .u32 (rn 10 (initS key nonce ctr)), 337, (0, 0)⟩, ⟨some k16, ints .u8 (ser (fun q => IntKind.u32.wrap ((rn 10 (initS key nonce ctr)).getD q 0 + (initS key nonce ctr).getD q 0)) i), 311, (0, 0)⟩]) (fun i => i ≤ 16) (fun i => 16 - i) [true, true, true, true] 0 (by omega) ⟨rfl, rfl, rfl, rfl, rfl, trivial⟩ rfl ?_
          rintro i hi
          refine W.go ttok [] [6, 7, 12, 18, 93, 94] rfl trivial rfl rfl ?_
          refine W.seq ?_
          refine W.cond _ rfl (fun hb17 => ?_) (fun hb17 => ?_)
          · replace hb17 := of_decide_eq_true hb17
            refine W.skip ?_
            refine Ex.next ?_
            refine W.keep [6, 7, 12, 18, 93] rfl ?_
            refine W.seq ?_
            refine W.block ?_
            refine W.go ttok [] [6, 7, 12, 18, 19, 93] rfl trivial rfl rfl ?_
            refine W.seq ?_
            refine W.draw 7 (by kernel_rfl) ?_
            refine D.take 0 rfl (by kernel_rfl) (fun _ h => h) (q_move rfl rfl) (Wt.plain rfl) rfl rfl ?_
            refine D.take 1 rfl (by kernel_rfl) (fun _ h => h) (q_ixA0 ar337 i rfl rfl rfl (by omega) (by omega)) (Wt.plain rfl) rfl rfl ?_
            refine D.take 2 rfl (by kernel_rfl) (fun _ h => h) (q_loadI ss275 2 rfl rfl rfl (by first | omega | (simp; done) | (simp [-List.getD_eq_getElem?_getD]; omega))) (Wt.plain rfl) rfl rfl ?_
            refine D.take 3 rfl (by kernel_rfl) (fun _ h => h) (q_move rfl rfl) (Wt.plain rfl) rfl rfl ?_
            refine D.take 4 rfl (by kernel_rfl) (fun _ h => h) (q_ixA0 ar337 i rfl rfl rfl (by omega) (by omega)) (Wt.plain rfl) rfl rfl ?_
            refine D.take 5 rfl (by kernel_rfl) (fun _ h => h) (q_loadI ss275 1 rfl rfl rfl (by first | omega | (simp; done) | (simp [-List.getD_eq_getElem?_getD]; omega))) (Wt.plain rfl) rfl rfl ?_
            refine D.take 6 rfl (by kernel_rfl) (fun _ h => h) (q_add rfl rfl rfl) (Wt.plain rfl) rfl rfl ?_
            refine D.one 7 (by kernel_rfl) ?_
            refine Up.q rfl (q_assign rfl rfl) (Wt.plain rfl) rfl rfl (fun h => absurd h (by decide)) ?_
            refine D.done (by kernel_rfl) ?_
            refine Ex.next ?_
            refine W.keep [6, 7, 12, 18, 19, 20, 93] rfl ?_
            refine W.go ttok [] [6, 7, 12, 18, 19, 20, 93, 103] rfl trivial rfl rfl ?_
            refine W.block ?_
            refine W.loop (α := Nat) (fun k => [(6, .pointer (some ⟨k3, 0, none⟩)), (7, .pointer (some ⟨k4, 0, none⟩)), (12, .pointer (some ⟨k8, 0, none⟩)), (18, .pointer (some ⟨k16, 0, none⟩)), (19, .int .i64 ((i : Nat) : Int)), (20, .int .u32 (IntKind.u32.wrap (((rn 10 (initS key nonce ctr)).getD i 0) + ((initS key nonce ctr).getD i 0)))), (93, .int .i64 ((i : Nat) : Int)), (103, .int .i64 ((k : Nat) : Int))]) (fun k => [⟨some k3, ints .u8 (List.replicate 64 0), 311, (0, 0)⟩, ⟨some k4, ints .u32 (initS key nonce ctr), 337, (0, 0)⟩, ⟨some k8, ints .u32 (rn 10 (initS key nonce ctr)), 337, (0, 0)⟩, ⟨some k16, ints .u8 (fillAt (fun q => 4 * i + q) (fun q => IntKind.u8.wrap (shr .u32 (IntKind.u32.wrap ((rn 10 (initS key nonce ctr)).getD i 0 + (initS key nonce ctr).getD i 0)) (8 * (q : Int)))) k (ser (fun q => IntKind.u32.wrap ((rn 10 (initS key nonce ctr)).getD q 0 + (initS key nonce ctr).getD q 0)) i)), 311, (0, 0)⟩]) (fun k => k ≤ 4) (fun k => 4 - k) [true, true, true, true] 0 (by omega) ⟨rfl, rfl, rfl, rfl, rfl, rfl, rfl, rfl, trivial⟩ rfl ?_
            rintro k hk
            refine W.go ttok [] [6, 7, 12, 18, 19, 20, 93, 103, 104] rfl trivial rfl rfl ?_
            refine W.seq ?_
            refine W.cond _ rfl (fun hb18 => ?_) (fun hb18 => ?_)
            · replace hb18 := of_decide_eq_true hb18
              refine W.skip ?_
              refine Ex.next ?_
              refine W.keep [6, 7, 12, 18, 19, 20, 93, 103] rfl ?_
              refine W.seq ?_
              refine W.block ?_
              refine W.go ttok [] [6, 7, 12, 18, 19, 20, 21, 93, 103] rfl trivial rfl rfl ?_
              refine W.region ?_
              refine T.run ttok 7 [] rfl ⟨⟨(by omega), (by omega)⟩, ⟨(by omega), (by omega)⟩, ⟨(by omega), (by omega)⟩, trivial⟩ rfl ?_
              refine T.q (q_shr rfl rfl rfl (by omega)) (Wt.plain rfl) rfl rfl ?_
              refine T.q (q_conv un275 un5 rfl rfl) (Wt.plain rfl) rfl rfl ?_
              refine T.q (q_ixA0 ar311 ((4 * i) + k) rfl rfl rfl (by omega) (by omega)) (Wt.plain rfl) rfl rfl ?_
              refine T.eff (e_storeI ss5 3 rfl rfl rfl rfl (by first | omega | (simp; done) | (simp [-List.getD_eq_getElem?_getD]; omega)) rfl) (Wt.plain rfl) ?_
              rintro _ _ ⟨rfl, rfl⟩
              change (_ : List Blk → Prop) [_, _, _, _]
              refine T.nil ?_
              refine Ex.in_normal ?_
              refine Ex.next ?_
              refine W.keep [6, 7, 12, 18, 19, 20, 93, 103] rfl ?_
              refine W.region ?_
              refine T.run ttok 2 [] rfl ⟨⟨(by omega), (by omega)⟩, trivial⟩ rfl ?_
              refine T.nil ?_
              exact Ex.again [true, true, true, true] (k + 1) (by omega) (by omega) ⟨rfl, rfl, rfl, rfl, rfl, rfl, rfl, rfl, trivial⟩ rfl
            · replace hb18 := of_decide_eq_false hb18
              obtain rfl : k = 4 := by omega
              refine W.exit ?_
              refine Ex.then_exit ?_
              refine Ex.then_exit ?_
              refine Ex.in_here ?_
              refine Ex.in_normal ?_
              refine Ex.next ?_
              refine W.keep [6, 7, 12, 18, 93] rfl ?_
              refine W.region ?_
              refine T.run ttok 2 [] rfl ⟨⟨(by omega), (by omega)⟩, trivial⟩ rfl ?_
              refine T.nil ?_
              exact Ex.again [true, true, true, true] (i + 1) (by omega) (by omega) ⟨rfl, rfl, rfl, rfl, rfl, trivial⟩ rfl
          · replace hb17 := of_decide_eq_false hb17
            obtain rfl : i = 16 := by omega
            refine W.exit ?_
            refine Ex.then_exit ?_
            refine Ex.then_exit ?_
            refine Ex.in_here ?_
            refine Ex.next ?_
            refine W.drop [true, false, false, true] [6, 18] rfl ?_
            change (_ : List Blk → Prop) [_, _]
            refine W.sr ?_
            refine T.q (q_loadW (wide_ints wd311 (by first | omega | (simp; done) | (simp [-List.getD_eq_getElem?_getD]; omega) | (simp at *; omega) | rfl)) (R_blk 1 rfl) rfl rfl) (Wt.plain rfl) rfl rfl ?_
            refine T.eff (e_storeA (wide_ints wd311 (by first | omega | (simp; done) | (simp [-List.getD_eq_getElem?_getD]; omega) | (simp at *; omega) | rfl)) 0 rfl rfl rfl rfl (by first | omega | (simp; done) | (simp [-List.getD_eq_getElem?_getD]; omega) | (simp at *; omega) | rfl) ints_one rfl) (Wt.plain rfl) ?_
            rintro _ _ ⟨rfl, rfl⟩
            change (_ : List Blk → Prop) [_, _]
            refine T.end ?_
            refine W.drop [true, false] [6] rfl ?_
            change (_ : List Blk → Prop) [_]
            refine W.ret ?_
            refine Ex.outC [false] 0 rfl (by exact (wide_ints wd311 (by first | omega | (simp; done) | (simp [-List.getD_eq_getElem?_getD]; omega) | (simp at *; omega) | rfl))) rfl rfl ?_
            exact ⟨rfl, rfl⟩
end Go.Proofs.YtpklnjegimchoaaGreatDoor
namespace Go.Proofs.YtpklnjegimchoaaGreatDoor
open Go Go.X
end Go.Proofs.YtpklnjegimchoaaGreatDoor
namespace Go.Proofs.YtpklnjegimchoaaGreatDoor
open Go Go.X
set_option maxRecDepth 100000 in
set_option maxHeartbeats 1000000 in
theorem xor_spec2 (key nonce : List Int) (ctr : Int) (hk : key.length = 32) (hnn : nonce.length = 12) (hctr : IntKind.u32.wrap ctr = ctr) (A : Option Addr) (c : Nat) (xs : List Int) (hsz : xs.length ≤ 140737488351232) (w0 : World) (hR : Reads w0 A (ints .u8 xs)) (hh : Reads w0 (some ⟨4, 0, none⟩) (ints .u32 headW)) (ht : Reads w0 (some ⟨5, 0, none⟩) (ints .i64 tbl)) : Does Tryz.prog 185 #[.agg (ints .u8 key).toArray, .int .u32 ctr, .agg (ints .u8 nonce).toArray, .slice A xs.length c] w0 [] (fun v G => ∃ k : Nat, v = .slice (some ⟨k, 0, none⟩) xs.length xs.length ∧ G = [⟨some k, ints .u8 (xorS key nonce ctr xs), 5, (0, 0)⟩]) := by
  refine spec_of 43 Tryz.func185 rfl rfl rfl ?_
  refine W.sr ?_
  refine T.eff (e_box rfl rfl rfl rfl) (Wt.plain rfl) ?_
  rintro _ _ ⟨k1, rfl, rfl⟩
  change (_ : List Blk → Prop) [_]
  refine T.eff (e_box rfl rfl rfl rfl) (Wt.plain rfl) ?_
  rintro _ _ ⟨k2, rfl, rfl⟩
  change (_ : List Blk → Prop) [_, _]
  refine T.runF ttok [] [1, 3, 4, 6] rfl trivial rfl rfl ?_
  refine W.sr ?_
  refine T.run ttok 2 [] rfl trivial rfl ?_
  refine T.eff (e_makeI sc22 ze5 xs.length xs.length rfl rfl rfl (by omega) (by omega) (by omega) (by omega) (by omega) rfl rfl) (Wt.plain rfl) ?_
  rintro _ _ ⟨k3, rfl, rfl⟩
  change (_ : List Blk → Prop) [_, _, _]
  refine T.runF ttok [] [1, 3, 4, 6, 9] rfl trivial rfl rfl ?_
  refine W.sr ?_
  refine T.eff (e_alloc ze311 rfl rfl rfl) (Wt.plain rfl) ?_
  rintro _ _ ⟨k4, rfl, rfl⟩
  change (_ : List Blk → Prop) [_, _, _, _]
  refine T.fin [1, 3, 4, 6, 9, 10] rfl ?_
  refine W.seq ?_
  refine W.go ttok [] [1, 4, 6, 9, 10, 16, 17, 18] rfl trivial rfl rfl ?_
  refine W.block ?_
  refine W.loop (α := Nat × List Int × Int) (fun x_ => [(1, .int .u32 x_.2.2), (4, .pointer (some ⟨k1, 0, none⟩)), (6, .pointer (some ⟨k2, 0, none⟩)), (9, .slice (some ⟨k3, 0, none⟩) xs.length xs.length), (10, .pointer (some ⟨k4, 0, none⟩)), (16, .slice A xs.length c), (17, .int .i64 ((xs.length : Nat) : Int)), (18, .int .i64 ((x_.1 : Nat) : Int))]) (fun x_ => [⟨some k1, ints .u8 key, 38, (0, 0)⟩, ⟨some k2, ints .u8 nonce, 189, (0, 0)⟩, ⟨some k3, ints .u8 (fillAt (fun q => q) (xorAt key nonce ctr xs) x_.1 (List.replicate xs.length 0)), 5, (0, 0)⟩, ⟨some k4, ints .u8 x_.2.1, 311, (0, 0)⟩]) (fun x_ => x_.1 ≤ xs.length ∧ x_.2.1.length = 64 ∧ x_.2.2 = IntKind.u32.wrap (ctr + (((x_.1 + 63) / 64 : Nat) : Int)) ∧ (x_.1 % 64 ≠ 0 → x_.2.1 = block key nonce (IntKind.u32.wrap (ctr + ((x_.1 / 64 : Nat) : Int))))) (fun x_ => xs.length - x_.1) [true, true, true, true] (⟨0, List.replicate 64 0, ctr⟩) ⟨Nat.zero_le _, by simp, ctr_first ctr hctr, fun h => absurd rfl h⟩ ⟨rfl, rfl, rfl, rfl, rfl, rfl, rfl, rfl, trivial⟩ rfl ?_
  rintro ⟨i, bb, cc⟩ ⟨hi, hbl, hcc, hbb⟩
  conv => rhs; dsimp only
  conv => arg -2; dsimp only
  dsimp only at hi hbl hcc hbb
  refine W.go ttok [] [1, 4, 6, 9, 10, 16, 17, 18, 19] rfl trivial rfl rfl ?_
  refine W.seq ?_
  refine W.cond _ rfl (fun hb5 => ?_) (fun hb5 => ?_)
  · replace hb5 := of_decide_eq_true hb5
    refine W.skip ?_
    refine Ex.next ?_
    refine W.keep [1, 4, 6, 9, 10, 16, 17, 18] rfl ?_
    refine W.seq ?_
    refine W.block ?_
    refine W.sr ?_
    refine T.q (q_move rfl rfl) (Wt.plain rfl) rfl rfl ?_
    refine T.q (q_ixE1 sc22 i (R_ext hR.ext) rfl rfl rfl (by omega) (by omega) (by first | omega | (simp; done) | (simp [-List.getD_eq_getElem?_getD]; omega))) (Wt.plain rfl) rfl rfl ?_
    refine T.q (q_loadE ss5 (R_ext hR.ext) rfl rfl (ints_get (by first | omega | (simp; done) | (simp [-List.getD_eq_getElem?_getD]; omega)))) (Wt.plain rfl) rfl rfl ?_
    refine T.runF ttok [] [1, 4, 6, 9, 10, 11, 12, 16, 17, 18] rfl trivial rfl rfl ?_
    refine W.meet (α := List Int × Int) (fun x_ => [(1, .int .u32 x_.2), (4, .pointer (some ⟨k1, 0, none⟩)), (6, .pointer (some ⟨k2, 0, none⟩)), (9, .slice (some ⟨k3, 0, none⟩) xs.length xs.length), (10, .pointer (some ⟨k4, 0, none⟩)), (11, .int .i64 ((i : Nat) : Int)), (12, .int .u8 ((xs).getD i 0)), (16, .slice A xs.length c), (17, .int .i64 ((xs.length : Nat) : Int)), (18, .int .i64 ((i : Nat) : Int))]) (fun x_ => [⟨some k1, ints .u8 key, 38, (0, 0)⟩, ⟨some k2, ints .u8 nonce, 189, (0, 0)⟩, ⟨some k3, ints .u8 (fillAt (fun q => q) (xorAt key nonce ctr xs) i (List.replicate xs.length 0)), 5, (0, 0)⟩, ⟨some k4, ints .u8 x_.1, 311, (0, 0)⟩]) (fun x_ => x_.1 = block key nonce (IntKind.u32.wrap (ctr + ((i / 64 : Nat) : Int))) ∧ x_.2 = IntKind.u32.wrap (ctr + (((i + 1 + 63) / 64 : Nat) : Int))) ?_ ?_
    ·
      refine W.sr ?_
      refine T.q (q_move rfl rfl) (Wt.plain rfl) rfl rfl ?_
      refine T.q (q_rem rfl rfl rfl (by omega) (by decide)) (Wt.plain rfl) rfl rfl ?_
      refine T.runF ttok [] [1, 4, 6, 9, 10, 11, 12, 16, 17, 18, 25] rfl trivial rfl rfl ?_
      refine W.cond _ rfl (fun hb6 => ?_) (fun hb6 => ?_)
      · replace hb6 := of_decide_eq_true hb6
        refine W.sr ?_
        refine T.q (q_loadW (wide_ints wd38 (by first | omega | (simp; done) | (simp [-List.getD_eq_getElem?_getD]; omega) | (simp at *; omega) | rfl)) (R_blk 0 rfl) rfl rfl) (Wt.plain rfl) rfl rfl ?_
        refine T.q (q_move rfl rfl) (Wt.plain rfl) rfl rfl ?_
        refine T.q (q_loadW (wide_ints wd189 (by first | omega | (simp; done) | (simp [-List.getD_eq_getElem?_getD]; omega) | (simp at *; omega) | rfl)) (R_blk 1 rfl) rfl rfl) (Wt.plain rfl) rfl rfl ?_
        refine T.eff (e_call enters235 rfl rfl (fun w hm => block_spec key nonce cc hk hnn w (R_ext hh.ext w hm) (R_ext ht.ext w hm)) rfl rfl) (Wt.plain rfl) ?_
        rintro _ _ ⟨_, _, ⟨rfl, rfl⟩, rfl, rfl⟩
        change (_ : List Blk → Prop) [_, _, _, _]
        refine T.eff (e_storeA (wide_ints wd311 (by first | omega | (simp; done) | (simp [-List.getD_eq_getElem?_getD]; omega) | (simp at *; omega) | rfl)) 3 rfl rfl rfl rfl (by first | omega | (simp; done) | (simp [-List.getD_eq_getElem?_getD]; omega) | (simp at *; omega) | rfl) ints_one rfl) (Wt.plain rfl) ?_
        rintro _ _ ⟨rfl, rfl⟩
        change (_ : List Blk → Prop) [_, _, _, _]
        refine T.fin [1, 4, 6, 9, 10, 11, 12, 16, 17, 18] rfl ?_
        refine W.region ?_
        refine T.q (q_move rfl rfl) (Wt.plain rfl) rfl rfl ?_
        refine T.q (q_add rfl rfl rfl) (Wt.plain rfl) rfl rfl ?_
        refine T.q (q_assign rfl rfl) (Wt.plain rfl) rfl rfl ?_
        refine T.nil ?_
        exact Ex.met [true, true, true, true] (⟨block key nonce cc, IntKind.u32.wrap (cc + 1)⟩ : List Int × Int) ⟨by dsimp only; rw [ctr_here ctr cc hcc (by omega)], by dsimp only; exact ctr_next ctr cc hcc (by omega)⟩ ⟨rfl, rfl, rfl, rfl, rfl, rfl, rfl, rfl, rfl, rfl, trivial⟩ (by first | (dsimp only [pick]; done) | rfl)
      · replace hb6 := of_decide_eq_false hb6
        refine W.skip ?_
        exact Ex.met [true, true, true, true] (⟨bb, cc⟩ : List Int × Int) ⟨hbb (by omega), ctr_same ctr cc hcc (by omega)⟩ ⟨rfl, rfl, rfl, rfl, rfl, rfl, rfl, rfl, rfl, rfl, trivial⟩ (by first | (dsimp only [pick]; done) | rfl)
    ·
      rintro ⟨b2, c2⟩ ⟨hb2, hc2⟩
      conv => rhs; dsimp only
      conv => arg -2; dsimp only
      dsimp only at hb2 hc2
      have hbl2 : b2.length = 64 := by rw [hb2]; exact block_length _ _ _
      refine W.region ?_
      refine T.run ttok 4 [] rfl trivial rfl ?_
      refine T.q (q_rem rfl rfl rfl (by omega) (by decide)) (Wt.plain rfl) rfl rfl ?_
      refine T.q (q_ixA0 ar311 (i % 64) rfl rfl rfl (by omega) (by omega)) (Wt.plain rfl) rfl rfl ?_
      refine T.q (q_loadI ss5 3 rfl rfl rfl (by first | omega | (simp; done) | (simp [-List.getD_eq_getElem?_getD]; omega))) (Wt.plain rfl) rfl rfl ?_
      refine T.q (q_xor rfl rfl rfl) (Wt.plain rfl) rfl rfl ?_
      refine T.q (q_ixS0 sc22 i rfl rfl rfl (by omega) (by omega)) (Wt.plain rfl) rfl rfl ?_
      refine T.eff (e_storeI ss5 2 rfl rfl rfl rfl (by first | omega | (simp; done) | (simp [-List.getD_eq_getElem?_getD]; omega)) rfl) (Wt.plain rfl) ?_
      rintro _ _ ⟨rfl, rfl⟩
      change (_ : List Blk → Prop) [_, _, _, _]
      refine T.nil ?_
      refine Ex.in_normal ?_
      refine Ex.next ?_
      refine W.keep [1, 4, 6, 9, 10, 16, 17, 18] rfl ?_
      refine W.region ?_
      refine T.run ttok 2 [] rfl ⟨⟨(by omega), (by omega)⟩, trivial⟩ rfl ?_
      refine T.nil ?_
      exact Ex.again [true, true, true, true] (⟨i + 1, b2, c2⟩ : Nat × List Int × Int) (by dsimp only; omega) (by dsimp only; exact ⟨by omega, by rw [hb2]; exact block_length _ _ _, hc2, fun h => by rw [hb2, show (i + 1) / 64 = i / 64 by omega]⟩) ⟨rfl, rfl, rfl, rfl, rfl, rfl, rfl, rfl, trivial⟩ (congrArg (fun r_ : List Int => ([⟨some k1, ints .u8 key, 38, (0, 0)⟩, ⟨some k2, ints .u8 nonce, 189, (0, 0)⟩, ⟨some k3, ints .u8 r_, 5, (0, 0)⟩, ⟨some k4, ints .u8 b2, 311, (0, 0)⟩] : List Blk)) (by rw [hb2, fillAt, xorAt]))
  · replace hb5 := of_decide_eq_false hb5
    obtain rfl : i = xs.length := by omega
    refine W.exit ?_
    refine Ex.then_exit ?_
    refine Ex.then_exit ?_
    refine Ex.in_here ?_
    refine Ex.next ?_
    refine W.drop [false, false, true, false] [9] rfl ?_
    change (_ : List Blk → Prop) [_]
    refine W.go ttok [] [8] rfl trivial rfl rfl ?_
    refine W.ret ?_
    refine Ex.out1 [true] rfl rfl ?_
    exact ⟨_, rfl, by rw [xorS, ← fillAt_all]; dsimp only [pick]⟩
theorem xor_spec (key nonce : List Int) (ctr : Int) (hk : key.length = 32) (hnn : nonce.length = 12) (hctr : IntKind.u32.wrap ctr = ctr) (A : Option Addr) (c : Nat) (xs : List Int) (hsz : xs.length ≤ 140737488351232) (w0 : World) (hR : Reads w0 A (ints .u8 xs)) (hh : Reads w0 (some ⟨4, 0, none⟩) (ints .u32 headW)) (ht : Reads w0 (some ⟨5, 0, none⟩) (ints .i64 tbl)) : Does Tryz.prog 185 #[.agg (ints .u8 key).toArray, .int .u32 ctr, .agg (ints .u8 nonce).toArray, .slice A xs.length c] w0 [] (fun v G => ∃ (k cap : Nat) (junk : List Value), v = .slice (some ⟨k, 0, none⟩) xs.length cap ∧ xs.length + junk.length = cap ∧ G = [⟨some k, ints .u8 (xorS key nonce ctr xs) ++ junk, 5, (0, 0)⟩]) := by
  refine (xor_spec2 key nonce ctr hk hnn hctr A c xs hsz w0 hR hh ht).mono ?_
  rintro v G ⟨k, rfl, rfl⟩
  exact ⟨k, _, [], rfl, by simp, by rw [List.append_nil]⟩
end Go.Proofs.YtpklnjegimchoaaGreatDoor
