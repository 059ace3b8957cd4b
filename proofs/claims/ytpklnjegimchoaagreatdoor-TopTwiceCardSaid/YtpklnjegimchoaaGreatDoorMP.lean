/-
  The walks of the hash.
-/
import Derived.Test.YtpklnjegimchoaaGreatDoorMO
namespace Go.Proofs.YtpklnjegimchoaaGreatDoor
open Go Go.X
set_option maxRecDepth 100000 in
theorem rot_spec (x k s : Int) (hs : bits .and .u64 (IntKind.u64.wrap k) 31 = s) (h0 : 0 ≤ s) (h1 : s < 32) (w0 : World) : Does Tryz.prog 280 #[.int .u32 x, .int .i64 k] w0 [] (fun v G => v = .int .u32 (rotl x s) ∧ G = []) := by
  have ht : IntKind.u64.wrap (32 - s) = 32 - s := by simp [IntKind.wrap, IntKind.bits, IntKind.signed]; omega
  refine spec_of 17 Tryz.func280 rfl rfl rfl ?_
  refine W.go ttok [] [0, 1] rfl trivial rfl rfl ?_
  refine W.sr ?_
  refine T.q (q_move rfl rfl) (Wt.plain rfl) rfl rfl ?_
  refine T.q (q_conv un3 un301 rfl rfl) (Wt.plain rfl) rfl rfl ?_
  refine T.q (q_int (b := s) (q_and rfl rfl rfl) hs) (Wt.plain rfl) rfl rfl ?_
  refine T.runF ttok [] [0, 5] rfl trivial rfl rfl ?_
  refine W.sr ?_
  refine T.run ttok 2 [] rfl trivial rfl ?_
  refine T.q (q_shl rfl rfl rfl (by omega)) (Wt.plain rfl) rfl rfl ?_
  refine T.run ttok 2 [] rfl trivial rfl ?_
  refine T.q (q_int (b := (32 - s)) (q_sub rfl rfl rfl) ht) (Wt.plain rfl) rfl rfl ?_
  refine T.q (q_shr rfl rfl rfl (by omega)) (Wt.plain rfl) rfl rfl ?_
  refine T.q (q_or rfl rfl rfl) (Wt.plain rfl) rfl rfl ?_
  refine T.runF ttok [] [4] rfl trivial rfl rfl ?_
  refine W.ret ?_
  refine Ex.out1 [] rfl rfl ?_
  exact ⟨rfl, rfl⟩
set_option maxRecDepth 100000 in
theorem mix_spec (v : List Int) (k a b c d : Nat) (ty : TypeId) (x y : Int) (hv : v.length = 16) (ha : a < 16) (hb : b < 16) (hc : c < 16) (hd : d < 16) (w0 : World) (hk : (⟨some k, ints .u32 v, ty, (0, 0)⟩ : Blk).here w0) : Does Tryz.prog 279 #[.pointer (some ⟨k, a, none⟩), .pointer (some ⟨k, b, none⟩), .pointer (some ⟨k, c, none⟩), .pointer (some ⟨k, d, none⟩), .int .u32 x, .int .u32 y] w0 [k] (fun r G => ∃ cs G2, (r = .tuple #[] ∧ cs = ints .u32 (mixS v a b c d x y) ∧ G2 = []) ∧ G = ⟨some k, cs, ty, (0, 0)⟩ :: G2) := by
  refine spec_ofB 88 [⟨some k, ints .u32 v, ty, (0, 0)⟩] (Mem.own1 rfl hk) Tryz.func279 rfl rfl rfl ?_
  refine W.seq ?_
  refine W.draw 9 (by kernel_rfl) ?_
  refine D.take 0 rfl (by kernel_rfl) (fun _ h => h) (q_move rfl rfl) (Wt.plain rfl) rfl rfl ?_
  refine D.take 1 rfl (by kernel_rfl) (fun _ h => h) (q_nil rfl rfl) (Wt.plain rfl) rfl rfl ?_
  refine D.take 2 rfl (by kernel_rfl) (fun _ h => h) (q_loadI ss275 0 rfl rfl rfl (by first | omega | (simp; done) | (simp [-List.getD_eq_getElem?_getD]; omega))) (Wt.plain rfl) rfl rfl ?_
  refine D.take 3 rfl (by kernel_rfl) (fun _ h => h) (q_move rfl rfl) (Wt.plain rfl) rfl rfl ?_
  refine D.take 4 rfl (by kernel_rfl) (fun _ h => h) (q_nil rfl rfl) (Wt.plain rfl) rfl rfl ?_
  refine D.take 5 rfl (by kernel_rfl) (fun _ h => h) (q_loadI ss275 0 rfl rfl rfl (by first | omega | (simp; done) | (simp [-List.getD_eq_getElem?_getD]; omega))) (Wt.plain rfl) rfl rfl ?_
  refine D.take 6 rfl (by kernel_rfl) (fun _ h => h) (q_move rfl rfl) (Wt.plain rfl) rfl rfl ?_
  refine D.take 7 rfl (by kernel_rfl) (fun _ h => h) (q_add rfl rfl rfl) (Wt.plain rfl) rfl rfl ?_
  refine D.take 8 rfl (by kernel_rfl) (fun _ h => h) (q_add rfl rfl rfl) (Wt.plain rfl) rfl rfl ?_
  refine D.one 9 (by kernel_rfl) ?_
  refine Up.q rfl (q_nil rfl rfl) (Wt.plain rfl) rfl rfl (fun h => absurd h (by decide)) ?_
  refine D.one 10 (by kernel_rfl) ?_
  refine Up.eff rfl (e_storeI ss275 0 rfl rfl rfl rfl (by first | omega | (simp; done) | (simp [-List.getD_eq_getElem?_getD]; omega)) rfl) (Wt.plain rfl) ?_
  rintro _ _ ⟨rfl, rfl⟩
  refine ⟨fun h => absurd h (by decide), ?_⟩
  change (_ : List Blk → Prop) [_]
  change (_ : List Blk → Prop) [⟨some k, ints .u32 (add2 v a b x), ty, (0, 0)⟩]
  refine D.done (by kernel_rfl) ?_
  refine Ex.next ?_
  refine W.keep [0, 1, 2, 3, 5] rfl ?_
  refine W.seq ?_
  refine W.draw 9 (by kernel_rfl) ?_
  refine D.take 0 rfl (by kernel_rfl) (fun _ h => h) (q_move rfl rfl) (Wt.plain rfl) rfl rfl ?_
  refine D.take 1 rfl (by kernel_rfl) (fun _ h => h) (q_move rfl rfl) (Wt.plain rfl) rfl rfl ?_
  refine D.take 2 rfl (by kernel_rfl) (fun _ h => h) (q_nil rfl rfl) (Wt.plain rfl) rfl rfl ?_
  refine D.take 3 rfl (by kernel_rfl) (fun _ h => h) (q_loadI ss275 0 rfl rfl rfl (by first | omega | (simp; done) | (simp [-List.getD_eq_getElem?_getD]; omega))) (Wt.plain rfl) rfl rfl ?_
  refine D.take 4 rfl (by kernel_rfl) (fun _ h => h) (q_move rfl rfl) (Wt.plain rfl) rfl rfl ?_
  refine D.take 5 rfl (by kernel_rfl) (fun _ h => h) (q_nil rfl rfl) (Wt.plain rfl) rfl rfl ?_
  refine D.take 6 rfl (by kernel_rfl) (fun _ h => h) (q_loadI ss275 0 rfl rfl rfl (by first | omega | (simp; done) | (simp [-List.getD_eq_getElem?_getD]; omega))) (Wt.plain rfl) rfl rfl ?_
  refine D.take 7 rfl (by kernel_rfl) (fun _ h => h) (q_xor rfl rfl rfl) (Wt.plain rfl) rfl rfl ?_
  refine D.one 8 (by kernel_rfl) ?_
  refine Up.eff rfl (e_call enters280 rfl rfl (fun w hm => rot_spec _ _ 16 (by decide +kernel) (by decide) (by decide) w) rfl rfl) (Wt.plain rfl) ?_
  rintro _ _ ⟨_, _, ⟨rfl, rfl⟩, rfl, rfl⟩
  refine ⟨fun _ => (fun _ h => h), ?_⟩
  change (_ : List Blk → Prop) [_]
  refine D.one 9 (by kernel_rfl) ?_
  refine Up.q rfl (q_nil rfl rfl) (Wt.plain rfl) rfl rfl (fun h => absurd h (by decide)) ?_
  refine D.one 10 (by kernel_rfl) ?_
  refine Up.eff rfl (e_storeI ss275 0 rfl rfl rfl rfl (by first | omega | (simp; done) | (simp [-List.getD_eq_getElem?_getD]; omega)) rfl) (Wt.plain rfl) ?_
  rintro _ _ ⟨rfl, rfl⟩
  refine ⟨fun h => absurd h (by decide), ?_⟩
  change (_ : List Blk → Prop) [_]
  change (_ : List Blk → Prop) [⟨some k, ints .u32 (xrot (add2 v a b x) d a 16), ty, (0, 0)⟩]
  refine D.done (by kernel_rfl) ?_
  refine Ex.next ?_
  refine W.keep [0, 1, 2, 3, 5] rfl ?_
  refine W.seq ?_
  refine W.draw 7 (by kernel_rfl) ?_
  refine D.take 0 rfl (by kernel_rfl) (fun _ h => h) (q_move rfl rfl) (Wt.plain rfl) rfl rfl ?_
  refine D.take 1 rfl (by kernel_rfl) (fun _ h => h) (q_nil rfl rfl) (Wt.plain rfl) rfl rfl ?_
  refine D.take 2 rfl (by kernel_rfl) (fun _ h => h) (q_loadI ss275 0 rfl rfl rfl (by first | omega | (simp; done) | (simp [-List.getD_eq_getElem?_getD]; omega))) (Wt.plain rfl) rfl rfl ?_
  refine D.take 3 rfl (by kernel_rfl) (fun _ h => h) (q_move rfl rfl) (Wt.plain rfl) rfl rfl ?_
  refine D.take 4 rfl (by kernel_rfl) (fun _ h => h) (q_nil rfl rfl) (Wt.plain rfl) rfl rfl ?_
  refine D.take 5 rfl (by kernel_rfl) (fun _ h => h) (q_loadI ss275 0 rfl rfl rfl (by first | omega | (simp; done) | (simp [-List.getD_eq_getElem?_getD]; omega))) (Wt.plain rfl) rfl rfl ?_
  refine D.take 6 rfl (by kernel_rfl) (fun _ h => h) (q_add rfl rfl rfl) (Wt.plain rfl) rfl rfl ?_
  refine D.one 7 (by kernel_rfl) ?_
  refine Up.q rfl (q_nil rfl rfl) (Wt.plain rfl) rfl rfl (fun h => absurd h (by decide)) ?_
  refine D.one 8 (by kernel_rfl) ?_
  refine Up.eff rfl (e_storeI ss275 0 rfl rfl rfl rfl (by first | omega | (simp; done) | (simp [-List.getD_eq_getElem?_getD]; omega)) rfl) (Wt.plain rfl) ?_
  rintro _ _ ⟨rfl, rfl⟩
  refine ⟨fun h => absurd h (by decide), ?_⟩
  change (_ : List Blk → Prop) [_]
  change (_ : List Blk → Prop) [⟨some k, ints .u32 (add1 (xrot (add2 v a b x) d a 16) c d), ty, (0, 0)⟩]
  refine D.done (by kernel_rfl) ?_
  refine Ex.next ?_
  refine W.keep [0, 1, 2, 3, 5] rfl ?_
  refine W.seq ?_
  refine W.draw 9 (by kernel_rfl) ?_
  refine D.take 0 rfl (by kernel_rfl) (fun _ h => h) (q_move rfl rfl) (Wt.plain rfl) rfl rfl ?_
  refine D.take 1 rfl (by kernel_rfl) (fun _ h => h) (q_move rfl rfl) (Wt.plain rfl) rfl rfl ?_
  refine D.take 2 rfl (by kernel_rfl) (fun _ h => h) (q_nil rfl rfl) (Wt.plain rfl) rfl rfl ?_
  refine D.take 3 rfl (by kernel_rfl) (fun _ h => h) (q_loadI ss275 0 rfl rfl rfl (by first | omega | (simp; done) | (simp [-List.getD_eq_getElem?_getD]; omega))) (Wt.plain rfl) rfl rfl ?_
  refine D.take 4 rfl (by kernel_rfl) (fun _ h => h) (q_move rfl rfl) (Wt.plain rfl) rfl rfl ?_
  refine D.take 5 rfl (by kernel_rfl) (fun _ h => h) (q_nil rfl rfl) (Wt.plain rfl) rfl rfl ?_
  refine D.take 6 rfl (by kernel_rfl) (fun _ h => h) (q_loadI ss275 0 rfl rfl rfl (by first | omega | (simp; done) | (simp [-List.getD_eq_getElem?_getD]; omega))) (Wt.plain rfl) rfl rfl ?_
  refine D.take 7 rfl (by kernel_rfl) (fun _ h => h) (q_xor rfl rfl rfl) (Wt.plain rfl) rfl rfl ?_
  refine D.one 8 (by kernel_rfl) ?_
  refine Up.eff rfl (e_call enters280 rfl rfl (fun w hm => rot_spec _ _ 20 (by decide +kernel) (by decide) (by decide) w) rfl rfl) (Wt.plain rfl) ?_
  rintro _ _ ⟨_, _, ⟨rfl, rfl⟩, rfl, rfl⟩
  refine ⟨fun _ => (fun _ h => h), ?_⟩
  change (_ : List Blk → Prop) [_]
  refine D.one 9 (by kernel_rfl) ?_
  refine Up.q rfl (q_nil rfl rfl) (Wt.plain rfl) rfl rfl (fun h => absurd h (by decide)) ?_
  refine D.one 10 (by kernel_rfl) ?_
  refine Up.eff rfl (e_storeI ss275 0 rfl rfl rfl rfl (by first | omega | (simp; done) | (simp [-List.getD_eq_getElem?_getD]; omega)) rfl) (Wt.plain rfl) ?_
  rintro _ _ ⟨rfl, rfl⟩
  refine ⟨fun h => absurd h (by decide), ?_⟩
  change (_ : List Blk → Prop) [_]
  change (_ : List Blk → Prop) [⟨some k, ints .u32 (xrot (add1 (xrot (add2 v a b x) d a 16) c d) b c 20), ty, (0, 0)⟩]
  refine D.done (by kernel_rfl) ?_
  refine Ex.next ?_
  refine W.keep [0, 1, 2, 3, 5] rfl ?_
  refine W.seq ?_
  refine W.draw 9 (by kernel_rfl) ?_
  refine D.take 0 rfl (by kernel_rfl) (fun _ h => h) (q_move rfl rfl) (Wt.plain rfl) rfl rfl ?_
  refine D.take 1 rfl (by kernel_rfl) (fun _ h => h) (q_nil rfl rfl) (Wt.plain rfl) rfl rfl ?_
  refine D.take 2 rfl (by kernel_rfl) (fun _ h => h) (q_loadI ss275 0 rfl rfl rfl (by first | omega | (simp; done) | (simp [-List.getD_eq_getElem?_getD]; omega))) (Wt.plain rfl) rfl rfl ?_
  refine D.take 3 rfl (by kernel_rfl) (fun _ h => h) (q_move rfl rfl) (Wt.plain rfl) rfl rfl ?_
  refine D.take 4 rfl (by kernel_rfl) (fun _ h => h) (q_nil rfl rfl) (Wt.plain rfl) rfl rfl ?_
  refine D.take 5 rfl (by kernel_rfl) (fun _ h => h) (q_loadI ss275 0 rfl rfl rfl (by first | omega | (simp; done) | (simp [-List.getD_eq_getElem?_getD]; omega))) (Wt.plain rfl) rfl rfl ?_
  refine D.take 6 rfl (by kernel_rfl) (fun _ h => h) (q_move rfl rfl) (Wt.plain rfl) rfl rfl ?_
  refine D.take 7 rfl (by kernel_rfl) (fun _ h => h) (q_add rfl rfl rfl) (Wt.plain rfl) rfl rfl ?_
  refine D.take 8 rfl (by kernel_rfl) (fun _ h => h) (q_add rfl rfl rfl) (Wt.plain rfl) rfl rfl ?_
  refine D.one 9 (by kernel_rfl) ?_
  refine Up.q rfl (q_nil rfl rfl) (Wt.plain rfl) rfl rfl (fun h => absurd h (by decide)) ?_
  refine D.one 10 (by kernel_rfl) ?_
  refine Up.eff rfl (e_storeI ss275 0 rfl rfl rfl rfl (by first | omega | (simp; done) | (simp [-List.getD_eq_getElem?_getD]; omega)) rfl) (Wt.plain rfl) ?_
  rintro _ _ ⟨rfl, rfl⟩
  refine ⟨fun h => absurd h (by decide), ?_⟩
  change (_ : List Blk → Prop) [_]
  change (_ : List Blk → Prop) [⟨some k, ints .u32 (add2 (xrot (add1 (xrot (add2 v a b x) d a 16) c d) b c 20) a b y), ty, (0, 0)⟩]
  refine D.done (by kernel_rfl) ?_
  refine Ex.next ?_
  refine W.keep [0, 1, 2, 3] rfl ?_
  refine W.seq ?_
  refine W.draw 9 (by kernel_rfl) ?_
  refine D.take 0 rfl (by kernel_rfl) (fun _ h => h) (q_move rfl rfl) (Wt.plain rfl) rfl rfl ?_
  refine D.take 1 rfl (by kernel_rfl) (fun _ h => h) (q_move rfl rfl) (Wt.plain rfl) rfl rfl ?_
  refine D.take 2 rfl (by kernel_rfl) (fun _ h => h) (q_nil rfl rfl) (Wt.plain rfl) rfl rfl ?_
  refine D.take 3 rfl (by kernel_rfl) (fun _ h => h) (q_loadI ss275 0 rfl rfl rfl (by first | omega | (simp; done) | (simp [-List.getD_eq_getElem?_getD]; omega))) (Wt.plain rfl) rfl rfl ?_
  refine D.take 4 rfl (by kernel_rfl) (fun _ h => h) (q_move rfl rfl) (Wt.plain rfl) rfl rfl ?_
  refine D.take 5 rfl (by kernel_rfl) (fun _ h => h) (q_nil rfl rfl) (Wt.plain rfl) rfl rfl ?_
  refine D.take 6 rfl (by kernel_rfl) (fun _ h => h) (q_loadI ss275 0 rfl rfl rfl (by first | omega | (simp; done) | (simp [-List.getD_eq_getElem?_getD]; omega))) (Wt.plain rfl) rfl rfl ?_
  refine D.take 7 rfl (by kernel_rfl) (fun _ h => h) (q_xor rfl rfl rfl) (Wt.plain rfl) rfl rfl ?_
  refine D.one 8 (by kernel_rfl) ?_
  refine Up.eff rfl (e_call enters280 rfl rfl (fun w hm => rot_spec _ _ 24 (by decide +kernel) (by decide) (by decide) w) rfl rfl) (Wt.plain rfl) ?_
  rintro _ _ ⟨_, _, ⟨rfl, rfl⟩, rfl, rfl⟩
  refine ⟨fun _ => (fun _ h => h), ?_⟩
  change (_ : List Blk → Prop) [_]
  refine D.one 9 (by kernel_rfl) ?_
  refine Up.q rfl (q_nil rfl rfl) (Wt.plain rfl) rfl rfl (fun h => absurd h (by decide)) ?_
  refine D.one 10 (by kernel_rfl) ?_
  refine Up.eff rfl (e_storeI ss275 0 rfl rfl rfl rfl (by first | omega | (simp; done) | (simp [-List.getD_eq_getElem?_getD]; omega)) rfl) (Wt.plain rfl) ?_
  rintro _ _ ⟨rfl, rfl⟩
  refine ⟨fun h => absurd h (by decide), ?_⟩
  change (_ : List Blk → Prop) [_]
  change (_ : List Blk → Prop) [⟨some k, ints .u32 (xrot (add2 (xrot (add1 (xrot (add2 v a b x) d a 16) c d) b c 20) a b y) d a 24), ty, (0, 0)⟩]
  refine D.done (by kernel_rfl) ?_
  refine Ex.next ?_
  refine W.keep [1, 2, 3] rfl ?_
  refine W.seq ?_
  refine W.draw 7 (by kernel_rfl) ?_
  refine D.take 0 rfl (by kernel_rfl) (fun _ h => h) (q_move rfl rfl) (Wt.plain rfl) rfl rfl ?_
  refine D.take 1 rfl (by kernel_rfl) (fun _ h => h) (q_nil rfl rfl) (Wt.plain rfl) rfl rfl ?_
  refine D.take 2 rfl (by kernel_rfl) (fun _ h => h) (q_loadI ss275 0 rfl rfl rfl (by first | omega | (simp; done) | (simp [-List.getD_eq_getElem?_getD]; omega))) (Wt.plain rfl) rfl rfl ?_
  refine D.take 3 rfl (by kernel_rfl) (fun _ h => h) (q_move rfl rfl) (Wt.plain rfl) rfl rfl ?_
  refine D.take 4 rfl (by kernel_rfl) (fun _ h => h) (q_nil rfl rfl) (Wt.plain rfl) rfl rfl ?_
  refine D.take 5 rfl (by kernel_rfl) (fun _ h => h) (q_loadI ss275 0 rfl rfl rfl (by first | omega | (simp; done) | (simp [-List.getD_eq_getElem?_getD]; omega))) (Wt.plain rfl) rfl rfl ?_
  refine D.take 6 rfl (by kernel_rfl) (fun _ h => h) (q_add rfl rfl rfl) (Wt.plain rfl) rfl rfl ?_
  refine D.one 7 (by kernel_rfl) ?_
  refine Up.q rfl (q_nil rfl rfl) (Wt.plain rfl) rfl rfl (fun h => absurd h (by decide)) ?_
  refine D.one 8 (by kernel_rfl) ?_
  refine Up.eff rfl (e_storeI ss275 0 rfl rfl rfl rfl (by first | omega | (simp; done) | (simp [-List.getD_eq_getElem?_getD]; omega)) rfl) (Wt.plain rfl) ?_
  rintro _ _ ⟨rfl, rfl⟩
  refine ⟨fun h => absurd h (by decide), ?_⟩
  change (_ : List Blk → Prop) [_]
  change (_ : List Blk → Prop) [⟨some k, ints .u32 (add1 (xrot (add2 (xrot (add1 (xrot (add2 v a b x) d a 16) c d) b c 20) a b y) d a 24) c d), ty, (0, 0)⟩]
  refine D.done (by kernel_rfl) ?_
  refine Ex.next ?_
  refine W.keep [1, 2] rfl ?_
  refine W.draw 9 (by kernel_rfl) ?_
  refine D.take 0 rfl (by kernel_rfl) (fun _ h => h) (q_move rfl rfl) (Wt.plain rfl) rfl rfl ?_
  refine D.take 1 rfl (by kernel_rfl) (fun _ h => h) (q_move rfl rfl) (Wt.plain rfl) rfl rfl ?_
  refine D.take 2 rfl (by kernel_rfl) (fun _ h => h) (q_nil rfl rfl) (Wt.plain rfl) rfl rfl ?_
  refine D.take 3 rfl (by kernel_rfl) (fun _ h => h) (q_loadI ss275 0 rfl rfl rfl (by first | omega | (simp; done) | (simp [-List.getD_eq_getElem?_getD]; omega))) (Wt.plain rfl) rfl rfl ?_
  refine D.take 4 rfl (by kernel_rfl) (fun _ h => h) (q_move rfl rfl) (Wt.plain rfl) rfl rfl ?_
  refine D.take 5 rfl (by kernel_rfl) (fun _ h => h) (q_nil rfl rfl) (Wt.plain rfl) rfl rfl ?_
  refine D.take 6 rfl (by kernel_rfl) (fun _ h => h) (q_loadI ss275 0 rfl rfl rfl (by first | omega | (simp; done) | (simp [-List.getD_eq_getElem?_getD]; omega))) (Wt.plain rfl) rfl rfl ?_
  refine D.take 7 rfl (by kernel_rfl) (fun _ h => h) (q_xor rfl rfl rfl) (Wt.plain rfl) rfl rfl ?_
  refine D.one 8 (by kernel_rfl) ?_
  refine Up.eff rfl (e_call enters280 rfl rfl (fun w hm => rot_spec _ _ 25 (by decide +kernel) (by decide) (by decide) w) rfl rfl) (Wt.plain rfl) ?_
  rintro _ _ ⟨_, _, ⟨rfl, rfl⟩, rfl, rfl⟩
  refine ⟨fun _ => (fun _ h => h), ?_⟩
  change (_ : List Blk → Prop) [_]
  refine D.one 9 (by kernel_rfl) ?_
  refine Up.q rfl (q_nil rfl rfl) (Wt.plain rfl) rfl rfl (fun h => absurd h (by decide)) ?_
  refine D.one 10 (by kernel_rfl) ?_
  refine Up.eff rfl (e_storeI ss275 0 rfl rfl rfl rfl (by first | omega | (simp; done) | (simp [-List.getD_eq_getElem?_getD]; omega)) rfl) (Wt.plain rfl) ?_
  rintro _ _ ⟨rfl, rfl⟩
  refine ⟨fun h => absurd h (by decide), ?_⟩
  change (_ : List Blk → Prop) [_]
  change (_ : List Blk → Prop) [⟨some k, ints .u32 (xrot (add1 (xrot (add2 (xrot (add1 (xrot (add2 v a b x) d a 16) c d) b c 20) a b y) d a 24) c d) b c 25), ty, (0, 0)⟩]
  refine D.done (by kernel_rfl) ?_
  refine Ex.end0 [true] rfl ?_
  exact ⟨_, _, ⟨rfl, rfl, rfl⟩, rfl⟩
end Go.Proofs.YtpklnjegimchoaaGreatDoor
namespace Go.Proofs.YtpklnjegimchoaaGreatDoor
open Go Go.X
set_option maxRecDepth 100000 in
set_option maxHeartbeats 1000000 in
theorem press_spec (h bs : List Int) (t : Int) (last : Bool) (A : Option Addr) (n c : Nat) (hl8 : h.length = 8) (hb : 64 ≤ bs.length) (hn : 64 ≤ n) (w0 : World) (hR : Reads w0 A (ints .u8 bs)) (hg0 : Reads w0 (some ⟨3, 0, none⟩) (ints .u32 startW)) (hg1 : Reads w0 (some ⟨8, 0, none⟩) (ints .u8 sgm)) (hg2 : Reads w0 (some ⟨9, 0, none⟩) (ints .u8 tbl)) : Does Tryz.prog 258 #[.agg (ints .u32 h).toArray, .slice A n c, .int .u64 t, .bool last] w0 [] (fun v G => v = .agg (ints .u32 (pressS h bs t last)).toArray ∧ G = []) := by
  refine spec_of 145 Tryz.func258 rfl rfl rfl ?_
  refine W.sr ?_
  refine T.eff (e_box rfl rfl rfl rfl) (Wt.plain rfl) ?_
  rintro _ _ ⟨k1, rfl, rfl⟩
  change (_ : List Blk → Prop) [_]
  refine T.eff (e_alloc ze333 rfl rfl rfl) (Wt.plain rfl) ?_
  rintro _ _ ⟨k2, rfl, rfl⟩
  change (_ : List Blk → Prop) [_, _]
  refine T.fin [1, 2, 3, 4, 8] rfl ?_
  refine W.sr ?_
  refine T.eff (e_alloc ze337 rfl rfl rfl) (Wt.plain rfl) ?_
  rintro _ _ ⟨k3, rfl, rfl⟩
  change (_ : List Blk → Prop) [_, _, _]
  refine T.eff (e_alloc ze337 rfl rfl rfl) (Wt.plain rfl) ?_
  rintro _ _ ⟨k4, rfl, rfl⟩
  change (_ : List Blk → Prop) [_, _, _, _]
  refine T.fin [1, 2, 3, 4, 8, 9, 10] rfl ?_
  refine W.seq ?_
  refine W.go ttok [] [1, 2, 3, 4, 8, 9, 10, 18] rfl trivial rfl rfl ?_
  refine W.block ?_
  refine W.loop (α := Nat) (fun i => [(1, .slice A n c), (2, .int .u64 t), (3, .bool last), (4, .pointer (some ⟨k1, 0, none⟩)), (8, .pointer (some ⟨k2, 0, none⟩)), (9, .pointer (some ⟨k3, 0, none⟩)), (10, .pointer (some ⟨k4, 0, none⟩)), (18, .int .i64 ((i : Nat) : Int))]) (fun i => [⟨some k1, ints .u32 h, 333, (0, 0)⟩, ⟨some k2, ints .u32 (List.replicate 8 0), 333, (0, 0)⟩, ⟨some k3, ints .u32 (fillAt (fun q => q) (fun q => wordAt bs (4 * q)) i (List.replicate 16 0)), 337, (0, 0)⟩, ⟨some k4, ints .u32 (List.replicate 16 0), 337, (0, 0)⟩]) (fun i => i ≤ 16) (fun i => 16 - i) [true, true, true, true] 0 (by omega) ⟨rfl, rfl, rfl, rfl, rfl, rfl, rfl, rfl, trivial⟩ rfl ?_
  rintro i hi
  refine W.go ttok [] [1, 2, 3, 4, 8, 9, 10, 18, 19] rfl trivial rfl rfl ?_
  refine W.seq ?_
  refine W.cond _ rfl (fun hb5 => ?_) (fun hb5 => ?_)
  · replace hb5 := of_decide_eq_true hb5
    refine W.skip ?_
    refine Ex.next ?_
    refine W.keep [1, 2, 3, 4, 8, 9, 10, 18] rfl ?_
    refine W.seq ?_
    refine W.block ?_
    refine W.go ttok [] [1, 2, 3, 4, 8, 9, 10, 11, 18] rfl trivial rfl rfl ?_
    refine W.draw 34 (by kernel_rfl) ?_
    refine D.take 0 rfl (by kernel_rfl) (fun _ h => h) (q_move rfl rfl) (Wt.plain rfl) rfl rfl ?_
    refine D.take 1 rfl (by kernel_rfl) (fun _ h => h) (q_move rfl rfl) (Wt.plain rfl) rfl rfl ?_
    refine D.take 2 rfl (by kernel_rfl) (fun _ h => h) (q_move rfl rfl) (Wt.plain rfl) rfl rfl ?_
    refine D.take 3 rfl (by kernel_rfl) (fun _ h => h) (q_muli rfl rfl rfl (by omega) (by omega)) (Wt.plain rfl) rfl rfl ?_
    refine D.take 4 rfl (by kernel_rfl) (fun _ h => h) (q_ixE1 sc22 (4 * i) (R_ext hR.ext) rfl rfl rfl (by omega) (by omega) (by first | omega | (simp; done) | (simp [-List.getD_eq_getElem?_getD]; omega))) (Wt.plain rfl) rfl rfl ?_
    refine D.take 5 rfl (by kernel_rfl) (fun _ h => h) (q_loadE ss5 (R_ext hR.ext) rfl rfl (ints_get (by first | omega | (simp; done) | (simp [-List.getD_eq_getElem?_getD]; omega)))) (Wt.plain rfl) rfl rfl ?_
    refine D.take 6 rfl (by kernel_rfl) (fun _ h => h) (q_conv un5 un275 rfl rfl) (Wt.plain rfl) rfl rfl ?_
    refine D.take 7 rfl (by kernel_rfl) (fun _ h => h) (q_move rfl rfl) (Wt.plain rfl) rfl rfl ?_
    refine D.take 8 rfl (by kernel_rfl) (fun _ h => h) (q_move rfl rfl) (Wt.plain rfl) rfl rfl ?_
    refine D.take 9 rfl (by kernel_rfl) (fun _ h => h) (q_muli rfl rfl rfl (by omega) (by omega)) (Wt.plain rfl) rfl rfl ?_
    refine D.take 10 rfl (by kernel_rfl) (fun _ h => h) (q_addi rfl rfl rfl (by omega) (by omega)) (Wt.plain rfl) rfl rfl ?_
    refine D.take 11 rfl (by kernel_rfl) (fun _ h => h) (q_ixE1 sc22 ((4 * i) + 1) (R_ext hR.ext) rfl rfl rfl (by omega) (by omega) (by first | omega | (simp; done) | (simp [-List.getD_eq_getElem?_getD]; omega))) (Wt.plain rfl) rfl rfl ?_
    refine D.take 12 rfl (by kernel_rfl) (fun _ h => h) (q_loadE ss5 (R_ext hR.ext) rfl rfl (ints_get (by first | omega | (simp; done) | (simp [-List.getD_eq_getElem?_getD]; omega)))) (Wt.plain rfl) rfl rfl ?_
    refine D.take 13 rfl (by kernel_rfl) (fun _ h => h) (q_conv un5 un275 rfl rfl) (Wt.plain rfl) rfl rfl ?_
    refine D.take 14 rfl (by kernel_rfl) (fun _ h => h) (q_shl rfl rfl rfl (by decide)) (Wt.plain rfl) rfl rfl ?_
    refine D.take 15 rfl (by kernel_rfl) (fun _ h => h) (q_or rfl rfl rfl) (Wt.plain rfl) rfl rfl ?_
    refine D.take 16 rfl (by kernel_rfl) (fun _ h => h) (q_move rfl rfl) (Wt.plain rfl) rfl rfl ?_
    refine D.take 17 rfl (by kernel_rfl) (fun _ h => h) (q_move rfl rfl) (Wt.plain rfl) rfl rfl ?_
    refine D.take 18 rfl (by kernel_rfl) (fun _ h => h) (q_muli rfl rfl rfl (by omega) (by omega)) (Wt.plain rfl) rfl rfl ?_
    refine D.take 19 rfl (by kernel_rfl) (fun _ h => h) (q_addi rfl rfl rfl (by omega) (by omega)) (Wt.plain rfl) rfl rfl ?_
    refine D.take 20 rfl (by kernel_rfl) (fun _ h => h) (q_ixE1 sc22 ((4 * i) + 2) (R_ext hR.ext) rfl rfl rfl (by omega) (by omega) (by first | omega | (simp; done) | (simp [-List.getD_eq_getElem?_getD]; omega))) (Wt.plain rfl) rfl rfl ?_
    refine D.take 21 rfl (by kernel_rfl) (fun _ h => h) (q_loadE ss5 (R_ext hR.ext) rfl rfl (ints_get (by first | omega | (simp; done) | (simp [-List.getD_eq_getElem?_getD]; omega)))) (Wt.plain rfl) rfl rfl ?_
    refine D.take 22 rfl (by kernel_rfl) (fun _ h => h) (q_conv un5 un275 rfl rfl) (Wt.plain rfl) rfl rfl ?_
    refine D.take 23 rfl (by kernel_rfl) (fun _ h => h) (q_shl rfl rfl rfl (by decide)) (Wt.plain rfl) rfl rfl ?_
    refine D.take 24 rfl (by kernel_rfl) (fun _ h => h) (q_or rfl rfl rfl) (Wt.plain rfl) rfl rfl ?_
    refine D.take 25 rfl (by kernel_rfl) (fun _ h => h) (q_move rfl rfl) (Wt.plain rfl) rfl rfl ?_
    refine D.take 26 rfl (by kernel_rfl) (fun _ h => h) (q_move rfl rfl) (Wt.plain rfl) rfl rfl ?_
    refine D.take 27 rfl (by kernel_rfl) (fun _ h => h) (q_muli rfl rfl rfl (by omega) (by omega)) (Wt.plain rfl) rfl rfl ?_
    refine D.take 28 rfl (by kernel_rfl) (fun _ h => h) (q_addi rfl rfl rfl (by omega) (by omega)) (Wt.plain rfl) rfl rfl ?_
    refine D.take 29 rfl (by kernel_rfl) (fun _ h => h) (q_ixE1 sc22 ((4 * i) + 3) (R_ext hR.ext) rfl rfl rfl (by omega) (by omega) (by first | omega | (simp; done) | (simp [-List.getD_eq_getElem?_getD]; omega))) (Wt.plain rfl) rfl rfl ?_
    refine D.take 30 rfl (by kernel_rfl) (fun _ h => h) (q_loadE ss5 (R_ext hR.ext) rfl rfl (ints_get (by first | omega | (simp; done) | (simp [-List.getD_eq_getElem?_getD]; omega)))) (Wt.plain rfl) rfl rfl ?_
    refine D.take 31 rfl (by kernel_rfl) (fun _ h => h) (q_conv un5 un275 rfl rfl) (Wt.plain rfl) rfl rfl ?_
    refine D.take 32 rfl (by kernel_rfl) (fun _ h => h) (q_shl rfl rfl rfl (by decide)) (Wt.plain rfl) rfl rfl ?_
    refine D.take 33 rfl (by kernel_rfl) (fun _ h => h) (q_or rfl rfl rfl) (Wt.plain rfl) rfl rfl ?_
    refine D.one 34 (by kernel_rfl) ?_
    refine Up.q rfl (q_ixA0 ar337 i rfl rfl rfl (by omega) (by omega)) (Wt.plain rfl) rfl rfl (fun h => absurd h (by decide)) ?_
    refine D.one 35 (by kernel_rfl) ?_
    refine Up.eff rfl (e_storeI ss275 2 rfl rfl rfl rfl (by first | omega | (simp; done) | (simp [-List.getD_eq_getElem?_getD]; omega)) rfl) (Wt.plain rfl) ?_
    rintro _ _ ⟨rfl, rfl⟩
    refine ⟨fun h => absurd h (by decide), ?_⟩
    change (_ : List Blk → Prop) [_, _, _, _]
    refine D.done (by kernel_rfl) ?_
    refine Ex.in_normal ?_
    refine Ex.next ?_
    refine W.keep [1, 2, 3, 4, 8, 9, 10, 18] rfl ?_
    refine W.region ?_
    refine T.run ttok 2 [] rfl ⟨⟨(by omega), (by omega)⟩, trivial⟩ rfl ?_
    refine T.nil ?_
    exact Ex.again [true, true, true, true] (i + 1) (by omega) (by omega) ⟨rfl, rfl, rfl, rfl, rfl, rfl, rfl, rfl, trivial⟩ rfl
  · replace hb5 := of_decide_eq_false hb5
    obtain rfl : i = 16 := by omega
    conv => rhs; rw [show fillAt (fun q => q) (fun q => wordAt bs (4 * q)) 16 (List.replicate 16 0) = msg bs from fillAt_all _ 16]
    refine W.exit ?_
    refine Ex.then_exit ?_
    refine Ex.then_exit ?_
    refine Ex.in_here ?_
    refine Ex.next ?_
    refine W.keep [2, 3, 4, 8, 9, 10] rfl ?_
    refine W.seq ?_
    refine W.go ttok [] [2, 3, 4, 8, 9, 10, 57] rfl trivial rfl rfl ?_
    refine W.block ?_
    refine W.loop (α := Nat) (fun i => [(2, .int .u64 t), (3, .bool last), (4, .pointer (some ⟨k1, 0, none⟩)), (8, .pointer (some ⟨k2, 0, none⟩)), (9, .pointer (some ⟨k3, 0, none⟩)), (10, .pointer (some ⟨k4, 0, none⟩)), (57, .int .i64 ((i : Nat) : Int))]) (fun i => [⟨some k1, ints .u32 h, 333, (0, 0)⟩, ⟨some k2, ints .u32 (List.replicate 8 0), 333, (0, 0)⟩, ⟨some k3, ints .u32 (msg bs), 337, (0, 0)⟩, ⟨some k4, ints .u32 (vfill h i), 337, (0, 0)⟩]) (fun i => i ≤ 8) (fun i => 8 - i) [true, true, true, true] 0 (by omega) ⟨rfl, rfl, rfl, rfl, rfl, rfl, rfl, trivial⟩ rfl ?_
    rintro i hi
    refine W.go ttok [] [2, 3, 4, 8, 9, 10, 57, 58] rfl trivial rfl rfl ?_
    refine W.seq ?_
    refine W.cond _ rfl (fun hb6 => ?_) (fun hb6 => ?_)
    · replace hb6 := of_decide_eq_true hb6
      refine W.skip ?_
      refine Ex.next ?_
      refine W.keep [2, 3, 4, 8, 9, 10, 57] rfl ?_
      refine W.seq ?_
      refine W.block ?_
      refine W.go ttok [] [2, 3, 4, 8, 9, 10, 12, 57] rfl trivial rfl rfl ?_
      refine W.drawP 11 [true, true, true, false] (by kernel_rfl) ?_
      refine D.take 0 rfl (by kernel_rfl) (S_sub (((((List.Sublist.slnil).cons _).cons_cons _).cons_cons _).cons_cons _)) (q_move rfl rfl) (Wt.plain rfl) rfl rfl ?_
      refine D.take 1 rfl (by kernel_rfl) (S_sub (((((List.Sublist.slnil).cons _).cons_cons _).cons_cons _).cons_cons _)) (q_move rfl rfl) (Wt.plain rfl) rfl rfl ?_
      refine D.take 2 rfl (by kernel_rfl) (S_sub (((((List.Sublist.slnil).cons _).cons_cons _).cons_cons _).cons_cons _)) (q_addi rfl rfl rfl (by omega) (by omega)) (Wt.plain rfl) rfl rfl ?_
      refine D.take 3 rfl (by kernel_rfl) (S_sub (((((List.Sublist.slnil).cons _).cons_cons _).cons_cons _).cons_cons _)) (q_move rfl rfl) (Wt.plain rfl) rfl rfl ?_
      refine D.take 4 rfl (by kernel_rfl) (S_sub (((((List.Sublist.slnil).cons _).cons_cons _).cons_cons _).cons_cons _)) (q_ixA0 ar333 i rfl rfl rfl (by omega) (by omega)) (Wt.plain rfl) rfl rfl ?_
      refine D.take 5 rfl (by kernel_rfl) (S_sub (((((List.Sublist.slnil).cons _).cons_cons _).cons_cons _).cons_cons _)) (q_loadI ss275 0 rfl rfl rfl (by first | omega | (simp; done) | (simp [-List.getD_eq_getElem?_getD]; omega))) (Wt.plain rfl) rfl rfl ?_
      refine D.take 6 rfl (by kernel_rfl) (S_sub (((((List.Sublist.slnil).cons _).cons_cons _).cons_cons _).cons_cons _)) (q_move rfl rfl) (Wt.plain rfl) rfl rfl ?_
      refine D.take 7 rfl (by kernel_rfl) (S_sub (((((List.Sublist.slnil).cons _).cons_cons _).cons_cons _).cons_cons _)) (q_ixA0 ar333 i rfl rfl rfl (by omega) (by omega)) (Wt.plain rfl) rfl rfl ?_
      refine D.take 8 rfl (by kernel_rfl) (S_sub (((((List.Sublist.slnil).cons _).cons_cons _).cons_cons _).cons_cons _)) (q_loadG ss275 (R_ext hg0.ext) rfl rfl (ints_get (by first | omega | (simp; done) | (simp [-List.getD_eq_getElem?_getD]; omega)))) (Wt.plain rfl) rfl rfl ?_
      refine D.take 9 rfl (by kernel_rfl) (S_sub (((((List.Sublist.slnil).cons _).cons_cons _).cons_cons _).cons_cons _)) (q_ixA0 ar337 i rfl rfl rfl (by omega) (by omega)) (Wt.plain rfl) rfl rfl ?_
      refine D.one 10 (by kernel_rfl) ?_
      refine Up.eff rfl (e_storeI ss275 3 rfl rfl rfl rfl (by first | omega | (simp; done) | (simp [-List.getD_eq_getElem?_getD]; omega)) rfl) (Wt.plain rfl) ?_
      rintro _ _ ⟨rfl, rfl⟩
      refine ⟨fun _ => (S_sub (((((List.Sublist.slnil).cons _).cons_cons _).cons_cons _).cons_cons _)), ?_⟩
      change (_ : List Blk → Prop) [_, _, _, _]
      refine D.one 11 (by kernel_rfl) ?_
      refine Up.q rfl (q_ixA0 ar337 (8 + i) rfl rfl rfl (by omega) (by omega)) (Wt.plain rfl) rfl rfl (fun h => absurd h (by decide)) ?_
      refine D.one 12 (by kernel_rfl) ?_
      refine Up.eff rfl (e_storeI ss275 3 rfl rfl rfl rfl (by first | omega | (simp; done) | (simp [-List.getD_eq_getElem?_getD]; omega)) rfl) (Wt.plain rfl) ?_
      rintro _ _ ⟨rfl, rfl⟩
      refine ⟨fun h => absurd h (by decide), ?_⟩
      change (_ : List Blk → Prop) [_, _, _, _]
      refine D.done (by kernel_rfl) ?_
      refine Ex.in_normal ?_
      refine Ex.next ?_
      refine W.keep [2, 3, 4, 8, 9, 10, 57] rfl ?_
      refine W.region ?_
      refine T.run ttok 2 [] rfl ⟨⟨(by omega), (by omega)⟩, trivial⟩ rfl ?_
      refine T.nil ?_
      exact Ex.again [true, true, true, true] (i + 1) (by omega) (by omega) ⟨rfl, rfl, rfl, rfl, rfl, rfl, rfl, trivial⟩ rfl
    · replace hb6 := of_decide_eq_false hb6
      obtain rfl : i = 8 := by omega
      refine W.exit ?_
      refine Ex.then_exit ?_
      refine Ex.then_exit ?_
      refine Ex.in_here ?_
      refine Ex.next ?_
      refine W.keep [2, 3, 4, 8, 9, 10] rfl ?_
      refine W.sr ?_
      refine T.q (q_ixA0 ar337 12 rfl rfl rfl (rfl) (by decide)) (Wt.plain rfl) rfl rfl ?_
      refine T.q (q_loadI ss275 3 rfl rfl rfl (by first | omega | (simp; done) | (simp [-List.getD_eq_getElem?_getD]; omega))) (Wt.plain rfl) rfl rfl ?_
      refine T.q (q_move rfl rfl) (Wt.plain rfl) rfl rfl ?_
      refine T.q (q_conv un240 un275 rfl rfl) (Wt.plain rfl) rfl rfl ?_
      refine T.q (q_xor rfl rfl rfl) (Wt.plain rfl) rfl rfl ?_
      refine T.q (q_ixA0 ar337 12 rfl rfl rfl (rfl) (by decide)) (Wt.plain rfl) rfl rfl ?_
      refine T.eff (e_storeI ss275 3 rfl rfl rfl rfl (by first | omega | (simp; done) | (simp [-List.getD_eq_getElem?_getD]; omega)) rfl) (Wt.plain rfl) ?_
      rintro _ _ ⟨rfl, rfl⟩
      change (_ : List Blk → Prop) [_, _, _, _]
      refine T.fin [2, 3, 4, 8, 9, 10] rfl ?_
      refine W.sr ?_
      refine T.q (q_ixA0 ar337 13 rfl rfl rfl (rfl) (by decide)) (Wt.plain rfl) rfl rfl ?_
      refine T.q (q_loadI ss275 3 rfl rfl rfl (by first | omega | (simp; done) | (simp [-List.getD_eq_getElem?_getD]; omega))) (Wt.plain rfl) rfl rfl ?_
      refine T.q (q_move rfl rfl) (Wt.plain rfl) rfl rfl ?_
      refine T.q (q_shr rfl rfl rfl (by decide)) (Wt.plain rfl) rfl rfl ?_
      refine T.q (q_conv un240 un275 rfl rfl) (Wt.plain rfl) rfl rfl ?_
      refine T.q (q_xor rfl rfl rfl) (Wt.plain rfl) rfl rfl ?_
      refine T.q (q_ixA0 ar337 13 rfl rfl rfl (rfl) (by decide)) (Wt.plain rfl) rfl rfl ?_
      refine T.eff (e_storeI ss275 3 rfl rfl rfl rfl (by first | omega | (simp; done) | (simp [-List.getD_eq_getElem?_getD]; omega)) rfl) (Wt.plain rfl) ?_
      rintro _ _ ⟨rfl, rfl⟩
      change (_ : List Blk → Prop) [_, _, _, _]
      change (_ : List Blk → Prop) [_, _, _, ⟨some k4, ints .u32 (vtold (vfill h 8) t), 337, (0, 0)⟩]
      refine T.fin [3, 4, 8, 9, 10] rfl ?_
      refine W.meet (α := List Int) (fun vv => [(4, .pointer (some ⟨k1, 0, none⟩)), (8, .pointer (some ⟨k2, 0, none⟩)), (9, .pointer (some ⟨k3, 0, none⟩)), (10, .pointer (some ⟨k4, 0, none⟩))]) (fun vv => [⟨some k1, ints .u32 h, 333, (0, 0)⟩, ⟨some k2, ints .u32 (List.replicate 8 0), 333, (0, 0)⟩, ⟨some k3, ints .u32 (msg bs), 337, (0, 0)⟩, ⟨some k4, ints .u32 vv, 337, (0, 0)⟩]) (fun vv => vv = vstart h t last) ?_ ?_
      ·
        refine W.go ttok [] [4, 8, 9, 10, 85] rfl trivial rfl rfl ?_
        refine W.cond _ rfl (fun hb7 => ?_) (fun hb7 => ?_)
        · skip
          refine W.region ?_
          refine T.q (q_ixA0 ar337 14 rfl rfl rfl (rfl) (by decide)) (Wt.plain rfl) rfl rfl ?_
          refine T.q (q_loadI ss275 3 rfl rfl rfl (by first | omega | (simp; done) | (simp [-List.getD_eq_getElem?_getD]; omega))) (Wt.plain rfl) rfl rfl ?_
          refine T.q (q_cpl rfl rfl) (Wt.plain rfl) rfl rfl ?_
          refine T.q (q_ixA0 ar337 14 rfl rfl rfl (rfl) (by decide)) (Wt.plain rfl) rfl rfl ?_
          refine T.eff (e_storeI ss275 3 rfl rfl rfl rfl (by first | omega | (simp; done) | (simp [-List.getD_eq_getElem?_getD]; omega)) rfl) (Wt.plain rfl) ?_
          rintro _ _ ⟨rfl, rfl⟩
          change (_ : List Blk → Prop) [_, _, _, _]
          change (_ : List Blk → Prop) [_, _, _, ⟨some k4, ints .u32 (vlast (vtold (vfill h 8) t)), 337, (0, 0)⟩]
          refine T.nil ?_
          exact Ex.met [true, true, true, true] (vlast (vtold (vfill h 8) t)) (by rw [vstart, hb7, vfill_all h hl8]; rfl) ⟨rfl, rfl, rfl, rfl, trivial⟩ rfl
        · skip
          refine W.skip ?_
          exact Ex.met [true, true, true, true] (vtold (vfill h 8) t) (by rw [vstart, hb7, vfill_all h hl8]; rfl) ⟨rfl, rfl, rfl, rfl, trivial⟩ rfl
      ·
        rintro vv hvv
        have hvl : vv.length = 16 := by rw [hvv]; exact vstart_length h t last hl8
        refine W.seq ?_
        refine W.sr ?_
        refine T.q (q_loadW (wide_ints wd357 (by first | omega | (simp; done) | (simp [-List.getD_eq_getElem?_getD]; omega) | (simp at *; omega) | rfl)) (R_ext hg1.ext) rfl rfl) (Wt.plain rfl) rfl rfl ?_
        refine T.runF ttok [] [4, 8, 9, 10, 90, 91] rfl trivial rfl rfl ?_
        refine W.block ?_
        refine W.loop (α := Nat) (fun r => [(4, .pointer (some ⟨k1, 0, none⟩)), (8, .pointer (some ⟨k2, 0, none⟩)), (9, .pointer (some ⟨k3, 0, none⟩)), (10, .pointer (some ⟨k4, 0, none⟩)), (90, .agg (ints .u8 sgm).toArray), (91, .int .i64 ((r : Nat) : Int))]) (fun r => [⟨some k1, ints .u32 h, 333, (0, 0)⟩, ⟨some k2, ints .u32 (List.replicate 8 0), 333, (0, 0)⟩, ⟨some k3, ints .u32 (msg bs), 337, (0, 0)⟩, ⟨some k4, ints .u32 (brn (msg bs) vv r), 337, (0, 0)⟩]) (fun r => r ≤ 10) (fun r => 10 - r) [true, true, true, true] 0 (by omega) ⟨rfl, rfl, rfl, rfl, rfl, rfl, trivial⟩ rfl ?_
        rintro r hr
        refine W.go ttok [] [4, 8, 9, 10, 90, 91, 92] rfl trivial rfl rfl ?_
        refine W.seq ?_
        refine W.cond _ rfl (fun hb8 => ?_) (fun hb8 => ?_)
        · replace hb8 := of_decide_eq_true hb8
          have hr10 : r < 10 := by omega
          have hsg := sg_length hr10
          refine W.skip ?_
          refine Ex.next ?_
          refine W.keep [4, 8, 9, 10, 90, 91] rfl ?_
          refine W.seq ?_
          refine W.block ?_
          refine W.sr ?_
          refine T.q (q_ixVW (p := ints .u8 (sg r)) ar357 wd271 r rfl rfl rfl (by omega) (by omega) (by simp [ints_drop, ints_take, sg])) (Wt.plain rfl) rfl rfl ?_
          refine T.eff (e_alloc ze271 rfl rfl rfl) (Wt.plain rfl) ?_
          rintro _ _ ⟨k9, rfl, rfl⟩
          change (_ : List Blk → Prop) [_, _, _, _, _]
          refine T.eff (e_storeA (wide_ints wd271 (by first | omega | (simp; done) | (simp [-List.getD_eq_getElem?_getD]; omega) | (simp at *; omega) | rfl)) 4 rfl rfl rfl rfl (by first | omega | (simp; done) | (simp [-List.getD_eq_getElem?_getD]; omega) | (simp at *; omega) | rfl) ints_one rfl) (Wt.plain rfl) ?_
          rintro _ _ ⟨rfl, rfl⟩
          change (_ : List Blk → Prop) [_, _, _, _, _]
          refine T.fin [4, 8, 9, 10, 14, 90, 91] rfl ?_
          refine W.sr ?_
          refine T.q (q_loadW (wide_ints wd359 (by first | omega | (simp; done) | (simp [-List.getD_eq_getElem?_getD]; omega) | (simp at *; omega) | rfl)) (R_ext hg2.ext) rfl rfl) (Wt.plain rfl) rfl rfl ?_
          refine T.runF ttok [] [4, 8, 9, 10, 14, 90, 91, 94, 95] rfl trivial rfl rfl ?_
          refine W.block ?_
          refine W.loop (α := Nat) (fun j => [(4, .pointer (some ⟨k1, 0, none⟩)), (8, .pointer (some ⟨k2, 0, none⟩)), (9, .pointer (some ⟨k3, 0, none⟩)), (10, .pointer (some ⟨k4, 0, none⟩)), (14, .pointer (some ⟨k9, 0, none⟩)), (90, .agg (ints .u8 sgm).toArray), (91, .int .i64 ((r : Nat) : Int)), (94, .agg (ints .u8 tbl).toArray), (95, .int .i64 ((j : Nat) : Int))]) (fun j => [⟨some k1, ints .u32 h, 333, (0, 0)⟩, ⟨some k2, ints .u32 (List.replicate 8 0), 333, (0, 0)⟩, ⟨some k3, ints .u32 (msg bs), 337, (0, 0)⟩, ⟨some k4, ints .u32 (bdr (sg r) (msg bs) (brn (msg bs) vv r) j), 337, (0, 0)⟩, ⟨some k9, ints .u8 (sg r), 271, (0, 0)⟩]) (fun j => j ≤ 8) (fun j => 8 - j) [true, true, true, true, true] 0 (by omega) ⟨rfl, rfl, rfl, rfl, rfl, rfl, rfl, rfl, rfl, trivial⟩ rfl ?_
          rintro j hj
          refine W.go ttok [] [4, 8, 9, 10, 14, 90, 91, 94, 95, 96] rfl trivial rfl rfl ?_
          refine W.seq ?_
          refine W.cond _ rfl (fun hb10 => ?_) (fun hb10 => ?_)
          · replace hb10 := of_decide_eq_true hb10
            have hj8 : j < 8 := by omega
            have hpl := pl_length hj8
            have p0 := pl_ok hj8 (by decide : 0 < 4)
            have p1 := pl_ok hj8 (by decide : 1 < 4)
            have p2 := pl_ok hj8 (by decide : 2 < 4)
            have p3 := pl_ok hj8 (by decide : 3 < 4)
            have q0 := sg_ok hr10 (by omega : 2 * j < 16)
            have q1 := sg_ok hr10 (by omega : 2 * j + 1 < 16)
            refine W.skip ?_
            refine Ex.next ?_
            refine W.keep [4, 8, 9, 10, 14, 90, 91, 94, 95] rfl ?_
            refine W.seq ?_
            refine W.block ?_
            refine W.sr ?_
            refine T.q (q_move rfl rfl) (Wt.plain rfl) rfl rfl ?_
            refine T.q (q_ixVW (p := ints .u8 (pl j)) ar359 wd358 j rfl rfl rfl (by omega) (by omega) (by simp [ints_drop, ints_take, pl])) (Wt.plain rfl) rfl rfl ?_
            refine T.eff (e_alloc ze358 rfl rfl rfl) (Wt.plain rfl) ?_
            rintro _ _ ⟨k11, rfl, rfl⟩
            change (_ : List Blk → Prop) [_, _, _, _, _, _]
            refine T.q (q_assign rfl rfl) (Wt.plain rfl) rfl rfl ?_
            refine T.eff (e_storeA (wide_ints wd358 (by first | omega | (simp; done) | (simp [-List.getD_eq_getElem?_getD]; omega) | (simp at *; omega) | rfl)) 5 rfl rfl rfl rfl (by first | omega | (simp; done) | (simp [-List.getD_eq_getElem?_getD]; omega) | (simp at *; omega) | rfl) ints_one rfl) (Wt.plain rfl) ?_
            rintro _ _ ⟨rfl, rfl⟩
            change (_ : List Blk → Prop) [_, _, _, _, _, _]
            refine T.fin [4, 8, 9, 10, 14, 15, 16, 90, 91, 94, 95] rfl ?_
            refine W.drawP 26 [true, true, true, false, true, true] (by kernel_rfl) ?_
            refine D.take 0 rfl (by kernel_rfl) (S_sub (((((((List.Sublist.slnil).cons_cons _).cons_cons _).cons _).cons_cons _).cons_cons _).cons_cons _)) (q_ixA0 ar358 0 rfl rfl rfl (rfl) (by decide)) (Wt.plain rfl) rfl rfl ?_
            refine D.take 1 rfl (by kernel_rfl) (S_sub (((((((List.Sublist.slnil).cons_cons _).cons_cons _).cons _).cons_cons _).cons_cons _).cons_cons _)) (q_loadI ss5 4 rfl rfl rfl (by first | omega | (simp; done) | (simp [-List.getD_eq_getElem?_getD]; omega))) (Wt.plain rfl) rfl rfl ?_
            refine D.take 2 rfl (by kernel_rfl) (S_sub (((((((List.Sublist.slnil).cons_cons _).cons_cons _).cons _).cons_cons _).cons_cons _).cons_cons _)) (q_ixA0 ar337 (((pl j).getD 0 0).toNat) rfl rfl rfl (by omega) (by omega)) (Wt.plain rfl) rfl rfl ?_
            refine D.take 3 rfl (by kernel_rfl) (S_sub (((((((List.Sublist.slnil).cons_cons _).cons_cons _).cons _).cons_cons _).cons_cons _).cons_cons _)) (q_ixA0 ar358 1 rfl rfl rfl (rfl) (by decide)) (Wt.plain rfl) rfl rfl ?_
            refine D.take 4 rfl (by kernel_rfl) (S_sub (((((((List.Sublist.slnil).cons_cons _).cons_cons _).cons _).cons_cons _).cons_cons _).cons_cons _)) (q_loadI ss5 4 rfl rfl rfl (by first | omega | (simp; done) | (simp [-List.getD_eq_getElem?_getD]; omega))) (Wt.plain rfl) rfl rfl ?_
            refine D.take 5 rfl (by kernel_rfl) (S_sub (((((((List.Sublist.slnil).cons_cons _).cons_cons _).cons _).cons_cons _).cons_cons _).cons_cons _)) (q_ixA0 ar337 (((pl j).getD 1 0).toNat) rfl rfl rfl (by omega) (by omega)) (Wt.plain rfl) rfl rfl ?_
            refine D.take 6 rfl (by kernel_rfl) (S_sub (((((((List.Sublist.slnil).cons_cons _).cons_cons _).cons _).cons_cons _).cons_cons _).cons_cons _)) (q_ixA0 ar358 2 rfl rfl rfl (rfl) (by decide)) (Wt.plain rfl) rfl rfl ?_
            refine D.take 7 rfl (by kernel_rfl) (S_sub (((((((List.Sublist.slnil).cons_cons _).cons_cons _).cons _).cons_cons _).cons_cons _).cons_cons _)) (q_loadI ss5 4 rfl rfl rfl (by first | omega | (simp; done) | (simp [-List.getD_eq_getElem?_getD]; omega))) (Wt.plain rfl) rfl rfl ?_
            refine D.take 8 rfl (by kernel_rfl) (S_sub (((((((List.Sublist.slnil).cons_cons _).cons_cons _).cons _).cons_cons _).cons_cons _).cons_cons _)) (q_ixA0 ar337 (((pl j).getD 2 0).toNat) rfl rfl rfl (by omega) (by omega)) (Wt.plain rfl) rfl rfl ?_
            refine D.take 9 rfl (by kernel_rfl) (S_sub (((((((List.Sublist.slnil).cons_cons _).cons_cons _).cons _).cons_cons _).cons_cons _).cons_cons _)) (q_ixA0 ar358 3 rfl rfl rfl (rfl) (by decide)) (Wt.plain rfl) rfl rfl ?_
            refine D.take 10 rfl (by kernel_rfl) (S_sub (((((((List.Sublist.slnil).cons_cons _).cons_cons _).cons _).cons_cons _).cons_cons _).cons_cons _)) (q_loadI ss5 4 rfl rfl rfl (by first | omega | (simp; done) | (simp [-List.getD_eq_getElem?_getD]; omega))) (Wt.plain rfl) rfl rfl ?_
            refine D.take 11 rfl (by kernel_rfl) (S_sub (((((((List.Sublist.slnil).cons_cons _).cons_cons _).cons _).cons_cons _).cons_cons _).cons_cons _)) (q_ixA0 ar337 (((pl j).getD 3 0).toNat) rfl rfl rfl (by omega) (by omega)) (Wt.plain rfl) rfl rfl ?_
            refine D.take 12 rfl (by kernel_rfl) (S_sub (((((((List.Sublist.slnil).cons_cons _).cons_cons _).cons _).cons_cons _).cons_cons _).cons_cons _)) (q_move rfl rfl) (Wt.plain rfl) rfl rfl ?_
            refine D.take 13 rfl (by kernel_rfl) (S_sub (((((((List.Sublist.slnil).cons_cons _).cons_cons _).cons _).cons_cons _).cons_cons _).cons_cons _)) (q_muli rfl rfl rfl (by omega) (by omega)) (Wt.plain rfl) rfl rfl ?_
            refine D.take 14 rfl (by kernel_rfl) (S_sub (((((((List.Sublist.slnil).cons_cons _).cons_cons _).cons _).cons_cons _).cons_cons _).cons_cons _)) (q_ixA0 ar271 (2 * j) rfl rfl rfl (by omega) (by omega)) (Wt.plain rfl) rfl rfl ?_
            refine D.take 15 rfl (by kernel_rfl) (S_sub (((((((List.Sublist.slnil).cons_cons _).cons_cons _).cons _).cons_cons _).cons_cons _).cons_cons _)) (q_loadI ss5 3 rfl rfl rfl (by first | omega | (simp; done) | (simp [-List.getD_eq_getElem?_getD]; omega))) (Wt.plain rfl) rfl rfl ?_
            refine D.take 16 rfl (by kernel_rfl) (S_sub (((((((List.Sublist.slnil).cons_cons _).cons_cons _).cons _).cons_cons _).cons_cons _).cons_cons _)) (q_ixA0 ar337 (((sg r).getD (2 * j) 0).toNat) rfl rfl rfl (by omega) (by omega)) (Wt.plain rfl) rfl rfl ?_
            refine D.take 17 rfl (by kernel_rfl) (S_sub (((((((List.Sublist.slnil).cons_cons _).cons_cons _).cons _).cons_cons _).cons_cons _).cons_cons _)) (q_loadI ss275 2 rfl rfl rfl (by first | omega | (simp; done) | (simp [-List.getD_eq_getElem?_getD]; omega))) (Wt.plain rfl) rfl rfl ?_
            refine D.take 18 rfl (by kernel_rfl) (S_sub (((((((List.Sublist.slnil).cons_cons _).cons_cons _).cons _).cons_cons _).cons_cons _).cons_cons _)) (q_move rfl rfl) (Wt.plain rfl) rfl rfl ?_
            refine D.take 19 rfl (by kernel_rfl) (S_sub (((((((List.Sublist.slnil).cons_cons _).cons_cons _).cons _).cons_cons _).cons_cons _).cons_cons _)) (q_muli rfl rfl rfl (by omega) (by omega)) (Wt.plain rfl) rfl rfl ?_
            refine D.take 20 rfl (by kernel_rfl) (S_sub (((((((List.Sublist.slnil).cons_cons _).cons_cons _).cons _).cons_cons _).cons_cons _).cons_cons _)) (q_addi rfl rfl rfl (by omega) (by omega)) (Wt.plain rfl) rfl rfl ?_
            refine D.take 21 rfl (by kernel_rfl) (S_sub (((((((List.Sublist.slnil).cons_cons _).cons_cons _).cons _).cons_cons _).cons_cons _).cons_cons _)) (q_ixA0 ar271 ((2 * j) + 1) rfl rfl rfl (by omega) (by omega)) (Wt.plain rfl) rfl rfl ?_
            refine D.take 22 rfl (by kernel_rfl) (S_sub (((((((List.Sublist.slnil).cons_cons _).cons_cons _).cons _).cons_cons _).cons_cons _).cons_cons _)) (q_loadI ss5 3 rfl rfl rfl (by first | omega | (simp; done) | (simp [-List.getD_eq_getElem?_getD]; omega))) (Wt.plain rfl) rfl rfl ?_
            refine D.take 23 rfl (by kernel_rfl) (S_sub (((((((List.Sublist.slnil).cons_cons _).cons_cons _).cons _).cons_cons _).cons_cons _).cons_cons _)) (q_ixA0 ar337 (((sg r).getD (2 * j + 1) 0).toNat) rfl rfl rfl (by omega) (by omega)) (Wt.plain rfl) rfl rfl ?_
            refine D.take 24 rfl (by kernel_rfl) (S_sub (((((((List.Sublist.slnil).cons_cons _).cons_cons _).cons _).cons_cons _).cons_cons _).cons_cons _)) (q_loadI ss275 2 rfl rfl rfl (by first | omega | (simp; done) | (simp [-List.getD_eq_getElem?_getD]; omega))) (Wt.plain rfl) rfl rfl ?_
            refine D.one 25 (by kernel_rfl) ?_
            refine Up.eff rfl (e_callB 3 enters279 rfl rfl rfl (fun w hm => mix_spec _ _ _ _ _ _ _ _ _ (by simp [hvl]) (by omega) (by omega) (by omega) (by omega) w (hm.at 3 rfl)) rfl rfl) (Wt.plain rfl) ?_
            rintro _ _ ⟨_, _, _, ⟨rfl, rfl, rfl⟩, rfl, rfl⟩
            refine ⟨fun _ => (S_sub (((((((List.Sublist.slnil).cons_cons _).cons_cons _).cons _).cons_cons _).cons_cons _).cons_cons _)), ?_⟩
            change (_ : List Blk → Prop) [_, _, _, _, _, _]
            refine D.done (by kernel_rfl) ?_
            refine Ex.in_normal ?_
            refine Ex.next ?_
            refine W.drop [true, true, true, true, true, false] [4, 8, 9, 10, 14, 90, 91, 94, 95] rfl ?_
            change (_ : List Blk → Prop) [_, _, _, _, _]
            refine W.region ?_
            refine T.run ttok 2 [] rfl ⟨⟨(by omega), (by omega)⟩, trivial⟩ rfl ?_
            refine T.nil ?_
            exact Ex.again [true, true, true, true, true] (j + 1) (by omega) (by omega) ⟨rfl, rfl, rfl, rfl, rfl, rfl, rfl, rfl, rfl, trivial⟩ rfl
          · replace hb10 := of_decide_eq_false hb10
            obtain rfl : j = 8 := by omega
            refine W.exit ?_
            refine Ex.then_exit ?_
            refine Ex.then_exit ?_
            refine Ex.in_here ?_
            refine Ex.in_normal ?_
            refine Ex.next ?_
            refine W.drop [true, true, true, true, false] [4, 8, 9, 10, 90, 91] rfl ?_
            change (_ : List Blk → Prop) [_, _, _, _]
            refine W.region ?_
            refine T.run ttok 2 [] rfl ⟨⟨(by omega), (by omega)⟩, trivial⟩ rfl ?_
            refine T.nil ?_
            exact Ex.again [true, true, true, true] (r + 1) (by omega) (by omega) ⟨rfl, rfl, rfl, rfl, rfl, rfl, trivial⟩ rfl
        · replace hb8 := of_decide_eq_false hb8
          obtain rfl : r = 10 := by omega
          refine W.exit ?_
          refine Ex.then_exit ?_
          refine Ex.then_exit ?_
          refine Ex.in_here ?_
          refine Ex.next ?_
          refine W.drop [true, true, false, true] [4, 8, 10] rfl ?_
          change (_ : List Blk → Prop) [_, _, _]
          refine W.seq ?_
          refine W.go ttok [] [4, 8, 10, 127] rfl trivial rfl rfl ?_
          refine W.block ?_
          refine W.loop (α := Nat) (fun i => [(4, .pointer (some ⟨k1, 0, none⟩)), (8, .pointer (some ⟨k2, 0, none⟩)), (10, .pointer (some ⟨k4, 0, none⟩)), (127, .int .i64 ((i : Nat) : Int))]) (fun i => [⟨some k1, ints .u32 (hfold (brn (msg bs) vv 10) i h), 333, (0, 0)⟩, ⟨some k2, ints .u32 (List.replicate 8 0), 333, (0, 0)⟩, ⟨some k4, ints .u32 (brn (msg bs) vv 10), 337, (0, 0)⟩]) (fun i => i ≤ 8) (fun i => 8 - i) [true, true, true] 0 (by omega) ⟨rfl, rfl, rfl, rfl, trivial⟩ rfl ?_
          rintro i hi
          refine W.go ttok [] [4, 8, 10, 127, 128] rfl trivial rfl rfl ?_
          refine W.seq ?_
          refine W.cond _ rfl (fun hb12 => ?_) (fun hb12 => ?_)
          · replace hb12 := of_decide_eq_true hb12
            refine W.skip ?_
            refine Ex.next ?_
            refine W.keep [4, 8, 10, 127] rfl ?_
            refine W.seq ?_
            refine W.block ?_
            refine W.go ttok [] [4, 8, 10, 17, 127] rfl trivial rfl rfl ?_
            refine W.draw 12 (by kernel_rfl) ?_
            refine D.take 0 rfl (by kernel_rfl) (fun _ h => h) (q_move rfl rfl) (Wt.plain rfl) rfl rfl ?_
            refine D.take 1 rfl (by kernel_rfl) (fun _ h => h) (q_ixA0 ar333 i rfl rfl rfl (by omega) (by omega)) (Wt.plain rfl) rfl rfl ?_
            refine D.take 2 rfl (by kernel_rfl) (fun _ h => h) (q_loadI ss275 0 rfl rfl rfl (by first | omega | (simp; done) | (simp [-List.getD_eq_getElem?_getD]; omega))) (Wt.plain rfl) rfl rfl ?_
            refine D.take 3 rfl (by kernel_rfl) (fun _ h => h) (q_move rfl rfl) (Wt.plain rfl) rfl rfl ?_
            refine D.take 4 rfl (by kernel_rfl) (fun _ h => h) (q_ixA0 ar337 i rfl rfl rfl (by omega) (by omega)) (Wt.plain rfl) rfl rfl ?_
            refine D.take 5 rfl (by kernel_rfl) (fun _ h => h) (q_loadI ss275 2 rfl rfl rfl (by first | omega | (simp; done) | (simp [-List.getD_eq_getElem?_getD]; omega))) (Wt.plain rfl) rfl rfl ?_
            refine D.take 6 rfl (by kernel_rfl) (fun _ h => h) (q_move rfl rfl) (Wt.plain rfl) rfl rfl ?_
            refine D.take 7 rfl (by kernel_rfl) (fun _ h => h) (q_addi rfl rfl rfl (by omega) (by omega)) (Wt.plain rfl) rfl rfl ?_
            refine D.take 8 rfl (by kernel_rfl) (fun _ h => h) (q_ixA0 ar337 (8 + i) rfl rfl rfl (by omega) (by omega)) (Wt.plain rfl) rfl rfl ?_
            refine D.take 9 rfl (by kernel_rfl) (fun _ h => h) (q_loadI ss275 2 rfl rfl rfl (by first | omega | (simp; done) | (simp [-List.getD_eq_getElem?_getD]; omega))) (Wt.plain rfl) rfl rfl ?_
            refine D.take 10 rfl (by kernel_rfl) (fun _ h => h) (q_xor rfl rfl rfl) (Wt.plain rfl) rfl rfl ?_
            refine D.take 11 rfl (by kernel_rfl) (fun _ h => h) (q_xor rfl rfl rfl) (Wt.plain rfl) rfl rfl ?_
            refine D.one 12 (by kernel_rfl) ?_
            refine Up.q rfl (q_ixA0 ar333 i rfl rfl rfl (by omega) (by omega)) (Wt.plain rfl) rfl rfl (fun h => absurd h (by decide)) ?_
            refine D.one 13 (by kernel_rfl) ?_
            refine Up.eff rfl (e_storeI ss275 0 rfl rfl rfl rfl (by first | omega | (simp; done) | (simp [-List.getD_eq_getElem?_getD]; omega)) rfl) (Wt.plain rfl) ?_
            rintro _ _ ⟨rfl, rfl⟩
            refine ⟨fun h => absurd h (by decide), ?_⟩
            change (_ : List Blk → Prop) [_, _, _]
            refine D.done (by kernel_rfl) ?_
            refine Ex.in_normal ?_
            refine Ex.next ?_
            refine W.keep [4, 8, 10, 127] rfl ?_
            refine W.region ?_
            refine T.run ttok 2 [] rfl ⟨⟨(by omega), (by omega)⟩, trivial⟩ rfl ?_
            refine T.nil ?_
            exact Ex.again [true, true, true] (i + 1) (by omega) (by omega) ⟨rfl, rfl, rfl, rfl, trivial⟩ rfl
          · replace hb12 := of_decide_eq_false hb12
            obtain rfl : i = 8 := by omega
            refine W.exit ?_
            refine Ex.then_exit ?_
            refine Ex.then_exit ?_
            refine Ex.in_here ?_
            refine Ex.next ?_
            refine W.drop [true, true, false] [4, 8] rfl ?_
            change (_ : List Blk → Prop) [_, _]
            refine W.sr ?_
            refine T.q (q_loadW (wide_ints wd333 (by first | omega | (simp; done) | (simp [-List.getD_eq_getElem?_getD]; omega) | (simp at *; omega) | rfl)) (R_blk 0 rfl) rfl rfl) (Wt.plain rfl) rfl rfl ?_
            refine T.eff (e_storeA (wide_ints wd333 (by first | omega | (simp; done) | (simp [-List.getD_eq_getElem?_getD]; omega) | (simp at *; omega) | rfl)) 1 rfl rfl rfl rfl (by first | omega | (simp; done) | (simp [-List.getD_eq_getElem?_getD]; omega) | (simp at *; omega) | rfl) ints_one rfl) (Wt.plain rfl) ?_
            rintro _ _ ⟨rfl, rfl⟩
            change (_ : List Blk → Prop) [_, _]
            refine T.end ?_
            refine W.drop [false, true] [8] rfl ?_
            change (_ : List Blk → Prop) [_]
            refine W.ret ?_
            refine Ex.outC [false] 0 rfl (by exact (wide_ints wd333 (by first | omega | (simp; done) | (simp [-List.getD_eq_getElem?_getD]; omega) | (simp at *; omega) | rfl))) rfl rfl ?_
            exact ⟨by rw [pressS, ← hvv], rfl⟩
end Go.Proofs.YtpklnjegimchoaaGreatDoor
namespace Go.Proofs.YtpklnjegimchoaaGreatDoor
open Go Go.X
end Go.Proofs.YtpklnjegimchoaaGreatDoor
namespace Go.Proofs.YtpklnjegimchoaaGreatDoor
open Go Go.X
set_option maxRecDepth 100000 in
set_option maxHeartbeats 2000000 in
theorem sum_spec (key b : List Int) (KA BA : Option Addr) (kc bc : Nat) (hkc : key.length ≤ kc) (hbc : b.length ≤ bc) (hbl : b.length ≤ 140737488355000) (w0 : World) (hK : Reads w0 KA (ints .u8 key)) (hB : Reads w0 BA (ints .u8 b)) (s : Nat) (hs1 : 1 ≤ s) (hs2 : s ≤ 32) (hkl : key.length ≤ 32) (hg0 : Reads w0 (some ⟨3, 0, none⟩) (ints .u32 startW)) (hg1 : Reads w0 (some ⟨8, 0, none⟩) (ints .u8 sgm)) (hg2 : Reads w0 (some ⟨9, 0, none⟩) (ints .u8 tbl)) : Does Tryz.prog 217 #[.slice KA key.length kc, .int .i64 ((s : Nat) : Int), .slice BA b.length bc] w0 [] (fun v G => ∃ (k cap : Nat) (junk : List Value) (ty : TypeId), v = .tuple #[.slice (some ⟨k, 0, none⟩) s cap, .int .i64 0] ∧ G = [⟨some k, ints .u8 (sumS key s b) ++ junk, ty, (0, 0)⟩]) := by
  refine spec_of 92 Tryz.func217 rfl rfl rfl ?_
  refine W.go ttok [] [0, 1, 2] rfl trivial rfl rfl ?_
  refine W.seq ?_
  refine W.sr ?_
  refine T.q (q_move rfl rfl) (Wt.plain rfl) rfl rfl ?_
  refine T.q (q_bool (b := false) (q_lss rfl rfl rfl) (decide_eq_false (by omega))) (Wt.plain rfl) rfl rfl ?_
  refine T.run ttok 2 [] rfl trivial rfl ?_
  refine T.q (q_bool (b := false) (q_gtr rfl rfl rfl) (decide_eq_false (by omega))) (Wt.yes rfl rfl rfl) rfl rfl ?_
  refine T.run ttok 4 [] rfl trivial rfl ?_
  refine T.q (q_bool (b := false) (q_gtr rfl rfl rfl) (decide_eq_false (by omega))) (Wt.yes rfl rfl rfl) rfl rfl ?_
  refine T.runF ttok [] [0, 1, 2, 24] rfl trivial rfl rfl ?_
  refine W.condF rfl ?_
  refine W.skip ?_
  refine Ex.next ?_
  refine W.keep [0, 1, 2] rfl ?_
  refine W.sr ?_
  refine T.q (q_loadW (wide_ints wd333 (by first | omega | (simp; done) | (simp [-List.getD_eq_getElem?_getD]; omega) | (simp at *; omega) | rfl)) (R_ext hg0.ext) rfl rfl) (Wt.plain rfl) rfl rfl ?_
  refine T.eff (e_alloc ze333 rfl rfl rfl) (Wt.plain rfl) ?_
  rintro _ _ ⟨k1, rfl, rfl⟩
  change (_ : List Blk → Prop) [_]
  refine T.eff (e_storeA (wide_ints wd333 (by first | omega | (simp; done) | (simp [-List.getD_eq_getElem?_getD]; omega) | (simp at *; omega) | rfl)) 0 rfl rfl rfl rfl (by first | omega | (simp; done) | (simp [-List.getD_eq_getElem?_getD]; omega) | (simp at *; omega) | rfl) ints_one rfl) (Wt.plain rfl) ?_
  rintro _ _ ⟨rfl, rfl⟩
  change (_ : List Blk → Prop) [_]
  refine T.fin [0, 1, 2, 8] rfl ?_
  refine W.sr ?_
  refine T.q (q_ixA0 ar333 0 rfl rfl rfl (rfl) (by decide)) (Wt.plain rfl) rfl rfl ?_
  refine T.q (q_loadI ss275 0 rfl rfl rfl (by first | omega | (simp; done) | (simp [-List.getD_eq_getElem?_getD]; omega))) (Wt.plain rfl) rfl rfl ?_
  refine T.run ttok 2 [] rfl trivial rfl ?_
  refine T.q (q_conv un3 un275 rfl rfl) (Wt.plain rfl) rfl rfl ?_
  refine T.q (q_shl rfl rfl rfl (by decide)) (Wt.plain rfl) rfl rfl ?_
  refine T.q (q_xor rfl rfl rfl) (Wt.plain rfl) rfl rfl ?_
  refine T.q (q_move rfl rfl) (Wt.plain rfl) rfl rfl ?_
  refine T.q (q_conv un3 un275 rfl rfl) (Wt.plain rfl) rfl rfl ?_
  refine T.q (q_xor rfl rfl rfl) (Wt.plain rfl) rfl rfl ?_
  refine T.q (q_xor rfl rfl rfl) (Wt.plain rfl) rfl rfl ?_
  refine T.q (q_ixA0 ar333 0 rfl rfl rfl (rfl) (by decide)) (Wt.plain rfl) rfl rfl ?_
  refine T.eff (e_storeI ss275 0 rfl rfl rfl rfl (by first | omega | (simp; done) | (simp [-List.getD_eq_getElem?_getD]; omega)) rfl) (Wt.plain rfl) ?_
  rintro _ _ ⟨rfl, rfl⟩
  change (_ : List Blk → Prop) [_]
  change (_ : List Blk → Prop) [⟨some k1, ints .u32 (sumH0 key.length ((s : Nat) : Int)), 333, (0, 0)⟩]
  refine T.fin [0, 1, 2, 8] rfl ?_
  refine W.go ttok [] [0, 1, 2, 8, 9] rfl trivial rfl rfl ?_
  refine W.seq ?_
  refine W.go ttok [] [0, 1, 2, 8, 9, 41] rfl trivial rfl rfl ?_
  refine W.cond _ rfl (fun hb2 => ?_) (fun hb2 => ?_)
  · replace hb2 := of_decide_eq_true hb2
    refine W.sr ?_
    refine T.run ttok 3 [] rfl ⟨⟨(by omega), (by omega)⟩, trivial⟩ rfl ?_
    refine T.eff (e_makeI sc22 ze5 64 (64 + b.length) rfl rfl rfl rfl (by omega) (by omega) (by omega) (by omega) rfl rfl) (Wt.plain rfl) ?_
    rintro _ _ ⟨k3, rfl, rfl⟩
    change (_ : List Blk → Prop) [_, _]
    refine T.runF ttok [] [0, 1, 2, 8, 9] rfl trivial rfl rfl ?_
    refine W.sr ?_
    refine T.run ttok 2 [] rfl trivial rfl ?_
    refine T.eff (e_copyI sc22 1 (List.replicate (64 + b.length) 0) key (R_ext hK.ext) rfl rfl rfl rfl (by first | omega | (simp; done) | (simp [-List.getD_eq_getElem?_getD]; omega) | (simp at *; omega) | rfl) (by first | omega | (simp; done) | (simp [-List.getD_eq_getElem?_getD]; omega)) (by first | omega | (simp; done) | (simp [-List.getD_eq_getElem?_getD]; omega)) rfl rfl) (Wt.plain rfl) ?_
    rintro _ _ ⟨rfl, rfl⟩
    change (_ : List Blk → Prop) [_, _]
    have hkp : (kpad key).length = 64 := by rw [kpad_some (by omega)]; simp; omega
    conv => rhs; rw [kpad_split b.length (by omega) (by omega), ints_append]
    refine T.fin [1, 2, 8, 9] rfl ?_
    refine W.region ?_
    refine T.run ttok 2 [] rfl trivial rfl ?_
    refine T.eff (e_appendI sc22 ze5 rfl 1 .u8 (kpad key) b (ints .u8 (List.replicate b.length 0)) (rfl) (R_ext hB.ext) rfl rfl rfl rfl (by first | omega | (simp; done) | (simp [-List.getD_eq_getElem?_getD]; omega) | (simp at *; omega) | rfl) (by first | omega | (simp; done) | (simp [-List.getD_eq_getElem?_getD]; omega) | (simp at *; omega) | rfl) (by first | omega | (simp; done) | (simp [-List.getD_eq_getElem?_getD]; omega) | (simp at *; omega) | rfl) (by first | omega | (simp; done) | (simp [-List.getD_eq_getElem?_getD]; omega)) (by first | omega | (simp; done) | (simp [-List.getD_eq_getElem?_getD]; omega)) rfl rfl) (Wt.plain rfl) ?_
    rintro _ _ ⟨k4, cap5, junk6, hc7, rfl, rfl⟩
    change (_ : List Blk → Prop) [_, _]
    have hfl : (full key b).length = 64 + b.length := by rw [full, List.length_append, hkp]
    refine T.runF ttok [] [1, 8, 9] rfl trivial rfl rfl ?_
    refine W.go ttok [] [1, 8, 9, 10] rfl trivial rfl rfl ?_
    refine W.seq ?_
    refine W.block ?_
    refine W.loop (α := Nat × Option Addr × Nat × Nat) (fun x_ => [(1, .int .i64 ((s : Nat) : Int)), (8, .pointer (some ⟨k1, 0, none⟩)), (9, .slice x_.2.1 x_.2.2.1 x_.2.2.2), (10, .int .u64 ((64 * x_.1 : Nat) : Int))]) (fun x_ => [⟨some k1, ints .u32 (absorb (sumH0 key.length ((s : Nat) : Int)) (full key b) x_.1), 333, (0, 0)⟩, ⟨some k4, ints .u8 (kpad key ++ b) ++ junk6, 5, (0, 0)⟩]) (fun x_ => 64 * x_.1 + x_.2.2.1 = (full key b).length ∧ x_.2.2.1 ≤ x_.2.2.2 ∧ (x_.1 = 0 ∨ 0 < x_.2.2.1) ∧ ∀ w, Reads w (some ⟨k4, 0, none⟩) (ints .u8 (full key b)) → Reads w x_.2.1 (ints .u8 ((full key b).drop (64 * x_.1)))) (fun x_ => x_.2.2.1) [true, true] (⟨0, some ⟨k4, 0, none⟩, (64 + b.length), cap5⟩) ⟨by dsimp only; omega, by dsimp only; first | omega | (simp at *; omega), .inl rfl, fun w h => h⟩ ⟨rfl, rfl, rfl, rfl, trivial⟩ rfl ?_
    rintro ⟨j, A2, l2, c2⟩ ⟨hjl, hlc, hj0, hRA⟩
    conv => rhs; dsimp only
    conv => arg -2; dsimp only
    dsimp only at hjl hlc hj0 hRA
    refine W.seq ?_
    refine W.go ttok [] [1, 8, 9, 10, 54] rfl trivial rfl rfl ?_
    refine W.cond _ rfl (fun hb8 => ?_) (fun hb8 => ?_)
    · replace hb8 := of_decide_eq_true hb8
      refine W.skip ?_
      refine Ex.next ?_
      refine W.keep [1, 8, 9, 10] rfl ?_
      refine W.block ?_
      refine W.sr ?_
      refine T.q (q_move rfl rfl) (Wt.plain rfl) rfl rfl ?_
      refine T.q (q_int (b := ((64 * (j + 1) : Nat) : Int)) (q_add rfl rfl rfl) ?hE) (Wt.plain rfl) rfl rfl ?_
      case hE => simp [IntKind.wrap, IntKind.bits, IntKind.signed]; omega
      refine T.runF ttok [] [1, 8, 9, 10] rfl trivial rfl rfl ?_
      refine W.sr ?_
      refine T.q (q_loadW (wide_ints wd333 (by first | omega | (simp; done) | (simp [-List.getD_eq_getElem?_getD]; omega) | (simp at *; omega) | rfl)) (R_blk 0 rfl) rfl rfl) (Wt.plain rfl) rfl rfl ?_
      refine T.run ttok 2 [] rfl trivial rfl ?_
      refine T.eff (e_call enters258 rfl rfl (fun w hm => press_spec (absorb (sumH0 key.length ((s : Nat) : Int)) (full key b) j) ((full key b).drop (64 * j)) ((64 * (j + 1) : Nat) : Int) false _ _ _ (by simp) (by first | (simp; done) | (simp; omega)) (by first | omega | (simp; omega)) w ((fun w hm => hRA w ((R_pre 1 rfl) w hm)) w hm) (R_ext hg0.ext w hm) (R_ext hg1.ext w hm) (R_ext hg2.ext w hm)) rfl rfl) (Wt.plain rfl) ?_
      rintro _ _ ⟨_, _, ⟨rfl, rfl⟩, rfl, rfl⟩
      change (_ : List Blk → Prop) [_, _]
      refine T.eff (e_storeA (wide_ints wd333 (by first | omega | (simp; done) | (simp [-List.getD_eq_getElem?_getD]; omega) | (simp at *; omega) | rfl)) 0 rfl rfl rfl rfl (by first | omega | (simp; done) | (simp [-List.getD_eq_getElem?_getD]; omega) | (simp at *; omega) | rfl) ints_one rfl) (Wt.plain rfl) ?_
      rintro _ _ ⟨rfl, rfl⟩
      change (_ : List Blk → Prop) [_, _]
      refine T.fin [1, 8, 9, 10] rfl ?_
      refine W.region ?_
      refine T.q (q_move rfl rfl) (Wt.plain rfl) rfl rfl ?_
      refine T.q (q_sl sc22 64 l2 c2 rfl rfl ⟨_, _, rfl, rfl⟩ rfl rfl (by first | omega | (simp; done) | (simp [-List.getD_eq_getElem?_getD]; omega)) (by first | omega | (simp; done) | (simp [-List.getD_eq_getElem?_getD]; omega)) (by first | omega | (simp; done) | (simp [-List.getD_eq_getElem?_getD]; omega)) (by simp)) (Wt.plain rfl) rfl rfl ?_
      refine T.q (q_assign rfl rfl) (Wt.plain rfl) rfl rfl ?_
      refine T.nil ?_
      refine Ex.in_normal ?_
      exact Ex.again [true, true] (⟨j + 1, cut A2 c2 64, (l2 - 64), (c2 - 64)⟩ : Nat × Option Addr × Nat × Nat) (by dsimp only; omega) ⟨by dsimp only; omega, by dsimp only; omega, .inr (by dsimp only; omega), fun w h => by dsimp only; rw [show 64 * (j + 1) = 64 * j + 64 by omega, ← List.drop_drop, ← ints_drop]; exact (hRA w h).cut (by rw [ints_length, List.length_drop]; omega)⟩ ⟨rfl, rfl, rfl, rfl, trivial⟩ (by first | (dsimp only [pick]; done) | rfl)
    · replace hb8 := of_decide_eq_false hb8
      have hJ : j = lastj (full key b).length := by unfold lastj; omega
      refine W.exit ?_
      refine Ex.then_exit ?_
      refine Ex.then_exit ?_
      refine Ex.in_here ?_
      refine Ex.next ?_
      refine W.keep [1, 8, 9, 10] rfl ?_
      refine W.sr ?_
      refine T.eff (e_alloc ze311 rfl rfl rfl) (Wt.plain rfl) ?_
      rintro _ _ ⟨k9, rfl, rfl⟩
      change (_ : List Blk → Prop) [_, _, _]
      refine T.fin [1, 8, 9, 10, 11] rfl ?_
      refine W.sr ?_
      refine T.q (q_slAll ar311 rfl rfl) (Wt.plain rfl) rfl rfl ?_
      refine T.q (q_move rfl rfl) (Wt.plain rfl) rfl rfl ?_
      refine T.eff (e_copyI sc22 2 (List.replicate 64 0) ((full key b).drop (64 * j)) (fun w hm => hRA w ((R_pre 1 rfl) w hm)) rfl rfl rfl rfl (by first | omega | (simp; done) | (simp [-List.getD_eq_getElem?_getD]; omega) | (simp at *; omega) | rfl) (by first | omega | (simp; done) | (simp [-List.getD_eq_getElem?_getD]; omega)) (by first | omega | (simp; done) | (simp [-List.getD_eq_getElem?_getD]; omega)) rfl rfl) (Wt.plain rfl) ?_
      rintro _ _ ⟨rfl, rfl⟩
      change (_ : List Blk → Prop) [_, _, _]
      refine T.fin [1, 8, 9, 10, 11] rfl ?_
      refine W.seq ?_
      refine W.draw 8 (by kernel_rfl) ?_
      refine D.take 0 rfl (by kernel_rfl) (fun _ h => h) (q_loadW (wide_ints wd333 (by first | omega | (simp; done) | (simp [-List.getD_eq_getElem?_getD]; omega) | (simp at *; omega) | rfl)) (R_blk 0 rfl) rfl rfl) (Wt.plain rfl) rfl rfl ?_
      refine D.take 1 rfl (by kernel_rfl) (fun _ h => h) (q_slAll ar311 rfl rfl) (Wt.plain rfl) rfl rfl ?_
      refine D.take 2 rfl (by kernel_rfl) (fun _ h => h) (q_move rfl rfl) (Wt.plain rfl) rfl rfl ?_
      refine D.take 3 rfl (by kernel_rfl) (fun _ h => h) (q_move rfl rfl) (Wt.plain rfl) rfl rfl ?_
      refine D.take 4 rfl (by kernel_rfl) (fun _ h => h) (q_len sc22 rfl rfl) (Wt.plain rfl) rfl rfl ?_
      refine D.take 5 rfl (by kernel_rfl) (fun _ h => h) (q_conv un3 un240 rfl rfl) (Wt.plain rfl) rfl rfl ?_
      refine D.take 6 rfl (by kernel_rfl) (fun _ h => h) (q_int (b := (((full key b).length : Nat) : Int)) (q_add rfl rfl rfl) ?hE) (Wt.plain rfl) rfl rfl ?_
      case hE => simp [IntKind.wrap, IntKind.bits, IntKind.signed]; omega
      refine D.one 7 (by kernel_rfl) ?_
      refine Up.eff rfl (e_call enters258 rfl rfl (fun w hm => press_spec (absorb (sumH0 key.length ((s : Nat) : Int)) (full key b) j) ((full key b).drop (64 * j) ++ (List.replicate 64 0).drop l2) (((full key b).length : Nat) : Int) true _ _ _ (by simp) (by first | (simp; done) | (simp; omega)) (by first | omega | (simp; omega)) w ((R_blk 2 rfl) w hm) (R_ext hg0.ext w hm) (R_ext hg1.ext w hm) (R_ext hg2.ext w hm)) rfl rfl) (Wt.plain rfl) ?_
      rintro _ _ ⟨_, _, ⟨rfl, rfl⟩, rfl, rfl⟩
      refine ⟨fun _ => (fun _ h => h), ?_⟩
      change (_ : List Blk → Prop) [_, _, _]
      refine D.one 8 (by kernel_rfl) ?_
      refine Up.eff rfl (e_storeA (wide_ints wd333 (by first | omega | (simp; done) | (simp [-List.getD_eq_getElem?_getD]; omega) | (simp at *; omega) | rfl)) 0 rfl rfl rfl rfl (by first | omega | (simp; done) | (simp [-List.getD_eq_getElem?_getD]; omega) | (simp at *; omega) | rfl) ints_one rfl) (Wt.plain rfl) ?_
      rintro _ _ ⟨rfl, rfl⟩
      refine ⟨fun h => absurd h (by decide), ?_⟩
      change (_ : List Blk → Prop) [_, _, _]
      conv => rhs; rw [show pressS (absorb (sumH0 key.length ((s : Nat) : Int)) (full key b) j) ((full key b).drop (64 * j) ++ (List.replicate 64 0).drop l2) (((full key b).length : Nat) : Int) true = digest (sumH0 key.length ((s : Nat) : Int)) (full key b) by rw [digest, ← hJ, show (full key b).length - 64 * j = l2 by omega]]
      refine D.done (by kernel_rfl) ?_
      refine Ex.next ?_
      refine W.drop [true, true, false] [1, 8] rfl ?_
      change (_ : List Blk → Prop) [_, _]
      refine W.sr ?_
      refine T.eff (e_alloc ze37 rfl rfl rfl) (Wt.plain rfl) ?_
      rintro _ _ ⟨k10, rfl, rfl⟩
      change (_ : List Blk → Prop) [_, _, _]
      refine T.fin [1, 8, 12] rfl ?_
      refine W.seq ?_
      refine W.go ttok [] [1, 8, 12, 74] rfl trivial rfl rfl ?_
      refine W.block ?_
      refine W.loop (α := Nat) (fun i => [(1, .int .i64 ((s : Nat) : Int)), (8, .pointer (some ⟨k1, 0, none⟩)), (12, .pointer (some ⟨k10, 0, none⟩)), (74, .int .i64 ((i : Nat) : Int))]) (fun i => [⟨some k1, ints .u32 (digest (sumH0 key.length ((s : Nat) : Int)) (full key b)), 333, (0, 0)⟩, ⟨some k4, ints .u8 (kpad key ++ b) ++ junk6, 5, (0, 0)⟩, ⟨some k10, ints .u8 (fillAt (fun q => q) (outB (digest (sumH0 key.length ((s : Nat) : Int)) (full key b))) i (List.replicate 32 0)), 37, (0, 0)⟩]) (fun i => i ≤ 32) (fun i => 32 - i) [true, true, true] 0 (by omega) ⟨rfl, rfl, rfl, rfl, trivial⟩ rfl ?_
      rintro i hi
      refine W.go ttok [] [1, 8, 12, 74, 75] rfl trivial rfl rfl ?_
      refine W.seq ?_
      refine W.cond _ rfl (fun hb11 => ?_) (fun hb11 => ?_)
      · replace hb11 := of_decide_eq_true hb11
        refine W.skip ?_
        refine Ex.next ?_
        refine W.keep [1, 8, 12, 74] rfl ?_
        refine W.seq ?_
        refine W.block ?_
        refine W.go ttok [] [1, 8, 12, 13, 74] rfl trivial rfl rfl ?_
        refine W.region ?_
        refine T.run ttok 2 [] rfl trivial rfl ?_
        refine T.q (q_quo rfl rfl rfl (by omega) (by omega) (by decide)) (Wt.plain rfl) rfl rfl ?_
        refine T.q (q_ixA0 ar333 (i / 4) rfl rfl rfl (by omega) (by omega)) (Wt.plain rfl) rfl rfl ?_
        refine T.q (q_loadI ss275 0 rfl rfl rfl (by first | omega | (simp; done) | (simp [-List.getD_eq_getElem?_getD]; omega))) (Wt.plain rfl) rfl rfl ?_
        refine T.q (q_move rfl rfl) (Wt.plain rfl) rfl rfl ?_
        refine T.q (q_rem rfl rfl rfl (by omega) (by decide)) (Wt.plain rfl) rfl rfl ?_
        refine T.run ttok 1 [] rfl ⟨⟨(by omega), (by omega)⟩, trivial⟩ rfl ?_
        refine T.q (q_shr rfl rfl rfl (by omega)) (Wt.plain rfl) rfl rfl ?_
        refine T.q (q_conv un275 un5 rfl rfl) (Wt.plain rfl) rfl rfl ?_
        refine T.q (q_ixA0 ar37 i rfl rfl rfl (by omega) (by omega)) (Wt.plain rfl) rfl rfl ?_
        refine T.eff (e_storeI ss5 2 rfl rfl rfl rfl (by first | omega | (simp; done) | (simp [-List.getD_eq_getElem?_getD]; omega)) rfl) (Wt.plain rfl) ?_
        rintro _ _ ⟨rfl, rfl⟩
        change (_ : List Blk → Prop) [_, _, _]
        refine T.nil ?_
        refine Ex.in_normal ?_
        refine Ex.next ?_
        refine W.keep [1, 8, 12, 74] rfl ?_
        refine W.region ?_
        refine T.run ttok 2 [] rfl ⟨⟨(by omega), (by omega)⟩, trivial⟩ rfl ?_
        refine T.nil ?_
        exact Ex.again [true, true, true] (i + 1) (by omega) (by omega) ⟨rfl, rfl, rfl, rfl, trivial⟩ rfl
      · replace hb11 := of_decide_eq_false hb11
        obtain rfl : i = 32 := by omega
        refine W.exit ?_
        refine Ex.then_exit ?_
        refine Ex.then_exit ?_
        refine Ex.in_here ?_
        refine Ex.next ?_
        refine W.drop [false, true, true] [1, 12] rfl ?_
        change (_ : List Blk → Prop) [_, _]
        refine W.sr ?_
        refine T.run ttok 2 [] rfl trivial rfl ?_
        refine T.q (q_slA ar37 0 s s rfl rfl rfl ⟨_, _, rfl, by omega⟩ ⟨_, _, rfl, by omega⟩ (by first | omega | (simp; done) | (simp [-List.getD_eq_getElem?_getD]; omega)) (by first | omega | (simp; done) | (simp [-List.getD_eq_getElem?_getD]; omega)) (by first | omega | (simp; done) | (simp [-List.getD_eq_getElem?_getD]; omega)) (by simp)) (Wt.plain rfl) rfl rfl ?_
        refine T.runF ttok [] [6, 7] rfl trivial rfl rfl ?_
        refine W.ret ?_
        refine Ex.out2 [false, true] rfl rfl rfl ?_
        exact ⟨_, _, ints .u8 ((out32 (digest (sumH0 key.length ((s : Nat) : Int)) (full key b))).drop s), _, by rw [cut_zero]; rfl, by rw [sumS, ← ints_append, List.take_append_drop, out32, ← fillAt_all]; dsimp only [pick]⟩
  · replace hb2 := of_decide_eq_false hb2
    have hkn : full key b = b := by rw [full, kpad_nil (by omega)]; rfl
    have hfl : (full key b).length = b.length := by rw [hkn]
    refine W.skip ?_
    refine Ex.next ?_
    refine W.keep [1, 8, 9] rfl ?_
    refine W.go ttok [] [1, 8, 9, 10] rfl trivial rfl rfl ?_
    refine W.seq ?_
    refine W.block ?_
    refine W.loop (α := Nat × Option Addr × Nat × Nat) (fun x_ => [(1, .int .i64 ((s : Nat) : Int)), (8, .pointer (some ⟨k1, 0, none⟩)), (9, .slice x_.2.1 x_.2.2.1 x_.2.2.2), (10, .int .u64 ((64 * x_.1 : Nat) : Int))]) (fun x_ => [⟨some k1, ints .u32 (absorb (sumH0 key.length ((s : Nat) : Int)) (full key b) x_.1), 333, (0, 0)⟩]) (fun x_ => 64 * x_.1 + x_.2.2.1 = (full key b).length ∧ x_.2.2.1 ≤ x_.2.2.2 ∧ (x_.1 = 0 ∨ 0 < x_.2.2.1) ∧ ∀ w, Reads w (BA) (ints .u8 (full key b)) → Reads w x_.2.1 (ints .u8 ((full key b).drop (64 * x_.1)))) (fun x_ => x_.2.2.1) [true] (⟨0, BA, b.length, bc⟩) ⟨by dsimp only; omega, by dsimp only; first | omega | (simp at *; omega), .inl rfl, fun w h => h⟩ ⟨rfl, rfl, rfl, rfl, trivial⟩ rfl ?_
    rintro ⟨j, A2, l2, c2⟩ ⟨hjl, hlc, hj0, hRA⟩
    conv => rhs; dsimp only
    conv => arg -2; dsimp only
    dsimp only at hjl hlc hj0 hRA
    refine W.seq ?_
    refine W.go ttok [] [1, 8, 9, 10, 54] rfl trivial rfl rfl ?_
    refine W.cond _ rfl (fun hb12 => ?_) (fun hb12 => ?_)
    · replace hb12 := of_decide_eq_true hb12
      refine W.skip ?_
      refine Ex.next ?_
      refine W.keep [1, 8, 9, 10] rfl ?_
      refine W.block ?_
      refine W.sr ?_
      refine T.q (q_move rfl rfl) (Wt.plain rfl) rfl rfl ?_
      refine T.q (q_int (b := ((64 * (j + 1) : Nat) : Int)) (q_add rfl rfl rfl) ?hE) (Wt.plain rfl) rfl rfl ?_
      case hE => simp [IntKind.wrap, IntKind.bits, IntKind.signed]; omega
      refine T.runF ttok [] [1, 8, 9, 10] rfl trivial rfl rfl ?_
      refine W.sr ?_
      refine T.q (q_loadW (wide_ints wd333 (by first | omega | (simp; done) | (simp [-List.getD_eq_getElem?_getD]; omega) | (simp at *; omega) | rfl)) (R_blk 0 rfl) rfl rfl) (Wt.plain rfl) rfl rfl ?_
      refine T.run ttok 2 [] rfl trivial rfl ?_
      refine T.eff (e_call enters258 rfl rfl (fun w hm => press_spec (absorb (sumH0 key.length ((s : Nat) : Int)) (full key b) j) ((full key b).drop (64 * j)) ((64 * (j + 1) : Nat) : Int) false _ _ _ (by simp) (by first | (simp; done) | (simp; omega)) (by first | omega | (simp; omega)) w ((fun w hm => hRA w (by rw [hkn]; exact R_ext hB.ext w hm)) w hm) (R_ext hg0.ext w hm) (R_ext hg1.ext w hm) (R_ext hg2.ext w hm)) rfl rfl) (Wt.plain rfl) ?_
      rintro _ _ ⟨_, _, ⟨rfl, rfl⟩, rfl, rfl⟩
      change (_ : List Blk → Prop) [_]
      refine T.eff (e_storeA (wide_ints wd333 (by first | omega | (simp; done) | (simp [-List.getD_eq_getElem?_getD]; omega) | (simp at *; omega) | rfl)) 0 rfl rfl rfl rfl (by first | omega | (simp; done) | (simp [-List.getD_eq_getElem?_getD]; omega) | (simp at *; omega) | rfl) ints_one rfl) (Wt.plain rfl) ?_
      rintro _ _ ⟨rfl, rfl⟩
      change (_ : List Blk → Prop) [_]
      refine T.fin [1, 8, 9, 10] rfl ?_
      refine W.region ?_
      refine T.q (q_move rfl rfl) (Wt.plain rfl) rfl rfl ?_
      refine T.q (q_sl sc22 64 l2 c2 rfl rfl ⟨_, _, rfl, rfl⟩ rfl rfl (by first | omega | (simp; done) | (simp [-List.getD_eq_getElem?_getD]; omega)) (by first | omega | (simp; done) | (simp [-List.getD_eq_getElem?_getD]; omega)) (by first | omega | (simp; done) | (simp [-List.getD_eq_getElem?_getD]; omega)) (by simp)) (Wt.plain rfl) rfl rfl ?_
      refine T.q (q_assign rfl rfl) (Wt.plain rfl) rfl rfl ?_
      refine T.nil ?_
      refine Ex.in_normal ?_
      exact Ex.again [true] (⟨j + 1, cut A2 c2 64, (l2 - 64), (c2 - 64)⟩ : Nat × Option Addr × Nat × Nat) (by dsimp only; omega) ⟨by dsimp only; omega, by dsimp only; omega, .inr (by dsimp only; omega), fun w h => by dsimp only; rw [show 64 * (j + 1) = 64 * j + 64 by omega, ← List.drop_drop, ← ints_drop]; exact (hRA w h).cut (by rw [ints_length, List.length_drop]; omega)⟩ ⟨rfl, rfl, rfl, rfl, trivial⟩ (by first | (dsimp only [pick]; done) | rfl)
    · replace hb12 := of_decide_eq_false hb12
      have hJ : j = lastj (full key b).length := by unfold lastj; omega
      refine W.exit ?_
      refine Ex.then_exit ?_
      refine Ex.then_exit ?_
      refine Ex.in_here ?_
      refine Ex.next ?_
      refine W.keep [1, 8, 9, 10] rfl ?_
      refine W.sr ?_
      refine T.eff (e_alloc ze311 rfl rfl rfl) (Wt.plain rfl) ?_
      rintro _ _ ⟨k13, rfl, rfl⟩
      change (_ : List Blk → Prop) [_, _]
      refine T.fin [1, 8, 9, 10, 11] rfl ?_
      refine W.sr ?_
      refine T.q (q_slAll ar311 rfl rfl) (Wt.plain rfl) rfl rfl ?_
      refine T.q (q_move rfl rfl) (Wt.plain rfl) rfl rfl ?_
      refine T.eff (e_copyI sc22 1 (List.replicate 64 0) ((full key b).drop (64 * j)) (fun w hm => hRA w (by rw [hkn]; exact R_ext hB.ext w hm)) rfl rfl rfl rfl (by first | omega | (simp; done) | (simp [-List.getD_eq_getElem?_getD]; omega) | (simp at *; omega) | rfl) (by first | omega | (simp; done) | (simp [-List.getD_eq_getElem?_getD]; omega)) (by first | omega | (simp; done) | (simp [-List.getD_eq_getElem?_getD]; omega)) rfl rfl) (Wt.plain rfl) ?_
      rintro _ _ ⟨rfl, rfl⟩
      change (_ : List Blk → Prop) [_, _]
      refine T.fin [1, 8, 9, 10, 11] rfl ?_
      refine W.seq ?_
      refine W.draw 8 (by kernel_rfl) ?_
      refine D.take 0 rfl (by kernel_rfl) (fun _ h => h) (q_loadW (wide_ints wd333 (by first | omega | (simp; done) | (simp [-List.getD_eq_getElem?_getD]; omega) | (simp at *; omega) | rfl)) (R_blk 0 rfl) rfl rfl) (Wt.plain rfl) rfl rfl ?_
      refine D.take 1 rfl (by kernel_rfl) (fun _ h => h) (q_slAll ar311 rfl rfl) (Wt.plain rfl) rfl rfl ?_
      refine D.take 2 rfl (by kernel_rfl) (fun _ h => h) (q_move rfl rfl) (Wt.plain rfl) rfl rfl ?_
      refine D.take 3 rfl (by kernel_rfl) (fun _ h => h) (q_move rfl rfl) (Wt.plain rfl) rfl rfl ?_
      refine D.take 4 rfl (by kernel_rfl) (fun _ h => h) (q_len sc22 rfl rfl) (Wt.plain rfl) rfl rfl ?_
      refine D.take 5 rfl (by kernel_rfl) (fun _ h => h) (q_conv un3 un240 rfl rfl) (Wt.plain rfl) rfl rfl ?_
      refine D.take 6 rfl (by kernel_rfl) (fun _ h => h) (q_int (b := (((full key b).length : Nat) : Int)) (q_add rfl rfl rfl) ?hE) (Wt.plain rfl) rfl rfl ?_
      case hE => simp [IntKind.wrap, IntKind.bits, IntKind.signed]; omega
      refine D.one 7 (by kernel_rfl) ?_
      refine Up.eff rfl (e_call enters258 rfl rfl (fun w hm => press_spec (absorb (sumH0 key.length ((s : Nat) : Int)) (full key b) j) ((full key b).drop (64 * j) ++ (List.replicate 64 0).drop l2) (((full key b).length : Nat) : Int) true _ _ _ (by simp) (by first | (simp; done) | (simp; omega)) (by first | omega | (simp; omega)) w ((R_blk 1 rfl) w hm) (R_ext hg0.ext w hm) (R_ext hg1.ext w hm) (R_ext hg2.ext w hm)) rfl rfl) (Wt.plain rfl) ?_
      rintro _ _ ⟨_, _, ⟨rfl, rfl⟩, rfl, rfl⟩
      refine ⟨fun _ => (fun _ h => h), ?_⟩
      change (_ : List Blk → Prop) [_, _]
      refine D.one 8 (by kernel_rfl) ?_
      refine Up.eff rfl (e_storeA (wide_ints wd333 (by first | omega | (simp; done) | (simp [-List.getD_eq_getElem?_getD]; omega) | (simp at *; omega) | rfl)) 0 rfl rfl rfl rfl (by first | omega | (simp; done) | (simp [-List.getD_eq_getElem?_getD]; omega) | (simp at *; omega) | rfl) ints_one rfl) (Wt.plain rfl) ?_
      rintro _ _ ⟨rfl, rfl⟩
      refine ⟨fun h => absurd h (by decide), ?_⟩
      change (_ : List Blk → Prop) [_, _]
      conv => rhs; rw [show pressS (absorb (sumH0 key.length ((s : Nat) : Int)) (full key b) j) ((full key b).drop (64 * j) ++ (List.replicate 64 0).drop l2) (((full key b).length : Nat) : Int) true = digest (sumH0 key.length ((s : Nat) : Int)) (full key b) by rw [digest, ← hJ, show (full key b).length - 64 * j = l2 by omega]]
      refine D.done (by kernel_rfl) ?_
      refine Ex.next ?_
      refine W.drop [true, false] [1, 8] rfl ?_
      change (_ : List Blk → Prop) [_]
      refine W.sr ?_
      refine T.eff (e_alloc ze37 rfl rfl rfl) (Wt.plain rfl) ?_
      rintro _ _ ⟨k14, rfl, rfl⟩
      change (_ : List Blk → Prop) [_, _]
      refine T.fin [1, 8, 12] rfl ?_
      refine W.seq ?_
      refine W.go ttok [] [1, 8, 12, 74] rfl trivial rfl rfl ?_
      refine W.block ?_
      refine W.loop (α := Nat) (fun i => [(1, .int .i64 ((s : Nat) : Int)), (8, .pointer (some ⟨k1, 0, none⟩)), (12, .pointer (some ⟨k14, 0, none⟩)), (74, .int .i64 ((i : Nat) : Int))]) (fun i => [⟨some k1, ints .u32 (digest (sumH0 key.length ((s : Nat) : Int)) (full key b)), 333, (0, 0)⟩, ⟨some k14, ints .u8 (fillAt (fun q => q) (outB (digest (sumH0 key.length ((s : Nat) : Int)) (full key b))) i (List.replicate 32 0)), 37, (0, 0)⟩]) (fun i => i ≤ 32) (fun i => 32 - i) [true, true] 0 (by omega) ⟨rfl, rfl, rfl, rfl, trivial⟩ rfl ?_
      rintro i hi
      refine W.go ttok [] [1, 8, 12, 74, 75] rfl trivial rfl rfl ?_
      refine W.seq ?_
      refine W.cond _ rfl (fun hb15 => ?_) (fun hb15 => ?_)
      · replace hb15 := of_decide_eq_true hb15
        refine W.skip ?_
        refine Ex.next ?_
        refine W.keep [1, 8, 12, 74] rfl ?_
        refine W.seq ?_
        refine W.block ?_
        refine W.go ttok [] [1, 8, 12, 13, 74] rfl trivial rfl rfl ?_
        refine W.region ?_
        refine T.run ttok 2 [] rfl trivial rfl ?_
        refine T.q (q_quo rfl rfl rfl (by omega) (by omega) (by decide)) (Wt.plain rfl) rfl rfl ?_
        refine T.q (q_ixA0 ar333 (i / 4) rfl rfl rfl (by omega) (by omega)) (Wt.plain rfl) rfl rfl ?_
        refine T.q (q_loadI ss275 0 rfl rfl rfl (by first | omega | (simp; done) | (simp [-List.getD_eq_getElem?_getD]; omega))) (Wt.plain rfl) rfl rfl ?_
        refine T.q (q_move rfl rfl) (Wt.plain rfl) rfl rfl ?_
        refine T.q (q_rem rfl rfl rfl (by omega) (by decide)) (Wt.plain rfl) rfl rfl ?_
        refine T.run ttok 1 [] rfl ⟨⟨(by omega), (by omega)⟩, trivial⟩ rfl ?_
        refine T.q (q_shr rfl rfl rfl (by omega)) (Wt.plain rfl) rfl rfl ?_
        refine T.q (q_conv un275 un5 rfl rfl) (Wt.plain rfl) rfl rfl ?_
        refine T.q (q_ixA0 ar37 i rfl rfl rfl (by omega) (by omega)) (Wt.plain rfl) rfl rfl ?_
        refine T.eff (e_storeI ss5 1 rfl rfl rfl rfl (by first | omega | (simp; done) | (simp [-List.getD_eq_getElem?_getD]; omega)) rfl) (Wt.plain rfl) ?_
        rintro _ _ ⟨rfl, rfl⟩
        change (_ : List Blk → Prop) [_, _]
        refine T.nil ?_
        refine Ex.in_normal ?_
        refine Ex.next ?_
        refine W.keep [1, 8, 12, 74] rfl ?_
        refine W.region ?_
        refine T.run ttok 2 [] rfl ⟨⟨(by omega), (by omega)⟩, trivial⟩ rfl ?_
        refine T.nil ?_
        exact Ex.again [true, true] (i + 1) (by omega) (by omega) ⟨rfl, rfl, rfl, rfl, trivial⟩ rfl
      · replace hb15 := of_decide_eq_false hb15
        obtain rfl : i = 32 := by omega
        refine W.exit ?_
        refine Ex.then_exit ?_
        refine Ex.then_exit ?_
        refine Ex.in_here ?_
        refine Ex.next ?_
        refine W.drop [false, true] [1, 12] rfl ?_
        change (_ : List Blk → Prop) [_]
        refine W.sr ?_
        refine T.run ttok 2 [] rfl trivial rfl ?_
        refine T.q (q_slA ar37 0 s s rfl rfl rfl ⟨_, _, rfl, by omega⟩ ⟨_, _, rfl, by omega⟩ (by first | omega | (simp; done) | (simp [-List.getD_eq_getElem?_getD]; omega)) (by first | omega | (simp; done) | (simp [-List.getD_eq_getElem?_getD]; omega)) (by first | omega | (simp; done) | (simp [-List.getD_eq_getElem?_getD]; omega)) (by simp)) (Wt.plain rfl) rfl rfl ?_
        refine T.runF ttok [] [6, 7] rfl trivial rfl rfl ?_
        refine W.ret ?_
        refine Ex.out2 [true] rfl rfl rfl ?_
        exact ⟨_, _, ints .u8 ((out32 (digest (sumH0 key.length ((s : Nat) : Int)) (full key b))).drop s), _, by rw [cut_zero]; rfl, by rw [sumS, ← ints_append, List.take_append_drop, out32, ← fillAt_all]; dsimp only [pick]⟩
end Go.Proofs.YtpklnjegimchoaaGreatDoor
namespace Go.Proofs.YtpklnjegimchoaaGreatDoor
open Go Go.X
end Go.Proofs.YtpklnjegimchoaaGreatDoor
namespace Go.Proofs.YtpklnjegimchoaaGreatDoor
open Go Go.X
theorem sum_at (key b : List Int) (KA BA : Option Addr) (kc bc n m : Nat) (hkc : n ≤ kc) (hbc : m ≤ bc) (hbl : m ≤ 140737488355000) (w0 : World) (hK : Reads w0 KA (ints .u8 key)) (hB : Reads w0 BA (ints .u8 b)) (s : Nat) (hs1 : 1 ≤ s) (hs2 : s ≤ 32) (hkl : n ≤ 32) (hg0 : Reads w0 (some ⟨3, 0, none⟩) (ints .u32 startW)) (hg1 : Reads w0 (some ⟨8, 0, none⟩) (ints .u8 sgm)) (hg2 : Reads w0 (some ⟨9, 0, none⟩) (ints .u8 tbl)) (hn : key.length = n) (hm : b.length = m) :
    Does Tryz.prog 217 #[.slice KA n kc, .int .i64 ((s : Nat) : Int), .slice BA m bc] w0 [] (fun v G => ∃ (k cap : Nat) (junk : List Value) (ty : TypeId), v = .tuple #[.slice (some ⟨k, 0, none⟩) s cap, .int .i64 0] ∧ G = [⟨some k, ints .u8 (sumS key s b) ++ junk, ty, (0, 0)⟩]) := by
  subst hn hm
  exact sum_spec key b KA BA kc bc hkc hbc hbl w0 hK hB s hs1 hs2 hkl hg0 hg1 hg2
set_option maxRecDepth 100000 in
theorem hash_spec (b : List Int) (BA : Option Addr) (bc : Nat) (hbc : b.length ≤ bc) (hbl : b.length ≤ 140737488355000) (w0 : World) (hB : Reads w0 BA (ints .u8 b)) (hg0 : Reads w0 (some ⟨3, 0, none⟩) (ints .u32 startW)) (hg1 : Reads w0 (some ⟨8, 0, none⟩) (ints .u8 sgm)) (hg2 : Reads w0 (some ⟨9, 0, none⟩) (ints .u8 tbl)) : Does Tryz.prog 154 #[.slice BA b.length bc] w0 [] (fun v G => v = .agg (ints .u8 (hashS b)).toArray ∧ G = []) := by
  refine spec_of 13 Tryz.func154 rfl rfl rfl ?_
  refine W.sr ?_
  refine T.eff (e_alloc ze38 rfl rfl rfl) (Wt.plain rfl) ?_
  rintro _ _ ⟨k1, rfl, rfl⟩
  change (_ : List Blk → Prop) [_]
  refine T.fin [0, 2] rfl ?_
  refine W.sr ?_
  refine T.q (q_move rfl rfl) (Wt.plain rfl) rfl rfl ?_
  refine T.eff (e_call enters217 rfl rfl (fun w hm => sum_at [] b _ _ _ _ _ _ (by first | omega | (simp; done) | (simp; omega) | (simp at *; omega)) (by first | omega | (simp; done) | (simp; omega) | (simp at *; omega)) (by first | omega | (simp; done) | (simp; omega) | (simp at *; omega)) w ((R_nilI .u8) w hm) ((R_ext hB.ext) w hm) 32 (by first | omega | (simp; done) | (simp; omega) | (simp at *; omega)) (by first | omega | (simp; done) | (simp; omega) | (simp at *; omega)) (by first | omega | (simp; done) | (simp; omega) | (simp at *; omega)) (R_ext hg0.ext w hm) (R_ext hg1.ext w hm) (R_ext hg2.ext w hm) (by first | omega | (simp; done) | (simp [-List.getD_eq_getElem?_getD]; omega) | (simp at *; omega) | rfl) (by first | omega | (simp; done) | (simp [-List.getD_eq_getElem?_getD]; omega) | (simp at *; omega) | rfl)) rfl rfl) (Wt.plain rfl) ?_
  rintro _ _ ⟨_, _, ⟨k2, cap3, junk4, hc5, rfl, rfl⟩, rfl, rfl⟩
  change (_ : List Blk → Prop) [_, _]
  change (_ : List Blk → Prop) [_, ⟨some k2, ints .u8 (hashS b) ++ junk4, hc5, (0, 0)⟩]
  refine T.runF ttok [] [2, 3] rfl trivial rfl rfl ?_
  refine W.sr ?_
  refine T.q (q_move rfl rfl) (Wt.plain rfl) rfl rfl ?_
  refine T.q (q_arrp ar38 rfl rfl (by first | omega | (simp; done) | (simp [-List.getD_eq_getElem?_getD]; omega))) (Wt.plain rfl) rfl rfl ?_
  refine T.q (q_loadW (wide_ints wd38 (by first | omega | (simp; done) | (simp [-List.getD_eq_getElem?_getD]; omega) | (simp at *; omega) | rfl)) (R_pre 1 rfl) rfl rfl) (Wt.plain rfl) rfl rfl ?_
  refine T.eff (e_storeA (wide_ints wd38 (by first | omega | (simp; done) | (simp [-List.getD_eq_getElem?_getD]; omega) | (simp at *; omega) | rfl)) 0 rfl rfl rfl rfl (by first | omega | (simp; done) | (simp [-List.getD_eq_getElem?_getD]; omega) | (simp at *; omega) | rfl) ints_one rfl) (Wt.plain rfl) ?_
  rintro _ _ ⟨rfl, rfl⟩
  change (_ : List Blk → Prop) [_, _]
  refine T.end ?_
  refine W.drop [true, false] [2] rfl ?_
  change (_ : List Blk → Prop) [_]
  refine W.ret ?_
  refine Ex.outC [false] 0 rfl (by exact (wide_ints wd38 (by first | omega | (simp; done) | (simp [-List.getD_eq_getElem?_getD]; omega) | (simp at *; omega) | rfl))) rfl rfl ?_
  exact ⟨rfl, rfl⟩
end Go.Proofs.YtpklnjegimchoaaGreatDoor
namespace Go.Proofs.YtpklnjegimchoaaGreatDoor
open Go Go.X
theorem hash_at (b : List Int) (BA : Option Addr) (bc m : Nat) (hbc : m ≤ bc) (hbl : m ≤ 140737488355000) (w0 : World) (hB : Reads w0 BA (ints .u8 b)) (hg0 : Reads w0 (some ⟨3, 0, none⟩) (ints .u32 startW)) (hg1 : Reads w0 (some ⟨8, 0, none⟩) (ints .u8 sgm)) (hg2 : Reads w0 (some ⟨9, 0, none⟩) (ints .u8 tbl)) (hm : b.length = m) : Does Tryz.prog 154 #[.slice BA m bc] w0 [] (fun v G => v = .agg (ints .u8 (hashS b)).toArray ∧ G = []) := by
  subst hm
  exact hash_spec b BA bc hbc hbl w0 hB hg0 hg1 hg2
set_option maxRecDepth 100000 in
set_option maxHeartbeats 1000000 in
theorem mac_spec (key b : List Int) (KA BA : Option Addr) (kc bc : Nat) (hkc : key.length ≤ kc) (hbc : b.length ≤ bc) (hkb : key.length ≤ 140737488355000) (hbl : b.length ≤ 140737488354900) (w0 : World) (hK : Reads w0 KA (ints .u8 key)) (hB : Reads w0 BA (ints .u8 b)) (hg0 : Reads w0 (some ⟨3, 0, none⟩) (ints .u32 startW)) (hg1 : Reads w0 (some ⟨8, 0, none⟩) (ints .u8 sgm)) (hg2 : Reads w0 (some ⟨9, 0, none⟩) (ints .u8 tbl)) : Does Tryz.prog 274 #[.slice KA key.length kc, .slice BA b.length bc] w0 [] (fun v G => v = .agg (ints .u8 (macS key b)).toArray ∧ G = []) := by
  refine spec_of 42 Tryz.func274 rfl rfl rfl ?_
  refine W.sr ?_
  refine T.eff (e_alloc ze38 rfl rfl rfl) (Wt.plain rfl) ?_
  rintro _ _ ⟨k1, rfl, rfl⟩
  change (_ : List Blk → Prop) [_]
  refine T.fin [0, 1, 4] rfl ?_
  refine W.sr ?_
  refine T.eff (e_alloc ze311 rfl rfl rfl) (Wt.plain rfl) ?_
  rintro _ _ ⟨k2, rfl, rfl⟩
  change (_ : List Blk → Prop) [_, _]
  refine T.eff (e_alloc ze311 rfl rfl rfl) (Wt.plain rfl) ?_
  rintro _ _ ⟨k3, rfl, rfl⟩
  change (_ : List Blk → Prop) [_, _, _]
  refine T.fin [0, 1, 4, 5, 6] rfl ?_
  refine W.seq ?_
  refine W.go ttok [] [0, 1, 4, 5, 6, 12] rfl trivial rfl rfl ?_
  refine W.cond _ rfl (fun hb4 => ?_) (fun hb4 => ?_)
  · replace hb4 := of_decide_eq_true hb4
    refine W.sr ?_
    refine T.q (q_move rfl rfl) (Wt.plain rfl) rfl rfl ?_
    refine T.eff (e_call enters154 rfl rfl (fun w hm => hash_at key _ _ _ (by first | omega | (simp; done) | (simp; omega) | (simp at *; omega)) (by first | omega | (simp; done) | (simp; omega) | (simp at *; omega)) w ((R_ext hK.ext) w hm) (R_ext hg0.ext w hm) (R_ext hg1.ext w hm) (R_ext hg2.ext w hm) (by first | omega | (simp; done) | (simp [-List.getD_eq_getElem?_getD]; omega) | (simp at *; omega) | rfl)) rfl rfl) (Wt.plain rfl) ?_
    rintro _ _ ⟨_, _, ⟨rfl, rfl⟩, rfl, rfl⟩
    change (_ : List Blk → Prop) [_, _, _]
    refine T.eff (e_alloc ze38 rfl rfl rfl) (Wt.plain rfl) ?_
    rintro _ _ ⟨k5, rfl, rfl⟩
    change (_ : List Blk → Prop) [_, _, _, _]
    refine T.eff (e_storeA (wide_ints wd38 (by first | omega | (simp; done) | (simp [-List.getD_eq_getElem?_getD]; omega) | (simp at *; omega) | rfl)) 3 rfl rfl rfl rfl (by first | omega | (simp; done) | (simp [-List.getD_eq_getElem?_getD]; omega) | (simp at *; omega) | rfl) ints_one rfl) (Wt.plain rfl) ?_
    rintro _ _ ⟨rfl, rfl⟩
    change (_ : List Blk → Prop) [_, _, _, _]
    refine T.fin [1, 4, 5, 6, 7] rfl ?_
    refine W.region ?_
    refine T.q (q_slAll ar38 rfl rfl) (Wt.plain rfl) rfl rfl ?_
    refine T.runF ttok [] [0, 1, 4, 5, 6] rfl trivial rfl rfl ?_
    refine W.sr ?_
    refine T.q (q_slAll ar311 rfl rfl) (Wt.plain rfl) rfl rfl ?_
    refine T.q (q_move rfl rfl) (Wt.plain rfl) rfl rfl ?_
    refine T.eff (e_copyI sc22 1 (List.replicate 64 0) (hashS key) (R_blk 3 rfl) rfl rfl rfl rfl (by first | omega | (simp; done) | (simp [-List.getD_eq_getElem?_getD]; omega) | (simp at *; omega) | rfl) (by first | omega | (simp; done) | (simp [-List.getD_eq_getElem?_getD]; omega)) (by first | omega | (simp; done) | (simp [-List.getD_eq_getElem?_getD]; omega)) rfl rfl) (Wt.plain rfl) ?_
    rintro _ _ ⟨rfl, rfl⟩
    change (_ : List Blk → Prop) [_, _, _, _]
    conv => rhs; rw [kpd_long (by omega)]
    refine T.end ?_
    refine W.drop [true, true, true, false] [1, 4, 5, 6] rfl ?_
    change (_ : List Blk → Prop) [_, _, _]
    refine W.sr ?_
    refine T.q (q_loadW (wide_ints wd311 (by first | omega | (simp; done) | (simp [-List.getD_eq_getElem?_getD]; omega) | (simp at *; omega) | rfl)) (R_blk 1 rfl) rfl rfl) (Wt.plain rfl) rfl rfl ?_
    refine T.eff (e_storeA (wide_ints wd311 (by first | omega | (simp; done) | (simp [-List.getD_eq_getElem?_getD]; omega) | (simp at *; omega) | rfl)) 2 rfl rfl rfl rfl (by first | omega | (simp; done) | (simp [-List.getD_eq_getElem?_getD]; omega) | (simp at *; omega) | rfl) ints_one rfl) (Wt.plain rfl) ?_
    rintro _ _ ⟨rfl, rfl⟩
    change (_ : List Blk → Prop) [_, _, _]
    refine T.fin [1, 4, 5, 6] rfl ?_
    refine W.seq ?_
    refine W.go ttok [] [1, 4, 5, 6, 20] rfl trivial rfl rfl ?_
    refine W.block ?_
    refine W.loop (α := Nat) (fun i => [(1, .slice BA b.length bc), (4, .pointer (some ⟨k1, 0, none⟩)), (5, .pointer (some ⟨k2, 0, none⟩)), (6, .pointer (some ⟨k3, 0, none⟩)), (20, .int .i64 ((i : Nat) : Int))]) (fun i => [⟨some k1, ints .u8 (List.replicate 32 0), 38, (0, 0)⟩, ⟨some k2, ints .u8 (fillAt (fun q => q) (kxf 54 key) i (kpd key)), 311, (0, 0)⟩, ⟨some k3, ints .u8 (fillAt (fun q => q) (kxf 92 key) i (kpd key)), 311, (0, 0)⟩]) (fun i => i ≤ 64) (fun i => 64 - i) [true, true, true] 0 (by omega) ⟨rfl, rfl, rfl, rfl, rfl, trivial⟩ rfl ?_
    rintro i hi
    refine W.go ttok [] [1, 4, 5, 6, 20, 21] rfl trivial rfl rfl ?_
    refine W.seq ?_
    refine W.cond _ rfl (fun hb6 => ?_) (fun hb6 => ?_)
    · replace hb6 := of_decide_eq_true hb6
      refine W.skip ?_
      refine Ex.next ?_
      refine W.keep [1, 4, 5, 6, 20] rfl ?_
      refine W.seq ?_
      refine W.block ?_
      refine W.go ttok [] [1, 4, 5, 6, 8, 20] rfl trivial rfl rfl ?_
      refine W.sr ?_
      refine T.q (q_move rfl rfl) (Wt.plain rfl) rfl rfl ?_
      refine T.q (q_ixA0 ar311 i rfl rfl rfl (by omega) (by omega)) (Wt.plain rfl) rfl rfl ?_
      refine T.q (q_int (b := (kpd key).getD i 0) (q_loadI ss5 1 rfl rfl rfl (by first | omega | (simp; done) | (simp [-List.getD_eq_getElem?_getD]; omega))) (fillAt_ahead _ _ i i (Nat.le_refl i))) (Wt.plain rfl) rfl rfl ?_
      refine T.q (q_xor rfl rfl rfl) (Wt.plain rfl) rfl rfl ?_
      refine T.q (q_ixA0 ar311 i rfl rfl rfl (by omega) (by omega)) (Wt.plain rfl) rfl rfl ?_
      refine T.eff (e_storeI ss5 1 rfl rfl rfl rfl (by first | omega | (simp; done) | (simp [-List.getD_eq_getElem?_getD]; omega)) rfl) (Wt.plain rfl) ?_
      rintro _ _ ⟨rfl, rfl⟩
      change (_ : List Blk → Prop) [_, _, _]
      refine T.fin [1, 4, 5, 6, 8, 20] rfl ?_
      refine W.region ?_
      refine T.q (q_move rfl rfl) (Wt.plain rfl) rfl rfl ?_
      refine T.q (q_ixA0 ar311 i rfl rfl rfl (by omega) (by omega)) (Wt.plain rfl) rfl rfl ?_
      refine T.q (q_int (b := (kpd key).getD i 0) (q_loadI ss5 2 rfl rfl rfl (by first | omega | (simp; done) | (simp [-List.getD_eq_getElem?_getD]; omega))) (fillAt_ahead _ _ i i (Nat.le_refl i))) (Wt.plain rfl) rfl rfl ?_
      refine T.q (q_xor rfl rfl rfl) (Wt.plain rfl) rfl rfl ?_
      refine T.q (q_ixA0 ar311 i rfl rfl rfl (by omega) (by omega)) (Wt.plain rfl) rfl rfl ?_
      refine T.eff (e_storeI ss5 2 rfl rfl rfl rfl (by first | omega | (simp; done) | (simp [-List.getD_eq_getElem?_getD]; omega)) rfl) (Wt.plain rfl) ?_
      rintro _ _ ⟨rfl, rfl⟩
      change (_ : List Blk → Prop) [_, _, _]
      refine T.nil ?_
      refine Ex.in_normal ?_
      refine Ex.next ?_
      refine W.keep [1, 4, 5, 6, 20] rfl ?_
      refine W.region ?_
      refine T.run ttok 2 [] rfl ⟨⟨(by omega), (by omega)⟩, trivial⟩ rfl ?_
      refine T.nil ?_
      exact Ex.again [true, true, true] (i + 1) (by omega) (by omega) ⟨rfl, rfl, rfl, rfl, rfl, trivial⟩ rfl
    · replace hb6 := of_decide_eq_false hb6
      obtain rfl : i = 64 := by omega
      conv => rhs; rw [kx_fill 54 key, kx_fill 92 key]
      refine W.exit ?_
      refine Ex.then_exit ?_
      refine Ex.then_exit ?_
      refine Ex.in_here ?_
      refine Ex.next ?_
      refine W.keep [1, 4, 5, 6] rfl ?_
      refine W.sr ?_
      refine T.q (q_slAll ar311 rfl rfl) (Wt.plain rfl) rfl rfl ?_
      refine T.q (q_move rfl rfl) (Wt.plain rfl) rfl rfl ?_
      refine T.eff (e_appendF sc22 ze5 rfl .u8 (kx 54 key) b (R_blk 1 rfl) (R_ext hB.ext) rfl rfl rfl (by first | omega | (simp; done) | (simp [-List.getD_eq_getElem?_getD]; omega) | (simp at *; omega) | rfl) (by first | omega | (simp; done) | (simp [-List.getD_eq_getElem?_getD]; omega) | (simp at *; omega) | rfl) (by first | omega | (simp; done) | (simp [-List.getD_eq_getElem?_getD]; omega) | (simp at *; omega) | rfl) (by first | omega | (simp; done) | (simp [-List.getD_eq_getElem?_getD]; omega)) (by first | omega | (simp; done) | (simp [-List.getD_eq_getElem?_getD]; omega)) rfl rfl) (Wt.plain rfl) ?_
      rintro _ _ ⟨k7, cap8, junk9, hc10, hc11, rfl, rfl⟩
      change (_ : List Blk → Prop) [_, _, _, _]
      refine T.eff (e_call enters154 rfl rfl (fun w hm => hash_at (kx 54 key ++ b) _ _ _ (by first | omega | (simp; done) | (simp; omega) | (simp at *; omega)) (by first | omega | (simp; done) | (simp; omega) | (simp at *; omega)) w ((hc11) w hm) (R_ext hg0.ext w hm) (R_ext hg1.ext w hm) (R_ext hg2.ext w hm) (by first | omega | (simp; done) | (simp [-List.getD_eq_getElem?_getD]; omega) | (simp at *; omega) | rfl)) rfl rfl) (Wt.plain rfl) ?_
      rintro _ _ ⟨_, _, ⟨rfl, rfl⟩, rfl, rfl⟩
      change (_ : List Blk → Prop) [_, _, _, _]
      refine T.eff (e_alloc ze38 rfl rfl rfl) (Wt.plain rfl) ?_
      rintro _ _ ⟨k12, rfl, rfl⟩
      change (_ : List Blk → Prop) [_, _, _, _, _]
      refine T.eff (e_storeA (wide_ints wd38 (by first | omega | (simp; done) | (simp [-List.getD_eq_getElem?_getD]; omega) | (simp at *; omega) | rfl)) 4 rfl rfl rfl rfl (by first | omega | (simp; done) | (simp [-List.getD_eq_getElem?_getD]; omega) | (simp at *; omega) | rfl) ints_one rfl) (Wt.plain rfl) ?_
      rintro _ _ ⟨rfl, rfl⟩
      change (_ : List Blk → Prop) [_, _, _, _, _]
      refine T.end ?_
      refine W.drop [true, false, true, false, true] [4, 6, 9] rfl ?_
      change (_ : List Blk → Prop) [_, _, _]
      refine W.seq ?_
      refine W.draw 4 (by kernel_rfl) ?_
      refine D.take 0 rfl (by kernel_rfl) (fun _ h => h) (q_slAll ar311 rfl rfl) (Wt.plain rfl) rfl rfl ?_
      refine D.take 1 rfl (by kernel_rfl) (fun _ h => h) (q_slAll ar38 rfl rfl) (Wt.plain rfl) rfl rfl ?_
      refine D.one 2 (by kernel_rfl) ?_
      refine Up.eff rfl (e_appendF sc22 ze5 rfl .u8 (kx 92 key) (hashS (kx 54 key ++ b)) (R_blk 1 rfl) (R_blk 2 rfl) rfl rfl rfl (by first | omega | (simp; done) | (simp [-List.getD_eq_getElem?_getD]; omega) | (simp at *; omega) | rfl) (by first | omega | (simp; done) | (simp [-List.getD_eq_getElem?_getD]; omega) | (simp at *; omega) | rfl) (by first | omega | (simp; done) | (simp [-List.getD_eq_getElem?_getD]; omega) | (simp at *; omega) | rfl) (by first | omega | (simp; done) | (simp [-List.getD_eq_getElem?_getD]; omega)) (by first | omega | (simp; done) | (simp [-List.getD_eq_getElem?_getD]; omega)) rfl rfl) (Wt.plain rfl) ?_
      rintro _ _ ⟨k13, cap14, junk15, hc16, hc17, rfl, rfl⟩
      refine ⟨fun _ => (S_sub (((((List.Sublist.slnil).cons _).cons_cons _).cons_cons _).cons_cons _)), ?_⟩
      change (_ : List Blk → Prop) [_, _, _, _]
      refine D.one 3 (by kernel_rfl) ?_
      refine Up.eff rfl (e_call enters154 rfl rfl (fun w hm => hash_at (kx 92 key ++ hashS (kx 54 key ++ b)) _ _ _ (by first | omega | (simp; done) | (simp; omega) | (simp at *; omega)) (by first | omega | (simp; done) | (simp; omega) | (simp at *; omega)) w ((hc17) w hm) (R_ext hg0.ext w hm) (R_ext hg1.ext w hm) (R_ext hg2.ext w hm) (by first | omega | (simp; done) | (simp [-List.getD_eq_getElem?_getD]; omega) | (simp at *; omega) | rfl)) rfl rfl) (Wt.plain rfl) ?_
      rintro _ _ ⟨_, _, ⟨rfl, rfl⟩, rfl, rfl⟩
      refine ⟨fun _ => (S_sub (((((List.Sublist.slnil).cons _).cons_cons _).cons_cons _).cons_cons _)), ?_⟩
      change (_ : List Blk → Prop) [_, _, _, _]
      refine D.one 4 (by kernel_rfl) ?_
      refine Up.eff rfl (e_storeA (wide_ints wd38 (by first | omega | (simp; done) | (simp [-List.getD_eq_getElem?_getD]; omega) | (simp at *; omega) | rfl)) 0 rfl rfl rfl rfl (by first | omega | (simp; done) | (simp [-List.getD_eq_getElem?_getD]; omega) | (simp at *; omega) | rfl) ints_one rfl) (Wt.plain rfl) ?_
      rintro _ _ ⟨rfl, rfl⟩
      refine ⟨fun h => absurd h (by decide), ?_⟩
      change (_ : List Blk → Prop) [_, _, _, _]
      refine D.done (by kernel_rfl) ?_
      refine Ex.next ?_
      refine W.drop [true, false, false, false] [4] rfl ?_
      change (_ : List Blk → Prop) [_]
      refine W.ret ?_
      refine Ex.outC [false] 0 rfl (by exact (wide_ints wd38 (by first | omega | (simp; done) | (simp [-List.getD_eq_getElem?_getD]; omega) | (simp at *; omega) | rfl))) rfl rfl ?_
      exact ⟨rfl, rfl⟩
  · replace hb4 := of_decide_eq_false hb4
    refine W.skip ?_
    refine Ex.next ?_
    refine W.keep [0, 1, 4, 5, 6] rfl ?_
    refine W.sr ?_
    refine T.q (q_slAll ar311 rfl rfl) (Wt.plain rfl) rfl rfl ?_
    refine T.q (q_move rfl rfl) (Wt.plain rfl) rfl rfl ?_
    refine T.eff (e_copyI sc22 1 (List.replicate 64 0) key (R_ext hK.ext) rfl rfl rfl rfl (by first | omega | (simp; done) | (simp [-List.getD_eq_getElem?_getD]; omega) | (simp at *; omega) | rfl) (by first | omega | (simp; done) | (simp [-List.getD_eq_getElem?_getD]; omega)) (by first | omega | (simp; done) | (simp [-List.getD_eq_getElem?_getD]; omega)) rfl rfl) (Wt.plain rfl) ?_
    rintro _ _ ⟨rfl, rfl⟩
    change (_ : List Blk → Prop) [_, _, _]
    conv => rhs; rw [kpd_short (by omega)]
    refine T.fin [1, 4, 5, 6] rfl ?_
    refine W.sr ?_
    refine T.q (q_loadW (wide_ints wd311 (by first | omega | (simp; done) | (simp [-List.getD_eq_getElem?_getD]; omega) | (simp at *; omega) | rfl)) (R_blk 1 rfl) rfl rfl) (Wt.plain rfl) rfl rfl ?_
    refine T.eff (e_storeA (wide_ints wd311 (by first | omega | (simp; done) | (simp [-List.getD_eq_getElem?_getD]; omega) | (simp at *; omega) | rfl)) 2 rfl rfl rfl rfl (by first | omega | (simp; done) | (simp [-List.getD_eq_getElem?_getD]; omega) | (simp at *; omega) | rfl) ints_one rfl) (Wt.plain rfl) ?_
    rintro _ _ ⟨rfl, rfl⟩
    change (_ : List Blk → Prop) [_, _, _]
    refine T.fin [1, 4, 5, 6] rfl ?_
    refine W.seq ?_
    refine W.go ttok [] [1, 4, 5, 6, 20] rfl trivial rfl rfl ?_
    refine W.block ?_
    refine W.loop (α := Nat) (fun i => [(1, .slice BA b.length bc), (4, .pointer (some ⟨k1, 0, none⟩)), (5, .pointer (some ⟨k2, 0, none⟩)), (6, .pointer (some ⟨k3, 0, none⟩)), (20, .int .i64 ((i : Nat) : Int))]) (fun i => [⟨some k1, ints .u8 (List.replicate 32 0), 38, (0, 0)⟩, ⟨some k2, ints .u8 (fillAt (fun q => q) (kxf 54 key) i (kpd key)), 311, (0, 0)⟩, ⟨some k3, ints .u8 (fillAt (fun q => q) (kxf 92 key) i (kpd key)), 311, (0, 0)⟩]) (fun i => i ≤ 64) (fun i => 64 - i) [true, true, true] 0 (by omega) ⟨rfl, rfl, rfl, rfl, rfl, trivial⟩ rfl ?_
    rintro i hi
    refine W.go ttok [] [1, 4, 5, 6, 20, 21] rfl trivial rfl rfl ?_
    refine W.seq ?_
    refine W.cond _ rfl (fun hb18 => ?_) (fun hb18 => ?_)
    · replace hb18 := of_decide_eq_true hb18
      refine W.skip ?_
      refine Ex.next ?_
      refine W.keep [1, 4, 5, 6, 20] rfl ?_
      refine W.seq ?_
      refine W.block ?_
      refine W.go ttok [] [1, 4, 5, 6, 8, 20] rfl trivial rfl rfl ?_
      refine W.sr ?_
      refine T.q (q_move rfl rfl) (Wt.plain rfl) rfl rfl ?_
      refine T.q (q_ixA0 ar311 i rfl rfl rfl (by omega) (by omega)) (Wt.plain rfl) rfl rfl ?_
      refine T.q (q_int (b := (kpd key).getD i 0) (q_loadI ss5 1 rfl rfl rfl (by first | omega | (simp; done) | (simp [-List.getD_eq_getElem?_getD]; omega))) (fillAt_ahead _ _ i i (Nat.le_refl i))) (Wt.plain rfl) rfl rfl ?_
      refine T.q (q_xor rfl rfl rfl) (Wt.plain rfl) rfl rfl ?_
      refine T.q (q_ixA0 ar311 i rfl rfl rfl (by omega) (by omega)) (Wt.plain rfl) rfl rfl ?_
      refine T.eff (e_storeI ss5 1 rfl rfl rfl rfl (by first | omega | (simp; done) | (simp [-List.getD_eq_getElem?_getD]; omega)) rfl) (Wt.plain rfl) ?_
      rintro _ _ ⟨rfl, rfl⟩
      change (_ : List Blk → Prop) [_, _, _]
      refine T.fin [1, 4, 5, 6, 8, 20] rfl ?_
      refine W.region ?_
      refine T.q (q_move rfl rfl) (Wt.plain rfl) rfl rfl ?_
      refine T.q (q_ixA0 ar311 i rfl rfl rfl (by omega) (by omega)) (Wt.plain rfl) rfl rfl ?_
      refine T.q (q_int (b := (kpd key).getD i 0) (q_loadI ss5 2 rfl rfl rfl (by first | omega | (simp; done) | (simp [-List.getD_eq_getElem?_getD]; omega))) (fillAt_ahead _ _ i i (Nat.le_refl i))) (Wt.plain rfl) rfl rfl ?_
      refine T.q (q_xor rfl rfl rfl) (Wt.plain rfl) rfl rfl ?_
      refine T.q (q_ixA0 ar311 i rfl rfl rfl (by omega) (by omega)) (Wt.plain rfl) rfl rfl ?_
      refine T.eff (e_storeI ss5 2 rfl rfl rfl rfl (by first | omega | (simp; done) | (simp [-List.getD_eq_getElem?_getD]; omega)) rfl) (Wt.plain rfl) ?_
      rintro _ _ ⟨rfl, rfl⟩
      change (_ : List Blk → Prop) [_, _, _]
      refine T.nil ?_
      refine Ex.in_normal ?_
      refine Ex.next ?_
      refine W.keep [1, 4, 5, 6, 20] rfl ?_
      refine W.region ?_
      refine T.run ttok 2 [] rfl ⟨⟨(by omega), (by omega)⟩, trivial⟩ rfl ?_
      refine T.nil ?_
      exact Ex.again [true, true, true] (i + 1) (by omega) (by omega) ⟨rfl, rfl, rfl, rfl, rfl, trivial⟩ rfl
    · replace hb18 := of_decide_eq_false hb18
      obtain rfl : i = 64 := by omega
      conv => rhs; rw [kx_fill 54 key, kx_fill 92 key]
      refine W.exit ?_
      refine Ex.then_exit ?_
      refine Ex.then_exit ?_
      refine Ex.in_here ?_
      refine Ex.next ?_
      refine W.keep [1, 4, 5, 6] rfl ?_
      refine W.sr ?_
      refine T.q (q_slAll ar311 rfl rfl) (Wt.plain rfl) rfl rfl ?_
      refine T.q (q_move rfl rfl) (Wt.plain rfl) rfl rfl ?_
      refine T.eff (e_appendF sc22 ze5 rfl .u8 (kx 54 key) b (R_blk 1 rfl) (R_ext hB.ext) rfl rfl rfl (by first | omega | (simp; done) | (simp [-List.getD_eq_getElem?_getD]; omega) | (simp at *; omega) | rfl) (by first | omega | (simp; done) | (simp [-List.getD_eq_getElem?_getD]; omega) | (simp at *; omega) | rfl) (by first | omega | (simp; done) | (simp [-List.getD_eq_getElem?_getD]; omega) | (simp at *; omega) | rfl) (by first | omega | (simp; done) | (simp [-List.getD_eq_getElem?_getD]; omega)) (by first | omega | (simp; done) | (simp [-List.getD_eq_getElem?_getD]; omega)) rfl rfl) (Wt.plain rfl) ?_
      rintro _ _ ⟨k19, cap20, junk21, hc22, hc23, rfl, rfl⟩
      change (_ : List Blk → Prop) [_, _, _, _]
      refine T.eff (e_call enters154 rfl rfl (fun w hm => hash_at (kx 54 key ++ b) _ _ _ (by first | omega | (simp; done) | (simp; omega) | (simp at *; omega)) (by first | omega | (simp; done) | (simp; omega) | (simp at *; omega)) w ((hc23) w hm) (R_ext hg0.ext w hm) (R_ext hg1.ext w hm) (R_ext hg2.ext w hm) (by first | omega | (simp; done) | (simp [-List.getD_eq_getElem?_getD]; omega) | (simp at *; omega) | rfl)) rfl rfl) (Wt.plain rfl) ?_
      rintro _ _ ⟨_, _, ⟨rfl, rfl⟩, rfl, rfl⟩
      change (_ : List Blk → Prop) [_, _, _, _]
      refine T.eff (e_alloc ze38 rfl rfl rfl) (Wt.plain rfl) ?_
      rintro _ _ ⟨k24, rfl, rfl⟩
      change (_ : List Blk → Prop) [_, _, _, _, _]
      refine T.eff (e_storeA (wide_ints wd38 (by first | omega | (simp; done) | (simp [-List.getD_eq_getElem?_getD]; omega) | (simp at *; omega) | rfl)) 4 rfl rfl rfl rfl (by first | omega | (simp; done) | (simp [-List.getD_eq_getElem?_getD]; omega) | (simp at *; omega) | rfl) ints_one rfl) (Wt.plain rfl) ?_
      rintro _ _ ⟨rfl, rfl⟩
      change (_ : List Blk → Prop) [_, _, _, _, _]
      refine T.end ?_
      refine W.drop [true, false, true, false, true] [4, 6, 9] rfl ?_
      change (_ : List Blk → Prop) [_, _, _]
      refine W.seq ?_
      refine W.draw 4 (by kernel_rfl) ?_
      refine D.take 0 rfl (by kernel_rfl) (fun _ h => h) (q_slAll ar311 rfl rfl) (Wt.plain rfl) rfl rfl ?_
      refine D.take 1 rfl (by kernel_rfl) (fun _ h => h) (q_slAll ar38 rfl rfl) (Wt.plain rfl) rfl rfl ?_
      refine D.one 2 (by kernel_rfl) ?_
      refine Up.eff rfl (e_appendF sc22 ze5 rfl .u8 (kx 92 key) (hashS (kx 54 key ++ b)) (R_blk 1 rfl) (R_blk 2 rfl) rfl rfl rfl (by first | omega | (simp; done) | (simp [-List.getD_eq_getElem?_getD]; omega) | (simp at *; omega) | rfl) (by first | omega | (simp; done) | (simp [-List.getD_eq_getElem?_getD]; omega) | (simp at *; omega) | rfl) (by first | omega | (simp; done) | (simp [-List.getD_eq_getElem?_getD]; omega) | (simp at *; omega) | rfl) (by first | omega | (simp; done) | (simp [-List.getD_eq_getElem?_getD]; omega)) (by first | omega | (simp; done) | (simp [-List.getD_eq_getElem?_getD]; omega)) rfl rfl) (Wt.plain rfl) ?_
      rintro _ _ ⟨k25, cap26, junk27, hc28, hc29, rfl, rfl⟩
      refine ⟨fun _ => (S_sub (((((List.Sublist.slnil).cons _).cons_cons _).cons_cons _).cons_cons _)), ?_⟩
      change (_ : List Blk → Prop) [_, _, _, _]
      refine D.one 3 (by kernel_rfl) ?_
      refine Up.eff rfl (e_call enters154 rfl rfl (fun w hm => hash_at (kx 92 key ++ hashS (kx 54 key ++ b)) _ _ _ (by first | omega | (simp; done) | (simp; omega) | (simp at *; omega)) (by first | omega | (simp; done) | (simp; omega) | (simp at *; omega)) w ((hc29) w hm) (R_ext hg0.ext w hm) (R_ext hg1.ext w hm) (R_ext hg2.ext w hm) (by first | omega | (simp; done) | (simp [-List.getD_eq_getElem?_getD]; omega) | (simp at *; omega) | rfl)) rfl rfl) (Wt.plain rfl) ?_
      rintro _ _ ⟨_, _, ⟨rfl, rfl⟩, rfl, rfl⟩
      refine ⟨fun _ => (S_sub (((((List.Sublist.slnil).cons _).cons_cons _).cons_cons _).cons_cons _)), ?_⟩
      change (_ : List Blk → Prop) [_, _, _, _]
      refine D.one 4 (by kernel_rfl) ?_
      refine Up.eff rfl (e_storeA (wide_ints wd38 (by first | omega | (simp; done) | (simp [-List.getD_eq_getElem?_getD]; omega) | (simp at *; omega) | rfl)) 0 rfl rfl rfl rfl (by first | omega | (simp; done) | (simp [-List.getD_eq_getElem?_getD]; omega) | (simp at *; omega) | rfl) ints_one rfl) (Wt.plain rfl) ?_
      rintro _ _ ⟨rfl, rfl⟩
      refine ⟨fun h => absurd h (by decide), ?_⟩
      change (_ : List Blk → Prop) [_, _, _, _]
      refine D.done (by kernel_rfl) ?_
      refine Ex.next ?_
      refine W.drop [true, false, false, false] [4] rfl ?_
      change (_ : List Blk → Prop) [_]
      refine W.ret ?_
      refine Ex.outC [false] 0 rfl (by exact (wide_ints wd38 (by first | omega | (simp; done) | (simp [-List.getD_eq_getElem?_getD]; omega) | (simp at *; omega) | rfl))) rfl rfl ?_
      exact ⟨rfl, rfl⟩
end Go.Proofs.YtpklnjegimchoaaGreatDoor
namespace Go.Proofs.YtpklnjegimchoaaGreatDoor
open Go Go.X
theorem mac_at (key b : List Int) (KA BA : Option Addr) (kc bc : Nat) {n m : Nat} (hkc : n ≤ kc) (hbc : m ≤ bc) (hkb : n ≤ 140737488355000) (hbl : m ≤ 140737488354900) (w0 : World) (hK : Reads w0 KA (ints .u8 key)) (hB : Reads w0 BA (ints .u8 b)) (hg0 : Reads w0 (some ⟨3, 0, none⟩) (ints .u32 startW)) (hg1 : Reads w0 (some ⟨8, 0, none⟩) (ints .u8 sgm)) (hg2 : Reads w0 (some ⟨9, 0, none⟩) (ints .u8 tbl)) (hn : key.length = n) (hm : b.length = m) :
    Does Tryz.prog 274 #[.slice KA n kc, .slice BA m bc] w0 [] (fun v G => v = .agg (ints .u8 (macS key b)).toArray ∧ G = []) := by
  subst hn hm
  exact mac_spec key b KA BA kc bc hkc hbc hkb hbl w0 hK hB hg0 hg1 hg2
end Go.Proofs.YtpklnjegimchoaaGreatDoor
