/- The contract of hubbubseat.Packet, whole: some packet, small. -/
import Derived.Test.YtagcfmmbbcnkbaaPackE
import Derived.Test.YtagcfmmbbcnkbaaLight
set_option linter.all false
namespace Go.Proofs.Ytagcfmmbbcnkbaa
open Go.RowKit Go.Hub
theorem packet_any (B : Nat) (k a b c : Int) (x : List UInt8) (A : Option Addr) (cx : Nat) (w : World) (hk : 0 ≤ k ∧ k ≤ 255) (ha : 0 ≤ a ∧ a ≤ 255) (hb : 0 ≤ b ∧ b ≤ 255) (hc : 0 ≤ c ∧ c ≤ 255) (hx : Bs EP B w A x.length x) (hl : x.length ≤ 60) (hB : B ≤ w.heap.size) :
    Calls Try.prog 8 #[.int .u8 k, .int .u8 a, .int .u8 b, .int .u8 c, .slice A x.length cx] w (PkRet B w) := by
  have h : k % 15 = 0 ∨ k % 15 = 1 ∨ k % 15 = 2 ∨ k % 15 = 3 ∨ k % 15 = 4 ∨ k % 15 = 5 ∨ k % 15 = 6 ∨ k % 15 = 7 ∨ k % 15 = 8 ∨ k % 15 = 9 ∨ k % 15 = 10 ∨ k % 15 = 11 ∨ k % 15 = 12 ∨ k % 15 = 13 ∨ k % 15 = 14 := by omega
  rcases h with h | h | h | h | h | h | h | h | h | h | h | h | h | h | h
  · exact packet_msg B k a b c x A cx w (by omega) hk.1 hk.2 ha hb hc hx hl hB
  · exact packet_msg B k a b c x A cx w (by omega) hk.1 hk.2 ha hb hc hx hl hB
  · exact packet_msg B k a b c x A cx w (by omega) hk.1 hk.2 ha hb hc hx hl hB
  · exact packet_msg B k a b c x A cx w (by omega) hk.1 hk.2 ha hb hc hx hl hB
  · exact packet_sub B k a b c _ w (by omega) hk.1 hk.2 ha hb hc hB
  · exact packet_sub B k a b c _ w (by omega) hk.1 hk.2 ha hb hc hB
  · exact packet_sub B k a b c _ w (by omega) hk.1 hk.2 ha hb hc hB
  · exact packet_un B k a b c _ w h hk.1 hk.2 ha hb hc hB
  · exact packet_8 B k a b c _ w h hk.1 hk.2 hb.1 hb.2 hc.1 hc.2
  · exact packet_9 B k a b c _ w h hk.1 hk.2 hb.1 hb.2 hc.1 hc.2
  · exact packet_10 B k a b c _ w h hk.1 hk.2 hb.1 hb.2 hc.1 hc.2
  · exact packet_11 B k a b c _ w h hk.1 hk.2 hb.1 hb.2 hc.1 hc.2
  · exact packet_12 B k a b c _ w h hk.1 hk.2 hb.1 hb.2 hc.1 hc.2
  · exact packet_13 B k a b c x A cx w h hk.1 hk.2 ha hb hc hx hl hB
  · exact packet_14 B k a b c _ w h hk.1 hk.2 hb.1 hb.2 hc.1 hc.2
end Go.Proofs.Ytagcfmmbbcnkbaa
