/- The contracts of Put, whatever the number. -/
import Derived.Test.YtepihchlfbdnjaaC
set_option linter.all false
namespace Go.Proofs.Ytepihchlfbdnjaa
open Go.RowKit Go.Hub Go.Vl

set_option maxHeartbeats 400000 in
theorem put_0 (n : Int) (w : World) (hs : szN n = 0) : Calls Try.prog 8 #[.int .i64 n] w (PutPost n w) := by
  have HS := hid hs
  clear hs
  go_enter Try.func8, Try.ntmps8
  go_wp2_with fail
  refine (size_any n _).mono ?_
  rw [HS.out]
  rintro e w1 ⟨rfl, rfl⟩
  go_wp2
  go_ret2
  exact ⟨Below.refl _ _, .inl ⟨HS.out, rfl⟩⟩
set_option maxHeartbeats 400000 in
theorem putR_0 (n : Int) (w : World) (hs : szN n = 0) : Calls Try.prog 9 #[.int .i64 n] w (PutPost n w) := by
  have HS := hid hs
  clear hs
  go_enter Try.func9, Try.ntmps9
  go_wp2_with fail
  refine (sizeR_any n _).mono ?_
  rw [HS.out]
  rintro e w1 ⟨rfl, rfl⟩
  go_wp2
  go_ret2
  exact ⟨Below.refl _ _, .inl ⟨HS.out, rfl⟩⟩
theorem put_any (n : Int) (w : World) : Calls Try.prog 8 #[.int .i64 n] w (PutPost n w) := by
  rcases szN_cases n with ⟨a, h⟩ | ⟨a, b, h⟩ | ⟨a, b, c, h⟩ | ⟨a, b, c, d, h⟩ | ⟨a, b, c, d, f, h⟩ | ⟨a, b, c, d, f, h⟩
  · exact put_0 n w h
  · exact put_0 n w h
  · exact put_1 n w h (by omega) (by omega)
  · exact put_2 n w h (by omega) (by omega)
  · exact put_3 n w h (by omega) (by omega)
  · exact put_4 n w h (by omega) (by omega)
theorem putR_any (n : Int) (w : World) : Calls Try.prog 9 #[.int .i64 n] w (PutPost n w) := by
  rcases szN_cases n with ⟨a, h⟩ | ⟨a, b, h⟩ | ⟨a, b, c, h⟩ | ⟨a, b, c, d, h⟩ | ⟨a, b, c, d, f, h⟩ | ⟨a, b, c, d, f, h⟩
  · exact putR_0 n w h
  · exact putR_0 n w h
  · exact putR_1 n w h (by omega) (by omega)
  · exact putR_2 n w h (by omega) (by omega)
  · exact putR_3 n w h (by omega) (by omega)
  · exact putR_4 n w h (by omega) (by omega)
end Go.Proofs.Ytepihchlfbdnjaa
