/- The program's Write, as the plain writeP; and that the statements' first question is answered. -/
import Derived.Test.YthoknobkkpefkaaDoorPureFind
import Derived.Test.YthoknobkkpefkaaDoorPAllx9
namespace Go.Proofs.YthoknobkkpefkaaDoor.PAll
set_option linter.unusedVariables false
set_option linter.unusedSimpArgs false
open Go.RowKit Go.Proofs.YthoknobkkpefkaaDoorW.PrintWords Base

theorem write_f (kind : Int) (id host : List UInt8) (port : Int) (path : List UInt8) (hp : -9223372036854775808 ≤ port ∧ port ≤ 9223372036854775807)
    (hl : id.length + host.length + path.length ≤ 17592186044416) (k : Nat) : route_Write.f (k + 1) kind (bl id) (bl host) port (bl path) = writeP kind id host port path := by
  have hi := itoa_len port hp
  unfold route_Write.f writeP writeS
  simp only [bl_size]
  by_cases h1 : kind = 1
  · subst h1
    rw [if_pos rfl, if_pos rfl, show (⟨#[]⟩ : ByteArray) = bl [] from rfl, find_f _ _ (by decide), Option.bind_some]; rfl
  · rw [if_neg h1, if_neg h1]
    by_cases h2 : kind = 2
    · subst h2
      rw [if_pos rfl, if_pos rfl, show (⟨#[35, 95, 105, 110, 116, 101, 114, 110, 97, 108]⟩ : ByteArray) = bl internalL from rfl, show (⟨#[]⟩ : ByteArray) = bl [] from rfl, find_f _ _ (by decide), Option.bind_some]; rfl
    · rw [if_neg h2, if_neg h2]
      by_cases h3 : kind = 3
      · subst h3
        rw [if_pos rfl, if_pos rfl, show (⟨#[35, 95, 112, 97, 114, 101, 110, 116]⟩ : ByteArray) = bl parentL from rfl, show (⟨#[]⟩ : ByteArray) = bl [] from rfl, find_f _ _ (by decide), Option.bind_some]; rfl
      · rw [if_neg h3, if_neg h3]
        by_cases h4 : kind = 4
        · subst h4
          rw [if_pos rfl, if_pos rfl, if_pos (by omega), show (⟨#[35, 95, 115, 99, 120, 109, 108, 95]⟩ : ByteArray) = bl sessL from rfl, show (⟨#[]⟩ : ByteArray) = bl [] from rfl, bl_append,
            find_f _ _ (by rw [List.length_append]; have : sessL.length = 8 := rfl; omega), Option.bind_some]; rfl
        · rw [if_neg h4, if_neg h4]
          by_cases h5 : kind = 5
          · subst h5
            rw [if_pos rfl, if_pos rfl, if_pos (by omega), show (⟨#[35, 95]⟩ : ByteArray) = bl invL from rfl, show (⟨#[]⟩ : ByteArray) = bl [] from rfl, bl_append,
              find_f _ _ (by rw [List.length_append]; have : invL.length = 2 := rfl; omega), Option.bind_some]; rfl
          · rw [if_neg h5, if_neg h5]
            by_cases h6 : kind = 6
            · subst h6
              have e7 : httpL.length = 7 := rfl
              rw [if_pos rfl, if_pos rfl, if_pos (by omega), lit_http, bl_append, show (⟨#[98, 97, 115, 105, 99, 104, 116, 116, 112]⟩ : ByteArray) = bl tBasic from rfl]
              unfold portS
              by_cases h80 : port = 80
              · rw [if_pos h80, if_pos h80, bl_size, if_pos (by rw [List.length_append]; omega), bl_append, List.append_nil,
                  find_f _ _ (by rw [List.length_append, List.length_append]; omega), Option.bind_some]; rfl
              · rw [if_neg h80, if_neg h80]
                unfold strconv_Itoa.f
                rw [if_pos hp, Option.bind_some, show (⟨(Lib.itoa port).toArray⟩ : ByteArray) = bl (Lib.itoa port) from rfl, show (⟨#[58]⟩ : ByteArray) = bl [58] from rfl, bl_append, bl_append, bl_append]
                simp only [bl_size, List.length_append, List.length_singleton]
                rw [if_pos (by omega), if_pos (by omega), if_pos (by omega), find_f _ _ (by simp only [List.length_append, List.length_singleton]; omega), Option.bind_some]; rfl
            · rw [if_neg h6, if_neg h6]; rfl

theorem awake_f (k : Nat) : pennantlaw16_awake.f (k + 1) = some true := by
  unfold pennantlaw16_awake.f
  rw [show (⟨#[35, 95, 115, 99, 120, 109, 108, 95, 115, 49]⟩ : ByteArray) = bl [35, 95, 115, 99, 120, 109, 108, 95, 115, 49] from rfl, show (⟨#[]⟩ : ByteArray) = bl [] from rfl,
    show (⟨#[104, 116, 116, 112, 58, 47, 47, 97, 46, 98, 58, 56, 48, 56, 48, 47, 115, 48]⟩ : ByteArray) = bl [104, 116, 116, 112, 58, 47, 47, 97, 46, 98, 58, 56, 48, 56, 48, 47, 115, 48] from rfl,
    show (⟨#[98, 97, 115, 105, 99, 104, 116, 116, 112]⟩ : ByteArray) = bl tBasic from rfl, show (⟨#[120]⟩ : ByteArray) = bl [120] from rfl, show (⟨#[111, 100, 100]⟩ : ByteArray) = bl [111, 100, 100] from rfl,
    find_f _ _ (by decide), find_f _ _ (by decide), find_f _ _ (by decide), find_f _ _ (by decide)]
  rw [show findP [35, 95, 115, 99, 120, 109, 108, 95, 115, 49] [] = ans 4 [115, 49] 0 from by rfl,
    show findP [104, 116, 116, 112, 58, 47, 47, 97, 46, 98, 58, 56, 48, 56, 48, 47, 115, 48] tBasic = (6, bl [], bl [97, 46, 98], 8080, bl [47, 115, 48], 0) from by rfl,
    show findP [120] [] = ans 0 [] 190 from by rfl, show findP [] [111, 100, 100] = ans 0 [] 1 from by rfl]
  simp only [Option.bind_some]
  rw [write_f 6 [] [97, 46, 98] 8080 [47, 115, 48] (by omega) (by decide)]
  have hi : Lib.itoa 8080 = [56, 48, 56, 48] := by
    have h := (atoi_port [56, 48, 56, 48] (by decide)).2.1
    exact h
  have hw : writeP 6 [] [97, 46, 98] 8080 [47, 115, 48] = some (bl [104, 116, 116, 112, 58, 47, 47, 97, 46, 98, 58, 56, 48, 56, 48, 47, 115, 48], 0) := by
    unfold writeP writeS
    simp only [show (6 : Int) ≠ 1 from by decide, show (6 : Int) ≠ 2 from by decide, show (6 : Int) ≠ 3 from by decide, show (6 : Int) ≠ 4 from by decide, show (6 : Int) ≠ 5 from by decide, if_false, if_true]
    unfold portS
    rw [if_neg (by decide), hi, show findP (httpL ++ [97, 46, 98] ++ [58, 56, 48, 56, 48] ++ [47, 115, 48]) (typS 6) = (6, bl [], bl [97, 46, 98], 8080, bl [47, 115, 48], 0) from by rfl]
    unfold checkW
    simp only [bl_toList]
    rfl
  have hs : route_Session.f (bl [120]) = some (bl [35, 95, 115, 99, 120, 109, 108, 95, 120]) := by
    unfold route_Session.f
    rw [bl_size, if_pos (by decide), show (⟨#[35, 95, 115, 99, 120, 109, 108, 95]⟩ : ByteArray) = bl sessL from rfl, bl_append]; rfl
  have hp : route_Page.f (⟨#[104]⟩ : ByteArray) (bl [120]) = some (bl [104, 116, 116, 112, 58, 47, 47, 104, 47, 120]) := by
    unfold route_Page.f
    rw [show (⟨#[104]⟩ : ByteArray) = bl [104] from rfl, lit_http, show (⟨#[47]⟩ : ByteArray) = bl [47] from rfl, bl_append, bl_append, bl_append]
    simp only [bl_size]
    rw [if_pos (by decide), if_pos (by decide), if_pos (by decide)]; rfl
  rw [hw, hs, hp]
  simp only [Option.bind_some, bl_toList, ans]
  rfl
end Go.Proofs.YthoknobkkpefkaaDoor.PAll
