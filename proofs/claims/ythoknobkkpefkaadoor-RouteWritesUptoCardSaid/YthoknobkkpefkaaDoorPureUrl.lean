/- The program's url, as the plain urlP. -/
import Derived.Test.YthoknobkkpefkaaDoorUrlSpec
import Derived.Test.YthoknobkkpefkaaDoorGiveUrl
namespace Go.Proofs.YthoknobkkpefkaaDoor.PAll
set_option linter.unusedVariables false
set_option linter.unusedSimpArgs false
open Go.RowKit Go.Proofs.YthoknobkkpefkaaDoorW.PrintWords Base

theorem lit_http : (⟨#[104, 116, 116, 112, 58, 47, 47]⟩ : ByteArray) = bl httpL := rfl
theorem cutPrefix_f (l p : List UInt8) : strings_CutPrefix.f (bl l) (bl p) = some (if p <+: l then (bl (l.drop p.length), true) else (bl l, false)) := by
  have h := hasPrefix_f (bl l) (bl p)
  simp only [strings_HasPrefix.f] at h
  have h' : stringslite_HasPrefix.f (bl l) (bl p) = some (decide (p <+: l)) := by
    cases hx : stringslite_HasPrefix.f (bl l) (bl p) with
    | none => rw [hx] at h; cases h
    | some b =>
      rw [hx, Option.bind_some] at h
      rw [Option.some.inj h]
      congr 1
  simp only [strings_CutPrefix.f, stringslite_CutPrefix.f]
  rw [h']
  simp only [Option.bind_some, bl_size]
  by_cases hp : p <+: l
  · have := hp.length_le
    rw [decide_eq_true hp, if_pos rfl, if_pos (by omega), if_pos (by omega), if_pos hp]
    simp only [Option.bind_some, Int.toNat_natCast]
    rw [bl_extract, List.take_of_length_le (by rw [List.length_drop]; omega)]
  · rw [decide_eq_false hp, if_neg (by decide), if_neg hp]
    rfl

theorem url_j2 (h q : List UInt8) (n : Int) (k : Nat) (hh : h.length ≤ 256) (hq : q.length ≤ 256) (hk : 500 < k) :
    PUrl.route_url.j2 (k + 1) (bl h) 6 (bl []) (bl h) n (bl q) = some (urlR (if lettersB (okL [45, 46]) h && pathB q then some (h, n, q) else none)) := by
  have e1 := letters_f (bl h) ⟨#[45, 46]⟩ (by rw [bl_size]; omega) k (by rw [bl_size]; omega)
  have e2 := path_f (bl q) (by rw [bl_size]; omega) k (by rw [bl_size]; omega)
  rw [bl_data] at e1 e2
  have e3 : (⟨#[45, 46]⟩ : ByteArray).data.toList = [45, 46] := rfl
  rw [e3] at e1
  simp only [PUrl.route_url.j2, PUrl.route_letters.f, PUrl.route_path.f]
  rw [e1, Option.bind_some]
  cases lettersB (okL [45, 46]) h
  · rfl
  · rw [if_pos rfl, e2, Option.bind_some]
    cases pathB q
    · rfl
    · rfl

theorem url_j1 (s q : List UInt8) (k : Nat) (hs : s.length ≤ 256) (hq : q.length ≤ 256) (hk : 600 < k) :
    PUrl.route_url.j1 (k + 1) (bl s) 6 (bl []) (bl []) 80 (bl q) =
      some (urlR (match portP (s.dropWhile (neB 58)) with | none => none | some n => if lettersB (okL [45, 46]) (s.takeWhile (neB 58)) && pathB q then some (s.takeWhile (neB 58), n, q) else none)) := by
  obtain ⟨k, rfl⟩ : ∃ m, k = m + 1 := ⟨k - 1, by omega⟩
  have hsum := congrArg List.length (List.takeWhile_append_dropWhile (p := neB 58) (l := s))
  rw [List.length_append] at hsum
  have ec : strings_Cut.f (bl s) (⟨#[58]⟩ : ByteArray) = some (bl (s.takeWhile (neB 58)), bl (s.dropWhile (neB 58)).tail, decide (s.dropWhile (neB 58) ≠ [])) := by
    unfold strings_Cut.f
    rw [if_pos (by rw [bl_size]; omega), bl_data, show (⟨#[58]⟩ : ByteArray).data.toList = [58] from rfl, cut_part]
    rfl
  simp only [PUrl.route_url.j1]
  rw [ec]
  generalize hH : s.takeWhile (neB 58) = H at *
  generalize hR : s.dropWhile (neB 58) = R at *
  simp only [Option.bind_some]
  have hj := fun n => url_j2 H q n k (by omega) hq (by omega)
  unfold portP
  by_cases h0 : R = []
  · subst h0
    rw [if_neg (by simp), if_pos rfl, hj]
  · rw [if_pos (by simpa using h0), if_neg h0]
    have hlen : R.tail.length ≤ 256 := by rw [List.length_tail]; omega
    generalize R.tail = p at *
    simp only [PUrl.strconv_Atoi.f]
    rw [if_pos (by rw [bl_size]; omega), bl_data]
    by_cases hp : portOk p
    · obtain ⟨a1, a2, a3⟩ := atoi_port p hp
      have a4 : valN p ≤ 65535 := hp.2.2.2
      rw [a1, if_pos hp]
      simp only [Option.bind_some, Option.isNone_none, if_true]
      unfold strconv_Itoa.f
      rw [if_pos (by omega), a2, Option.bind_some, if_pos (by rw [bl_toList]; exact toList_data _), if_neg (by omega), if_neg (by omega), hj]
    · rw [if_neg hp]
      cases hA : Lib.atoiAll p
      · rename_i v
        simp only [Option.bind_some, Option.isNone_none, if_true]
        unfold strconv_Itoa.f
        by_cases hb : -9223372036854775808 ≤ v ∧ v ≤ 9223372036854775807
        · rw [if_pos hb, Option.bind_some]
          by_cases he : (⟨(Lib.itoa v).toArray⟩ : ByteArray).toList = (bl p).toList
          · rw [if_pos he]
            by_cases h1 : v < 1
            · rw [if_pos h1]; rfl
            · rw [if_neg h1]
              by_cases h2 : v > 65535
              · rw [if_pos h2]; rfl
              · exfalso
                rw [bl_toList, toList_data] at he
                exact hp (port_of p v he (by omega) (by omega)).1
          · rw [if_neg he]; rfl
        · exfalso
          exact hb (atoi_range p v hA)
      · rfl
      · rfl

theorem url_f (l : List UInt8) (hl : l.length ≤ 9223372036854775807) : route_url.f (bl l) = some (urlR (urlP l)) := by
  unfold route_url.f PUrl.route_url.f
  rw [lit_http, cutPrefix_f, Option.bind_some, bl_size]
  unfold urlP
  by_cases hp : httpL <+: l
  · rw [if_pos hp, if_pos rfl]
    by_cases h256 : l.length ≤ 256
    · rw [if_pos ⟨hp, h256⟩]
      simp only [PUrl.route_url.j0]
      rw [if_neg (by simp; omega)]
      simp only [PUrl.strings_IndexByte.f, Option.bind_some, bl_data]
      rw [show (47 : Int).toNat.toUInt8 = 47 from rfl, show httpL.length = 7 from rfl]
      have hdl : (l.drop 7).length ≤ 256 := by rw [List.length_drop]; omega
      generalize l.drop 7 = s at *
      have hsum := congrArg List.length (List.takeWhile_append_dropWhile (p := neB 47) (l := s))
      rw [List.length_append] at hsum
      unfold tailP
      dsimp only
      by_cases hm : (47 : UInt8) ∈ s
      · rw [(indexByte_part s 47).1 hm, if_pos (by omega), if_pos (by omega), if_pos (by rw [bl_size]; omega), if_neg ((mem_part s 47).1 hm)]
        rw [bl_extract, bl_extract, Int.toNat_natCast, Nat.sub_zero, List.drop_zero, (take_part s _).1, (take_part s _).2, bl_size,
          List.take_of_length_le (by omega)]
        exact url_j1 _ _ 998 (by omega) (by omega) (by omega)
      · have hd : s.dropWhile (neB 47) = [] := by
          by_cases h : s.dropWhile (neB 47) = []
          · exact h
          · exact absurd ((mem_part s 47).2 h) hm
        rw [(indexByte_part s 47).2 hm, if_neg (by omega), if_pos hd, part_none s _ hd]
        exact url_j1 s [47] 998 (by omega) (by simp) (by omega)
    · rw [if_neg (fun h => h256 h.2)]
      simp only [PUrl.route_url.j0]
      rw [if_pos (by simp; omega)]
      rfl
  · rw [if_neg hp, if_neg (by simp), if_neg (fun h => hp h.1)]
    simp only [PUrl.route_url.j0]
    rw [if_pos trivial]
    rfl
end Go.Proofs.YthoknobkkpefkaaDoor.PAll
