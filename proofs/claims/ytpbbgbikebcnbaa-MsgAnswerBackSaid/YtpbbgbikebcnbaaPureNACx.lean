-- Cut by a program of this session (wip/shake.py) out of a text of this seat: what this claim doesn't reach is struck out. Lean checks it.
import Derived.Test.YtpbbgbikebcnbaaPureMICx
import Derived.Test.YtpbbgbikebcnbaaMsgAYCx
namespace Go.Proofs.Ytpbbgbikebcnbaa.MsgP
open Go.RowKit Go.Proofs.Ytpbbgbikebcnbaa.Ms Go.Proofs.Ytpbbgbikebcnbaa.Mw Go.Proofs.Ytpbbgbikebcnbaa.MsgL Go.Proofs.YtpbbgbikebcnbaaW.PrintWords Go.Proofs.YtpbbgbikebcnbaaW.PrintLast Go.Proofs.YtpbbgbikebcnbaaW.PrintMore
set_option linter.unusedVariables false
set_option linter.unusedSimpArgs false
theorem u64_lo (n : Int) : 0 ≤ IntKind.u64.wrap n ∧ IntKind.u64.wrap n < 18446744073709551616 := by
 have h : IntKind.u64.wrap n = n % 18446744073709551616 := by
  unfold IntKind.wrap
  rfl
 rw [h]; omega
def encZ (n : Int) : List Int := enc (IntKind.u64.wrap n).toNat
theorem encZ_len (n : Int) : (encZ n).length ≤ 10 := by
 have h := u64_lo n
 exact enc_len 9 _ (Nat.lt_of_lt_of_le (m := 18446744073709551616) (by omega) (by decide))
theorem encZ_nat {n : Nat} (h : n < 18446744073709551616) : encZ (n : Int) = enc n := by
 unfold encZ
 have : IntKind.u64.wrap (n : Int) = (n : Int) := by
  have h2 : IntKind.u64.wrap (n : Int) = (n : Int) % 18446744073709551616 := by
   unfold IntKind.wrap
   rfl
  rw [h2]; omega
 rw [this]
 rfl
theorem encZ_pos {n : Int} (h0 : 0 ≤ n) (h1 : n < 18446744073709551616) : encZ n = enc n.toNat := by
 have h : n = ((n.toNat : Nat) : Int) := by omega
 rw [h, encZ_nat (by omega)]
 rfl
theorem wnum (acc : List Int) (n : Int) (ha : acc.length ≤ 900000000) (k : Nat) (hk : 11 ≤ k) : wire_Num.f k acc (IntKind.u64.wrap n) = some (acc ++ encZ n) := by
 have h := u64_lo n
 have e : IntKind.u64.wrap n = (((IntKind.u64.wrap n).toNat : Nat) : Int) := by omega
 have := num_f acc (IntKind.u64.wrap n).toNat (by omega) (by omega) k (by omega)
 rw [← e] at this
 exact this
theorem numb1 (acc : List Int) (n : Int) (ha : acc.length ≤ 900000000) (k : Nat) (hk : 13 ≤ k) : msg_numbers.f k acc [n] = some (acc ++ encZ n) := by
 obtain ⟨k, rfl⟩ : ∃ k', k = k' + 2 := ⟨k - 2, by omega⟩
 unfold msg_numbers.f
 have w1 : wrap64 ((0 : Int) + 1) = 1 := wz' (by rfl) (by decide) (by decide)
 rw [msg_numbers.l0]
 simp only [List.length_singleton]
 rw [if_pos (by decide), if_pos (by decide), if_pos (by decide)]
 have r0 : rd [n] 0 = n := rd_get [n] 0 (by simp)
 rw [r0, wnum acc n ha (k + 1) (by omega), Option.bind_some, w1, msg_numbers.l0, if_neg (by decide)]
theorem numb2 (a b : Int) (k : Nat) (hk : 14 ≤ k) : msg_numbers.f k [] [a, b] = some (encZ a ++ encZ b) := by
 obtain ⟨k, rfl⟩ : ∃ k', k = k' + 3 := ⟨k - 3, by omega⟩
 unfold msg_numbers.f
 have w1 : wrap64 ((0 : Int) + 1) = 1 := wz' (by rfl) (by decide) (by decide)
 have w2 : wrap64 ((1 : Int) + 1) = 2 := wz' (by rfl) (by decide) (by decide)
 have r0 : rd [a, b] 0 = a := rd_get [a, b] 0 (by simp)
 have r1 : rd [a, b] 1 = b := rd_get [a, b] 1 (by simp)
 have hl := encZ_len a
 have hlen : (([a, b] : List Int).length : Int) = 2 := rfl
 rw [hlen, msg_numbers.l0, if_pos (by decide), if_pos (by decide), hlen, if_pos (by decide), r0, wnum [] a (by simp) (k + 2) (by omega), Option.bind_some, w1, List.nil_append, msg_numbers.l0, if_pos (by decide), if_pos (by decide), hlen, if_pos (by decide), r1, wnum (encZ a) b (by omega) (k + 1) (by omega), Option.bind_some, w2, msg_numbers.l0, if_neg (by decide)]
def listE (l : List ByteArray) : List Int := enc l.length ++ l.flatMap txt
def entryE (e : S58) : List Int := txt e.f0 ++ (encZ e.f1 ++ listE e.f2)
def ansE (a b : Int) (n ks : List ByteArray) (es : List S58) : List Int := encZ a ++ encZ b ++ listE n ++ listE ks ++ enc es.length ++ es.flatMap entryE
theorem wtxt (acc : List Int) (s : ByteArray) (ha : acc.length + (txt s).length ≤ 900000000) (k : Nat) (hk : 11 ≤ k) : wire_Text.f k acc s = some (acc ++ txt s) := by
 have hl : (bytesOf s).length = s.size := bytesOf_length s
 unfold txt at ha ⊢
 rw [List.length_append, hl] at ha
 rw [text_f acc s (by omega) (by omega) k (by omega), List.append_assoc]
theorem rdS_get (xs : List ByteArray) (i : Nat) (h : i < xs.length) : rdOf ByteArray.empty xs (i : Int) = xs[i] := by
 unfold rdOf
 rw [Int.toNat_natCast, List.getD_eq_getElem?_getD, List.getElem?_eq_getElem h]
 rfl
theorem list_l0 (l : List ByteArray) (hl : l.length ≤ 100000000) : ∀ (q k i : Nat) (acc : List Int), q = l.length - i → i ≤ l.length → acc.length + ((l.drop i).flatMap txt).length ≤ 900000000 → q + 12 ≤ k → msg_list.l0 k acc l l.length i = some (acc ++ (l.drop i).flatMap txt)
 | 0, k, i, acc, hq, hi, ha, hk => by
  obtain ⟨k, rfl⟩ : ∃ k', k = k' + 1 := ⟨k - 1, by omega⟩
  have : i = l.length := by omega
  subst this
  rw [msg_list.l0, if_neg (by omega), List.drop_length]
  simp
 | q + 1, k, i, acc, hq, hi, ha, hk => by
  obtain ⟨k, rfl⟩ : ∃ k', k = k' + 1 := ⟨k - 1, by omega⟩
  have hlt : i < l.length := by omega
  have hd : l.drop i = l[i] :: l.drop (i + 1) := List.drop_eq_getElem_cons hlt
  rw [hd, List.flatMap_cons, List.length_append] at ha
  rw [msg_list.l0, if_pos (by omega), if_pos (by omega), if_pos (by omega), rdS_get l i hlt, wtxt acc _ (by omega) k (by omega), Option.bind_some, wz' (z := (i : Int) + 1) (y := ((i + 1 : Nat) : Int)) (by omega) (by omega) (by omega)]
  rw [list_l0 l hl q k (i + 1) _ (by omega) (by omega) (by rw [List.length_append]; omega) (by omega), hd, List.flatMap_cons, List.append_assoc]
theorem len_enc {n : Nat} (h : n ≤ 100000000) : (enc n).length ≤ 10 := enc_len 9 n (Nat.lt_of_le_of_lt h (by decide))
theorem list_f (l : List ByteArray) (hl : l.length ≤ 100000000) (acc : List Int) (ha : acc.length + (listE l).length ≤ 900000000) (k : Nat) (hk : l.length + 30 ≤ k) : msg_list.f k acc l = some (acc ++ listE l) := by
 unfold listE at ha ⊢
 rw [List.length_append] at ha
 unfold msg_list.f
 rw [numb1 acc _ (by omega) k (by omega), Option.bind_some, encZ_nat (by omega)]
 have := list_l0 l hl l.length k 0 (acc ++ enc l.length) (by omega) (by omega) (by rw [List.length_append, List.drop_zero]; omega) (by omega)
 rw [List.drop_zero, List.append_assoc] at this
 exact this
theorem rdE_get (xs : List S58) (i : Nat) (h : i < xs.length) : rd_T58 xs (i : Int) = xs[i] := by
 unfold rd_T58
 rw [Int.toNat_natCast, List.getD_eq_getElem?_getD, List.getElem?_eq_getElem h]
 rfl
theorem written_l0 (l : List S58) (hl : l.length ≤ 100000000) (M : Nat) (hM : ∀ e ∈ l, e.f2.length ≤ M) (hM2 : M ≤ 100000000) : ∀ (q k i : Nat) (acc : List Int), q = l.length - i → i ≤ l.length → acc.length + ((l.drop i).flatMap entryE).length ≤ 900000000 → q + M + 40 ≤ k → msg_written.l0 k acc l l.length i = some (acc ++ (l.drop i).flatMap entryE)
 | 0, k, i, acc, hq, hi, ha, hk => by
  obtain ⟨k, rfl⟩ : ∃ k', k = k' + 1 := ⟨k - 1, by omega⟩
  have : i = l.length := by omega
  subst this
  rw [msg_written.l0, if_neg (by omega), List.drop_length]
  simp
 | q + 1, k, i, acc, hq, hi, ha, hk => by
  obtain ⟨k, rfl⟩ : ∃ k', k = k' + 1 := ⟨k - 1, by omega⟩
  have hlt : i < l.length := by omega
  have hd : l.drop i = l[i] :: l.drop (i + 1) := List.drop_eq_getElem_cons hlt
  have hm := hM _ (List.getElem_mem hlt)
  have he : (entryE l[i]).length = (txt (l[i]).f0).length + ((encZ (l[i]).f1).length + (listE (l[i]).f2).length) := by unfold entryE; rw [List.length_append, List.length_append]
  rw [hd, List.flatMap_cons, List.length_append] at ha
  rw [msg_written.l0, if_pos (by omega), if_pos (by omega), if_pos (by omega), rdE_get l i hlt, wtxt acc _ (by omega) k (by omega), Option.bind_some, numb1 _ _ (by rw [List.length_append]; omega) k (by omega), Option.bind_some, list_f _ (by omega) _ (by rw [List.length_append, List.length_append]; omega) k (by omega), Option.bind_some, wz' (z := (i : Int) + 1) (y := ((i + 1 : Nat) : Int)) (by omega) (by omega) (by omega)]
  rw [written_l0 l hl M hM hM2 q k (i + 1) _ (by omega) (by omega) (by rw [List.length_append, List.length_append, List.length_append]; omega) (by omega), hd, List.flatMap_cons]
  unfold entryE
  simp only [List.append_assoc]
theorem written_f (a b : Int) (n ks : List ByteArray) (es : List S58) (M : Nat) (hn : n.length ≤ M) (hk' : ks.length ≤ M) (he : es.length ≤ M) (hM : ∀ e ∈ es, e.f2.length ≤ M) (hM2 : M ≤ 100000000) (ha : (ansE a b n ks es).length ≤ 900000000) (k : Nat) (hk : 2 * M + 50 ≤ k) : msg_written.f k a b n ks es = some (ansE a b n ks es) := by
 unfold ansE at ha ⊢
 rw [List.length_append, List.length_append, List.length_append, List.length_append, List.length_append] at ha
 unfold msg_written.f
 rw [numb2 a b k (by omega), Option.bind_some, list_f n (by omega) _ (by rw [List.length_append]; omega) k (by omega), Option.bind_some, list_f ks (by omega) _ (by rw [List.length_append, List.length_append]; omega) k (by omega), Option.bind_some, numb1 _ _ (by rw [List.length_append, List.length_append, List.length_append]; omega) k (by omega), Option.bind_some, encZ_nat (by omega)]
 have := written_l0 es (by omega) M hM hM2 es.length k 0 (encZ a ++ encZ b ++ listE n ++ listE ks ++ enc es.length) (by omega) (by omega) (by rw [List.drop_zero, List.length_append, List.length_append, List.length_append, List.length_append]; omega) (by omega)
 rw [List.drop_zero] at this
 exact this
theorem ansE7 : ansE 7 0 [] [] [] = [7, 0, 0, 0, 0] := by
 unfold ansE listE encZ
 have h7 : (IntKind.u64.wrap 7).toNat = 7 := rfl
 have h0 : (IntKind.u64.wrap 0).toNat = 0 := rfl
 rw [h7, h0, enc_small (by decide : 7 < 128), enc_small (by decide : 0 < 128)]
 simp [enc_small]
def putA (a b : Int) (n ks : List ByteArray) (es : List S58) : ByteArray := if fitsB a b n ks es = true ∧ (ansE a b n ks es).length ≤ 4096 then strOfNums (ansE a b n ks es) else ⟨#[7, 0, 0, 0, 0]⟩
theorem putans_f (a b : Int) (n ks : List ByteArray) (es : List S58) (M : Nat) (hn : n.length ≤ M) (hk' : ks.length ≤ M) (he : es.length ≤ M) (hM : ∀ e ∈ es, e.f2.length ≤ M) (hM2 : M ≤ 100000000) (ha : fitsB a b n ks es = true → (ansE a b n ks es).length ≤ 900000000) (k : Nat) (hk : 2 * M + 50 ≤ k) : msg_PutAnswer.f k a b n ks es = some (putA a b n ks es) := by
 have h7 : msg_written.f k 7 0 [] [] [] = some [7, 0, 0, 0, 0] := by
  rw [written_f 7 0 [] [] [] M (by simp) (by simp) (by simp) (by simp) hM2 (by rw [ansE7]; decide) k hk, ansE7]
 unfold msg_PutAnswer.f msg_fits.f putA
 rw [Option.bind_some]
 by_cases hf : fitsB a b n ks es = true
 ·rw [if_pos hf, written_f a b n ks es M hn hk' he hM hM2 (ha hf) k hk, Option.bind_some]
  by_cases hl : (ansE a b n ks es).length ≤ 4096
  ·rw [if_pos (by omega), if_pos ⟨hf, hl⟩]
  ·rw [if_neg (by omega), if_neg (fun h => hl h.2), h7]; rfl
 ·rw [if_neg hf, if_neg (fun h => hf h.1), h7]; rfl
end Go.Proofs.Ytpbbgbikebcnbaa.MsgP
