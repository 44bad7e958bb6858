/- The statement JournalChecksUptoSaid of the given program is proved here: for every input whose bulk is at most the bound of its row, the law returns true and changes nothing. Part 5 of 6. -/
import Derived.KernelRfl
import Derived.Test.YtlfliofoiafbjaaV4
/- bitext/journal.number -/
namespace Go.Fn
open Go Go.Vs Go.Ve
set_option linter.unusedVariables false
def journal_number : Int → Option (Option (List Int)) :=
  fun n =>
    some
      (some
        [IntKind.u8.wrap (n.fdiv 16777216), IntKind.u8.wrap (n.fdiv 65536), IntKind.u8.wrap (n.fdiv 256),
          IntKind.u8.wrap n])
end Go.Fn
/- bitext/journal.sum -/
namespace Go.Fn
open Go Go.Vs Go.Ve
set_option linter.unusedVariables false
def journal_sum_l0 : Option (List Int) → Int × Int → Option (Int × Int ⊕ Int) :=
  fun b s1 =>
    if decide (s1.snd < lenI (b.getD [])) = true then
      if decide (0 ≤ s1.snd ∧ s1.snd < lenI (b.getD [])) = true then
        some
          (Sum.inl
            (IntKind.u32.wrap (xorI IntKind.u32 s1.fst (IntKind.u32.wrap ((b.getD []).getD s1.snd.toNat 0)) * 16777619),
              IntKind.i64.wrap (s1.snd + 1)))
      else none
    else some (Sum.inr s1.fst)
def journal_sum : Int → Option (List Int) → Option Int :=
  fun h b => callO (loopR (journal_sum_l0 b) (h, 0)) fun r1 => some r1
end Go.Fn
/- bitext/journal.sum -/
namespace Go.Fn
open Go Go.Vs Go.Ve
set_option linter.unusedVariables false
def journal_sum_o1_l0 : Option (List Int) → Int × Int → Option (Int × Int ⊕ Int) :=
  fun b s1 =>
    if decide (s1.snd < lenI (b.getD [])) = true then
      if (decide (0 ≤ s1.snd ∧ s1.snd < lenI (b.getD [])) && nlt (0 + s1.snd.toNat) (b.getD []).length) = true then
        some
          (Sum.inl
            (IntKind.u32.wrap
                (xorI IntKind.u32 s1.fst (IntKind.u32.wrap ((b.getD []).getD (0 + s1.snd.toNat) 0)) * 16777619),
              IntKind.i64.wrap (s1.snd + 1)))
      else none
    else some (Sum.inr s1.fst)
def journal_sum_o1 : Int → Option (List Int) → Option Int :=
  fun h b => callO (loopR (journal_sum_o1_l0 b) (h, 0)) fun r1 => some r1
end Go.Fn
/- slices.Grow[[]byte,byte] -/
namespace Go.Fn
open Go Go.Vs Go.Ve
set_option linter.unusedVariables false
def slices_Grow_byte : Int → Option (Option (List Int)) :=
  fun n =>
    if (!decide (n < 0)) = true then
      if
          (!decide (IntKind.i64.wrap (n - 0) > 0) ||
              true &&
                (decide (0 ≤ IntKind.i64.wrap (n - 0) ∧ IntKind.i64.wrap (n - 0) ≤ 68719476736) &&
                  (decide
                      ((0 : Int) ≤ 0 ∧ (0 : Int) ≤ 0 ∧ 0 ≤ lenI ((optL (List.replicate (IntKind.i64.wrap (n - 0)).toNat (0 : Int))).getD [])) &&
                    (Option.map (subL 0 0) (optL (List.replicate (IntKind.i64.wrap (n - 0)).toNat (0 : Int)))).isSome ==
                      (optL (List.replicate (IntKind.i64.wrap (n - 0)).toNat (0 : Int))).isSome))) =
            true then
        if
            ((if decide (IntKind.i64.wrap (n - 0) > 0) = true then
                    Option.map (subL 0 0) (optL (List.replicate (IntKind.i64.wrap (n - 0)).toNat (0 : Int)))
                  else none).isSome ==
                (if decide (IntKind.i64.wrap (n - 0) > 0) = true then
                    Option.map (subL 0 0) (optL (List.replicate (IntKind.i64.wrap (n - 0)).toNat (0 : Int)))
                  else none).isSome) =
              true then
          if
              ((if decide (IntKind.i64.wrap (n - 0) > 0) = true then
                      Option.map (subL 0 0) (optL (List.replicate (IntKind.i64.wrap (n - 0)).toNat (0 : Int)))
                    else none).isSome ==
                  (if decide (IntKind.i64.wrap (n - 0) > 0) = true then
                      Option.map (subL 0 0) (optL (List.replicate (IntKind.i64.wrap (n - 0)).toNat (0 : Int)))
                    else none).isSome) =
                true then
            some
              (if decide (IntKind.i64.wrap (n - 0) > 0) = true then
                Option.map (subL 0 0) (optL (List.replicate (IntKind.i64.wrap (n - 0)).toNat (0 : Int)))
              else none)
          else none
        else none
      else none
    else none
end Go.Fn
/- slices.Concat[[]byte,byte] -/
namespace Go.Fn
open Go Go.Vs Go.Ve
set_option linter.unusedVariables false
def slices_Concat_byte_l0 : Option (List (Option (List Int))) → Int × Int → Option (Int × Int ⊕ Int) :=
  fun slices s1 =>
    if decide (s1.snd < lenI (slices.getD [])) = true then
      if
          (decide (0 ≤ s1.snd ∧ s1.snd < lenI (slices.getD [])) &&
              !decide (IntKind.i64.wrap (s1.fst + lenI (((slices.getD []).getD s1.snd.toNat none).getD [])) < 0)) =
            true then
        some
          (Sum.inl
            (IntKind.i64.wrap (s1.fst + lenI (((slices.getD []).getD s1.snd.toNat none).getD [])),
              IntKind.i64.wrap (s1.snd + 1)))
      else none
    else some (Sum.inr s1.fst)
def slices_Concat_byte_l1 : Option (List (Option (List Int))) → Option (List Int) × Int → Option (Option (List Int) × Int ⊕ Option (List Int)) :=
  fun slices s1 =>
    if decide (s1.snd < lenI (slices.getD [])) = true then
      if
          (decide (0 ≤ s1.snd ∧ s1.snd < lenI (slices.getD [])) &&
              (decide (0 + (s1.fst.getD []).length = (s1.fst.getD []).length) &&
                (decide
                    ((s1.fst.getD []).length + (((slices.getD []).getD s1.snd.toNat none).getD []).length ≤
                      68719476736) &&
                  (s1.fst.isSome == s1.fst.isSome &&
                    (appL s1.fst (((slices.getD []).getD s1.snd.toNat none).getD [])).isSome ==
                      (appL s1.fst (((slices.getD []).getD s1.snd.toNat none).getD [])).isSome)))) =
            true then
        some (Sum.inl (appL s1.fst (((slices.getD []).getD s1.snd.toNat none).getD []), IntKind.i64.wrap (s1.snd + 1)))
      else none
    else some (Sum.inr s1.fst)
def slices_Concat_byte : Option (List (Option (List Int))) → Option (Option (List Int)) :=
  fun slices =>
    callO (loopR (slices_Concat_byte_l0 slices) (0, 0)) fun r1 =>
      callO (slices_Grow_byte r1) fun r2 =>
        if (r2.isSome == r2.isSome) = true then
          callO (loopR (slices_Concat_byte_l1 slices) (r2, 0)) fun r3 =>
            if (r3.isSome == r3.isSome) = true then if (r3.isSome == r3.isSome) = true then some r3 else none else none
        else none
end Go.Fn
/- bitext/journal.Append -/
namespace Go.Fn
open Go Go.Vs Go.Ve
set_option linter.unusedVariables false
def journal_Append : Option (List Int) → Option (List Int) → Option (Option (List Int) × Int) :=
  fun log payload =>
    if
        (decide (lenI (payload.getD []) > 65536) ||
            decide (IntKind.i64.wrap (IntKind.i64.wrap (lenI (log.getD []) + 8) + lenI (payload.getD [])) > 4194304)) =
          true then
      some (none, 3)
    else
      callO (journal_number (Int.ofNat ((payload.getD []).length % 4294967296))) fun r1 =>
        if (r1.isSome == r1.isSome) = true then
          if (r1.isSome == r1.isSome) = true then
            callO (journal_sum_o1 2166136261 r1) fun r2 =>
              callO (journal_sum r2 payload) fun r3 =>
                callO (journal_number r3) fun r4 =>
                  if (r4.isSome == r4.isSome) = true then
                    if (r1.isSome == r1.isSome) = true then
                      if (r4.isSome == r4.isSome) = true then
                        callO (slices_Concat_byte (some [log, r1, r4, payload])) fun r5 =>
                          if (r5.isSome == r5.isSome) = true then
                            if (r5.isSome == r5.isSome) = true then some (r5, 0) else none
                          else none
                      else none
                    else none
                  else none
          else none
        else none
end Go.Fn
/- bitext/journal.Checksum -/
namespace Go.Fn
open Go Go.Vs Go.Ve
set_option linter.unusedVariables false
def journal_Checksum : Option (List Int) → Option Int :=
  fun b => callO (journal_sum 2166136261 b) fun r1 => some (IntKind.i64.wrap r1)
end Go.Fn
/- bitext/journal.value -/
namespace Go.Fn
open Go Go.Vs Go.Ve
set_option linter.unusedVariables false
def journal_value_o0 : Option (List Int) → Option Int :=
  fun b =>
    if
        (decide ((0 : Int) ≤ 0 ∧ 0 < lenI (b.getD [])) &&
            (nlt 0 (b.getD []).length &&
              (true &&
                (decide ((0 : Int) ≤ 1 ∧ 1 < lenI (b.getD [])) &&
                  (nlt 1 (b.getD []).length &&
                    (true &&
                      (decide ((0 : Int) ≤ 2 ∧ 2 < lenI (b.getD [])) &&
                        (nlt 2 (b.getD []).length &&
                          (true && (decide ((0 : Int) ≤ 3 ∧ 3 < lenI (b.getD [])) && nlt 3 (b.getD []).length)))))))))) =
          true then
      some
        (Int.ofNat
          ((BitVec.ofInt 32
                  (orI IntKind.u32
                    (orI IntKind.u32 (IntKind.u32.wrap (IntKind.u32.wrap ((b.getD []).getD 0 0) * 16777216))
                      (IntKind.u32.wrap (IntKind.u32.wrap ((b.getD []).getD 1 0) * 65536)))
                    (IntKind.u32.wrap (IntKind.u32.wrap ((b.getD []).getD 2 0) * 256))) |||
                BitVec.ofInt 32 (IntKind.u32.wrap ((b.getD []).getD 3 0))).toNat %
            4294967296))
    else none
end Go.Fn
/- bitext/journal.first -/
namespace Go.Fn
open Go Go.Vs Go.Ve
set_option linter.unusedVariables false
def journal_first_o0 : Option (List Int) → Option Int :=
  fun log =>
    if decide (lenI (log.getD []) < 8) = true then some 0
    else
      if (log.isSome == log.isSome) = true then
        callO (journal_value_o0 log) fun r1 =>
          if
              (decide (IntKind.i64.wrap r1 > 65536) ||
                  decide (IntKind.i64.wrap r1 > IntKind.i64.wrap (lenI (log.getD []) - 8))) =
                true then
            some 0
          else
            if decide ((0 : Int) ≤ 0 ∧ (0 : Int) ≤ 4 ∧ 4 ≤ lenI (log.getD [])) = true then
              if ((Option.map (subL 0 4) log).isSome == log.isSome) = true then
                callO (journal_sum_o1 2166136261 (Option.map (subL 0 4) log)) fun r2 =>
                  if
                      decide
                          ((0 : Int) ≤ 8 ∧
                            8 ≤ IntKind.i64.wrap (8 + IntKind.i64.wrap r1) ∧
                              IntKind.i64.wrap (8 + IntKind.i64.wrap r1) ≤ lenI (log.getD [])) =
                        true then
                    if
                        ((Option.map (subL 8 (IntKind.i64.wrap (8 + IntKind.i64.wrap r1))) log).isSome == log.isSome) =
                          true then
                      callO (journal_sum_o1 r2 (Option.map (subL 8 (IntKind.i64.wrap (8 + IntKind.i64.wrap r1))) log))
                        fun r3 =>
                        if decide ((0 : Int) ≤ 4 ∧ 4 ≤ lenI (log.getD []) ∧ lenI (log.getD []) ≤ lenI (log.getD [])) = true then
                          if ((Option.map (subL 4 (lenI (log.getD []))) log).isSome == log.isSome) = true then
                            callO (journal_value_o0 (Option.map (subL 4 (lenI (log.getD []))) log)) fun r4 =>
                              if (r3 != r4) = true then some 0 else some (IntKind.i64.wrap (8 + IntKind.i64.wrap r1))
                          else none
                        else none
                    else none
                  else none
              else none
            else none
      else none
end Go.Fn
/- slices.Clone[[]byte,byte] -/
namespace Go.Fn
open Go Go.Vs Go.Ve
set_option linter.unusedVariables false
def slices_Clone_byte_o0 : Option (List Int) → Option (Option (List Int)) :=
  fun s =>
    if (!s.isSome) = true then some none
    else
      if (s.isSome == s.isSome && (true && decide (0 + (s.getD []).length ≤ 68719476736))) = true then
        some (some ([] ++ s.getD []))
      else none
end Go.Fn
/- bitext/journal.Read -/
namespace Go.Fn
open Go Go.Vs Go.Ve
set_option linter.unusedVariables false
def journal_Read_o0_l0 : Option (List Int) →
    Option (List (Option (List Int))) × Int →
      Option (Option (List (Option (List Int))) × Int ⊕ Option (List (Option (List Int))) × Int) :=
  fun log s1 =>
    if decide (0 ≤ s1.snd ∧ s1.snd ≤ lenI (log.getD []) ∧ lenI (log.getD []) ≤ lenI (log.getD [])) = true then
      if ((Option.map (subL s1.snd (lenI (log.getD []))) log).isSome == log.isSome) = true then
        callO (journal_first_o0 (Option.map (subL s1.snd (lenI (log.getD []))) log)) fun r1 =>
          if (r1 == 0) = true then
            if (s1.fst.isSome == s1.fst.isSome) = true then some (Sum.inr (s1.fst, s1.snd)) else none
          else
            if
                decide
                    (0 ≤ IntKind.i64.wrap (s1.snd + 8) ∧
                      IntKind.i64.wrap (s1.snd + 8) ≤ IntKind.i64.wrap (s1.snd + r1) ∧
                        IntKind.i64.wrap (s1.snd + r1) ≤ lenI (log.getD [])) =
                  true then
              if
                  ((Option.map (subL (IntKind.i64.wrap (s1.snd + 8)) (IntKind.i64.wrap (s1.snd + r1))) log).isSome ==
                      log.isSome) =
                    true then
                callO
                  (slices_Clone_byte_o0
                    (Option.map (subL (IntKind.i64.wrap (s1.snd + 8)) (IntKind.i64.wrap (s1.snd + r1))) log))
                  fun r2 =>
                  if
                      (r2.isSome == r2.isSome &&
                          (decide (0 + (s1.fst.getD []).length = (s1.fst.getD []).length) &&
                            (decide ((s1.fst.getD []).length + [r2].length ≤ 68719476736) &&
                              s1.fst.isSome == s1.fst.isSome))) =
                        true then
                    some (Sum.inl (some (s1.fst.getD [] ++ [r2]), IntKind.i64.wrap (s1.snd + r1)))
                  else none
              else none
            else none
      else none
    else none
def journal_Read_o0 : Option (List Int) → Option (Option (List (Option (List Int))) × Int) :=
  fun log =>
    callO (loopR (journal_Read_o0_l0 log) (none, 0)) fun r1 =>
      if (r1.fst.isSome == r1.fst.isSome) = true then some (r1.fst, r1.snd) else none
end Go.Fn
/- bitext/bitextlaw38.known -/
namespace Go.Fn
open Go Go.Vs Go.Ve
set_option linter.unusedVariables false
def bitextlaw38_known : Option Bool :=
  callO (journal_Append none none) fun r1 =>
    if (r1.fst.isSome == r1.fst.isSome && (r1.fst.isSome == r1.fst.isSome && r1.fst.isSome == r1.fst.isSome)) = true then
      if (lenI (r1.fst.getD []) != 8) = true then some false
      else
        if (r1.fst.isSome == r1.fst.isSome) = true then
          callO (journal_Read_o0 r1.fst) fun r2 =>
            if
                (r2.fst.isSome == r2.fst.isSome && (r2.fst.isSome == r2.fst.isSome && r2.fst.isSome == r2.fst.isSome)) =
                  true then
              if decide ((0 : Int) ≤ 0 ∧ (0 : Int) ≤ 7 ∧ 7 ≤ lenI (r1.fst.getD [])) = true then
                if ((Option.map (subL 0 7) r1.fst).isSome == r1.fst.isSome) = true then
                  callO (journal_Read_o0 (Option.map (subL 0 7) r1.fst)) fun r3 =>
                    if
                        (r3.fst.isSome == r3.fst.isSome &&
                            (r3.fst.isSome == r3.fst.isSome && r3.fst.isSome == r3.fst.isSome)) =
                          true then
                      if (r1.snd == 0) = true then
                        if (lenI (r1.fst.getD []) == 8) = true then
                          if (lenI (r2.fst.getD []) == 1) = true then
                            if (r2.snd == 8) = true then
                              if (lenI (r3.fst.getD []) == 0) = true then
                                if (r3.snd == 0) = true then
                                  callO (journal_Checksum none) fun r4 => some (r4 == 2166136261)
                                else some false
                              else some false
                            else some false
                          else some false
                        else some false
                      else some false
                    else none
                else none
              else none
            else none
        else none
    else none
end Go.Fn
/- bitext/bitextlaw38.many -/
namespace Go.Fn
open Go Go.Vs Go.Ve
set_option linter.unusedVariables false
def bitextlaw38_many_l0 : Option (List (Option (List Int))) → Int × Int → Option (Int × Int ⊕ Int) :=
  fun l s1 =>
    if decide (s1.snd < lenI (l.getD [])) = true then
      if decide (0 ≤ s1.snd ∧ s1.snd < lenI (l.getD [])) = true then
        some
          (Sum.inl
            (IntKind.i64.wrap (s1.fst + lenI (((l.getD []).getD s1.snd.toNat none).getD [])),
              IntKind.i64.wrap (s1.snd + 1)))
      else none
    else some (Sum.inr s1.fst)
def bitextlaw38_many : Option (List (Option (List Int))) → Option Bool :=
  fun l =>
    callO (loopR (bitextlaw38_many_l0 l) (0, 0)) fun r1 => some (decide (r1 > 3000) || decide (lenI (l.getD []) > 60))
end Go.Fn
/- bitext/bitextref36.Checksum -/
namespace Go.Fn
open Go Go.Vs Go.Ve
set_option linter.unusedVariables false
def bitextref36_Checksum_l0 : Option (List Int) → Int × Int → Option (Int × Int ⊕ Int) :=
  fun b s1 =>
    if decide (s1.snd < lenI (b.getD [])) = true then
      if (decide (0 ≤ s1.snd ∧ s1.snd < lenI (b.getD [])) && true) = true then
        some
          (Sum.inl
            ((IntKind.i64.wrap
                    (xorI IntKind.i64 s1.fst (IntKind.i64.wrap ((b.getD []).getD s1.snd.toNat 0)) * 16777619)).tmod
                4294967296,
              IntKind.i64.wrap (s1.snd + 1)))
      else none
    else some (Sum.inr s1.fst)
def bitextref36_Checksum : Option (List Int) → Option Int :=
  fun b => callO (loopR (bitextref36_Checksum_l0 b) (2166136261, 0)) fun r1 => some r1
end Go.Fn
/- bitext/bitextlaw38.JournalChecks -/
namespace Go.Fn
open Go Go.Vs Go.Ve
set_option linter.unusedVariables false
def bitextlaw38_JournalChecks : Option (List Int) → Option Bool :=
  fun b =>
    callO (bitextlaw38_many (some [b])) fun r1 =>
      if r1 = true then callO bitextlaw38_known fun r2 => some r2
      else
        callO (journal_Checksum b) fun r3 =>
          callO (bitextref36_Checksum b) fun r4 =>
            if (r3 == r4) = true then callO bitextlaw38_known fun r5 => some r5 else some false
end Go.Fn
/- bitext/bitextmake.Place -/
namespace Go.Fn
open Go Go.Vs Go.Ve
set_option linter.unusedVariables false
def bitextmake_Place : Int → Int → Option Int :=
  fun x n =>
    if decide (n ≠ 0) = true then
      some (if decide (x.tmod n < 0) = true then IntKind.i64.wrap (x.tmod n + n) else x.tmod n)
    else none
end Go.Fn
/- Plain laws: whole numbers of 64 bits, Place. -/
namespace Go.Fn
open Go Go.Vs Go.Ve
def In64 (n : Int) : Prop := -9223372036854775808 ≤ n ∧ n ≤ 9223372036854775807
theorem Wf_ints {o : Option (List Int)} (h : Wf (.sl (.int .i64)) o) : ∀ x ∈ o.getD [], In64 x := by
  cases o with
  | none => intro x hx; cases hx
  | some xs => exact h
theorem fdiv63 {n : Int} (h : In64 n) : n.fdiv 9223372036854775808 = if n < 0 then -1 else 0 := by
  rw [Int.fdiv_eq_ediv_of_nonneg _ (by decide)]
  unfold In64 at h
  split <;> omega
theorem wrap_u64 {n : Int} (h : In64 n) : IntKind.u64.wrap n = if n < 0 then n + 18446744073709551616 else n := by
  unfold In64 at h
  simp only [IntKind.wrap, IntKind.bits, IntKind.signed]
  simp
  split <;> omega
theorem place_eq {x n : Int} (hx : In64 x) (hn : 1 ≤ n) (hn2 : n ≤ 4611686018427387904) : bitextmake_Place x n = some (x % n) := by
  unfold In64 at hx
  unfold bitextmake_Place
  rw [if_pos (by simp; omega)]
  congr 1
  have h0 := Int.emod_nonneg x (show n ≠ 0 by omega)
  have h1 := Int.emod_lt_of_pos x (show 0 < n by omega)
  rcases Int.lt_or_le x 0 with h | h
  · have e : x.tmod n = if n ∣ x then 0 else x % n - n := by
      rw [Int.tmod_eq_emod]
      split <;> rename_i hd
      · rcases hd with hd | hd
        · omega
        · rw [if_pos hd]; have := Int.emod_eq_zero_of_dvd hd; omega
      · rw [if_neg (fun hd' => hd (.inr hd'))]
        omega
    rw [e]
    split <;> rename_i hd
    · simp [Int.emod_eq_zero_of_dvd hd]
    · rw [if_pos (by simp; omega), wrap_i64 (by omega) (by omega)]; omega
  · rw [Int.tmod_eq_emod_of_nonneg h, if_neg (by simp; omega)]
end Go.Fn
/- Plain laws of the journal: the checksum. -/
namespace Go.Fn
open Go Go.Vs Go.Ve
/-- a byte -/
def By (x : Int) : Prop := 0 ≤ x ∧ x ≤ 255
def Bys (o : Option (List Int)) : Prop := ∀ x ∈ o.getD [], By x
theorem Wf_bytes {o : Option (List Int)} (h : Wf (.sl (.int .u8)) o) : Bys o := by
  cases o with
  | none => intro x hx; cases hx
  | some xs =>
    intro x hx
    have := h x hx
    exact this
def fn1 (h x : Int) : Int := (((h.toNat ^^^ x.toNat) * 16777619 % 4294967296 : Nat) : Int)
theorem fn1_lo (h x : Int) : 0 ≤ fn1 h x := Int.natCast_nonneg _
theorem fn1_hi (h x : Int) : fn1 h x < 4294967296 := by unfold fn1; omega
theorem ofInt_toNat {w : Nat} {n : Int} (h0 : 0 ≤ n) (h1 : n.toNat < 2 ^ w) : (BitVec.ofInt w n).toNat = n.toNat := by
  obtain ⟨m, rfl⟩ := Int.eq_ofNat_of_zero_le h0
  rw [BitVec.ofInt_natCast]
  simp only [Int.toNat_natCast] at h1 ⊢
  exact Nat.mod_eq_of_lt h1
theorem wrap_u32 {n : Int} : IntKind.u32.wrap n = n % 4294967296 := by
  simp only [IntKind.wrap, IntKind.bits, IntKind.signed]
  simp
theorem wrap_u8 {n : Int} : IntKind.u8.wrap n = n % 256 := by
  simp only [IntKind.wrap, IntKind.bits, IntKind.signed]
  simp
theorem xor_lt {a b : Nat} (ha : a < 4294967296) (hb : b < 4294967296) : a ^^^ b < 4294967296 := Nat.xor_lt_two_pow (n := 32) ha hb
theorem xor32 {h x : Int} (h0 : 0 ≤ h) (h1 : h < 4294967296) (hx : By x) : xorI .u32 h x = ((h.toNat ^^^ x.toNat : Nat) : Int) := by
  unfold By at hx
  unfold xorI
  rw [BitVec.toNat_xor]
  show IntKind.u32.wrap (((BitVec.ofInt 32 h).toNat ^^^ (BitVec.ofInt 32 x).toNat : Nat) : Int) = _
  rw [ofInt_toNat h0 (by omega), ofInt_toNat hx.1 (by omega), wrap_u32]
  have := xor_lt (a := h.toNat) (b := x.toNat) (by omega) (by omega)
  omega
theorem xor64 {h x : Int} (h0 : 0 ≤ h) (h1 : h < 4294967296) (hx : By x) : xorI .i64 h x = ((h.toNat ^^^ x.toNat : Nat) : Int) := by
  unfold By at hx
  unfold xorI
  rw [BitVec.toNat_xor]
  show IntKind.i64.wrap (((BitVec.ofInt 64 h).toNat ^^^ (BitVec.ofInt 64 x).toNat : Nat) : Int) = _
  have := xor_lt (a := h.toNat) (b := x.toNat) (by omega) (by omega)
  rw [ofInt_toNat h0 (by omega), ofInt_toNat hx.1 (by omega), wrap_i64 (by omega) (by omega)]
def fnv (h : Int) (b : List Int) : Int := b.foldl fn1 h
theorem fnv_bd {h : Int} (h0 : 0 ≤ h) (h1 : h < 4294967296) : ∀ b : List Int, 0 ≤ fnv h b ∧ fnv h b < 4294967296 := by
  intro b
  unfold fnv
  induction b generalizing h with
  | nil => exact ⟨h0, h1⟩
  | cons x r ih => exact ih (fn1_lo h x) (fn1_hi h x)
theorem foldO_fnv {g : Int → Int → Option (Int ⊕ Int)} (hg : ∀ h x, 0 ≤ h → h < 4294967296 → By x → g h x = some (.inl (fn1 h x))) :
    ∀ (b : List Int) (h : Int), 0 ≤ h → h < 4294967296 → (∀ x ∈ b, By x) → foldO g (fun h => some h) b h = some (fnv h b)
  | [], h, _, _, _ => rfl
  | x :: b, h, h0, h1, hb => by
    rw [foldO, hg h x h0 h1 (hb x (List.mem_cons_self ..))]
    exact foldO_fnv hg b (fn1 h x) (fn1_lo h x) (fn1_hi h x) fun y hy => hb y (List.mem_cons_of_mem _ hy)
abbrev Sz {α : Type} (o : Option (List α)) : Prop := (o.getD []).length ≤ 4611686018427387904
theorem sum_eq {h : Int} {b : Option (List Int)} (h0 : 0 ≤ h) (h1 : h < 4294967296) (hb : Bys b) (hl : Sz b) : journal_sum h b = some (fnv h (b.getD [])) := by
  unfold journal_sum
  have key := loopR_fold (f := journal_sum_l0 b) (fun h x => some (.inl (IntKind.u32.wrap (xorI IntKind.u32 h (IntKind.u32.wrap x) * 16777619)))) (fun h => some h) (fun h i => (h, (i : Int))) (b.getD []) ?_ ?_ ?_ h
  · rw [show (h, (0 : Int)) = (fun (h : Int) (i : Nat) => (h, (i : Int))) h 0 from rfl, key]
    rw [foldO_fnv (fun h x h0 h1 hx => ?_) (b.getD []) h h0 h1 hb]
    · rfl
    · have hx' := hx
      unfold By at hx'
      rw [wrap_u32 (n := x), show x % 4294967296 = x by omega, xor32 h0 h1 hx, wrap_u32]
      unfold fn1
      congr 2
  · intro s i hi
    unfold journal_sum_l0
    refine (rangeIn hi).trans ?_
    simp only [getD_at hi]
    rw [wrap_succ hi hl]
  · intro s
    unfold journal_sum_l0
    exact rangeOut
  · exact Nat.lt_of_le_of_lt hl (by decide)
theorem sum_o1_eq (h : Int) (b : Option (List Int)) : journal_sum_o1 h b = journal_sum h b := by
  unfold journal_sum_o1 journal_sum
  have : journal_sum_o1_l0 b = journal_sum_l0 b := by
    funext s
    unfold journal_sum_o1_l0 journal_sum_l0
    simp only [Nat.zero_add, guard_nlt]
  rw [this]
def h0 : Int := 2166136261
theorem Checksum_eq {b : Option (List Int)} (hb : Bys b) (hl : Sz b) : journal_Checksum b = some (fnv h0 (b.getD [])) := by
  unfold journal_Checksum
  rw [sum_eq (by decide) (by decide) hb hl, callO_some]
  have := fnv_bd (h := 2166136261) (by decide) (by decide) (b.getD [])
  rw [wrap_i64 (by omega) (by omega)]
  rfl
theorem Checksum36_eq {b : Option (List Int)} (hb : Bys b) (hl : Sz b) : bitextref36_Checksum b = some (fnv h0 (b.getD [])) := by
  unfold bitextref36_Checksum
  have key := loopR_fold (f := bitextref36_Checksum_l0 b) (fun h x => some (.inl ((IntKind.i64.wrap (xorI IntKind.i64 h (IntKind.i64.wrap x) * 16777619)).tmod 4294967296))) (fun h => some h) (fun h i => (h, (i : Int))) (b.getD []) ?_ ?_ ?_ h0
  · rw [show ((2166136261 : Int), (0 : Int)) = (fun (h : Int) (i : Nat) => (h, (i : Int))) h0 0 from rfl, key]
    rw [foldO_fnv (fun h x h0 h1 hx => ?_) (b.getD []) h0 (by decide) (by decide) hb]
    · rfl
    · have hx' := hx
      unfold By at hx'
      rw [wrap_i64 (n := x) (by omega) (by omega), xor64 h0 h1 hx]
      have := xor_lt (a := h.toNat) (b := x.toNat) (by omega) (by omega)
      rw [wrap_i64 (by omega) (by omega)]
      unfold fn1
      congr 2
  · intro s i hi
    unfold bitextref36_Checksum_l0
    simp only [Bool.and_true]
    refine (rangeIn hi).trans ?_
    simp only [getD_at hi]
    rw [wrap_succ hi hl]
  · intro s
    unfold bitextref36_Checksum_l0
    simp only [Bool.and_true]
    exact rangeOut
  · exact Nat.lt_of_le_of_lt hl (by decide)
theorem known38_eq : bitextlaw38_known = some true := by kernel_rfl
def sumLen (l : List (Option (List Int))) : Nat := (l.map fun x => (x.getD []).length).sum
theorem many_eq {l : Option (List (Option (List Int)))} (hl : (l.getD []).length ≤ 1048576) (hb : ∀ x ∈ l.getD [], (x.getD []).length ≤ 1048576) :
    bitextlaw38_many l = some (decide (sumLen (l.getD []) > 3000) || decide ((l.getD []).length > 60)) := by
  unfold bitextlaw38_many
  have key := loopR_fold (f := bitextlaw38_many_l0 l) (fun n x => some (.inl (IntKind.i64.wrap (n + lenI (x.getD []))))) (fun n => some n) (fun n i => (n, (i : Int))) (l.getD []) ?_ ?_ ?_ 0
  · rw [show ((0 : Int), (0 : Int)) = (fun (n : Int) (i : Nat) => (n, (i : Int))) 0 0 from rfl, key]
    have hs : ∀ (m : List (Option (List Int))) (n : Nat), (∀ x ∈ m, (x.getD []).length ≤ 1048576) → m.length ≤ 1048576 → n + 1048576 * m.length ≤ 1048576 * 1048576 →
        foldO (ρ := Int) (fun n x => some (.inl (IntKind.i64.wrap (n + lenI (x.getD []))))) (fun n => some n) m (n : Int) = some ((n + sumLen m : Nat) : Int) := by
      intro m
      induction m with
      | nil => intro n _ _ _; rfl
      | cons x m ih =>
        intro n hx hm hn
        have h1 := hx x (List.mem_cons_self ..)
        simp only [List.length_cons] at hm hn
        rw [foldO]
        simp only [lenI_eq] at ih ⊢
        rw [wrap_i64 (by omega) (by omega), show (n : Int) + ((x.getD []).length : Int) = ((n + (x.getD []).length : Nat) : Int) by omega, ih _ (fun y hy => hx y (List.mem_cons_of_mem _ hy)) (by omega) (by omega)]
        congr 1
        simp only [sumLen, List.map_cons, List.sum_cons]
        omega
    rw [show (0 : Int) = ((0 : Nat) : Int) from rfl, hs _ _ hb hl (by omega), callO_some, Nat.zero_add]
    congr 1
    rw [lenI_eq]
    congr 1 <;> simp only [decide_eq_decide] <;> omega
  · intro s i hi
    unfold bitextlaw38_many_l0
    refine (rangeIn hi).trans ?_
    simp only [getD_at hi]
    rw [wrap_succ hi (by omega)]
  · intro s
    unfold bitextlaw38_many_l0
    exact rangeOut
  · exact Nat.lt_of_le_of_lt hl (by decide)
theorem checks_holds (b : Option (List Int)) (hb : Bys b) (hl : (b.getD []).length ≤ 1048576) : bitextlaw38_JournalChecks b = some true := by
  unfold bitextlaw38_JournalChecks
  rw [many_eq (by simp) (by simpa using hl), callO_some, known38_eq, Checksum_eq hb (by omega), Checksum36_eq hb (by omega)]
  simp
end Go.Fn
