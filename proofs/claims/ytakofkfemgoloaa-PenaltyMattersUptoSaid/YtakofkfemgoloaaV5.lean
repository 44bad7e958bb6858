/- The statement PenaltyMattersUptoSaid of the given program is proved here: for every input whose bulk is at most the bound of its row, the law returns true and changes nothing. Part 5 of 6. -/
import Derived.KernelRfl
import Derived.Test.YtakofkfemgoloaaV4
/- math/bits.Sub64, without a borrow -/
namespace Go.Fn
open Go Go.Vs Go.Ve
def bits_Sub64 (x y b : Int) : Option (Int × Int) :=
  if 0 ≤ x ∧ 0 ≤ y ∧ y ≤ 18446744073709551616 ∧ b = 0 then some ((x + 18446744073709551616 - y) % 18446744073709551616, if x < y then 1 else 0) else none
end Go.Fn
/- bitext/penalty.widen -/
namespace Go.Fn
open Go Go.Vs Go.Ve
set_option linter.unusedVariables false
def penalty_widen : Int → Option (Int × Int) :=
  fun n => some (n.fdiv 9223372036854775808, IntKind.u64.wrap n)
end Go.Fn
/- bitext/penalty.aged -/
namespace Go.Fn
open Go Go.Vs Go.Ve
set_option linter.unusedVariables false
def penalty_aged : Int → Int → Int → Option Bool :=
  fun now created older =>
    callO (penalty_widen now) fun r0 =>
      callO (penalty_widen created) fun r1 =>
        callO (penalty_widen older) fun r2 =>
          callO (bits_Sub64 r0.snd r1.snd 0) fun r3 =>
            some
              (decide (IntKind.i64.wrap (IntKind.i64.wrap (r0.fst - r1.fst) - IntKind.i64.wrap r3.snd) > r2.fst) ||
                IntKind.i64.wrap (IntKind.i64.wrap (r0.fst - r1.fst) - IntKind.i64.wrap r3.snd) == r2.fst &&
                  decide (r3.fst ≥ r2.snd))
end Go.Fn
/- bitext/penalty.Applies -/
namespace Go.Fn
open Go Go.Vs Go.Ve
set_option linter.unusedVariables false
def penalty_Applies : Int × List UInt8 × List UInt8 × Int × Int →
    Option (List (Int × List UInt8 × Int)) ×
        Option (List (Int × List UInt8 × Int)) × List UInt8 × List UInt8 × List UInt8 × List UInt8 × Int × Int →
      Int → Option Bool :=
  fun p e now =>
    if (p.fst != 0 && p.fst != e.snd.snd.snd.snd.snd.snd.snd) = true then some false
    else
      if
          (if (!decide (p.snd.fst = [])) = true then
              !decide (p.snd.fst = e.snd.snd.snd.snd.fst) ||
                !decide (p.snd.snd.fst = []) && !decide (p.snd.snd.fst = e.snd.snd.snd.snd.snd.fst)
            else !decide (p.snd.snd.fst = []) && !decide (p.snd.snd.fst = e.snd.snd.snd.snd.snd.fst)) =
            true then
        some false
      else
        if decide (p.snd.snd.snd.fst ≤ 0) = true then some true
        else callO (penalty_aged now e.snd.snd.snd.snd.snd.snd.fst p.snd.snd.snd.fst) fun r0 => some r0
end Go.Fn
/- bitext/penalty.Points -/
namespace Go.Fn
open Go Go.Vs Go.Ve
set_option linter.unusedVariables false
def penalty_Points_l0 : Option (List (Int × List UInt8 × List UInt8 × Int × Int)) →
    Option (List (Int × List UInt8 × Int)) ×
        Option (List (Int × List UInt8 × Int)) × List UInt8 × List UInt8 × List UInt8 × List UInt8 × Int × Int →
      Int → Int × Int → Option (Int × Int ⊕ Int) :=
  fun l e now s0 =>
    if decide (s0.snd < lenI (l.getD [])) = true then
      if decide (0 ≤ s0.snd ∧ s0.snd < lenI (l.getD [])) = true then
        if decide (((l.getD []).getD s0.snd.toNat (0, [], [], 0, 0)).snd.snd.snd.snd > 0) = true then
          callO
            (penalty_Applies
              (((l.getD []).getD s0.snd.toNat (0, [], [], 0, 0)).fst,
                ((l.getD []).getD s0.snd.toNat (0, [], [], 0, 0)).snd.fst,
                ((l.getD []).getD s0.snd.toNat (0, [], [], 0, 0)).snd.snd.fst,
                ((l.getD []).getD s0.snd.toNat (0, [], [], 0, 0)).snd.snd.snd.fst,
                ((l.getD []).getD s0.snd.toNat (0, [], [], 0, 0)).snd.snd.snd.snd)
              (e.fst, e.snd.fst, e.snd.snd.fst, e.snd.snd.snd.fst, e.snd.snd.snd.snd.fst, e.snd.snd.snd.snd.snd.fst,
                e.snd.snd.snd.snd.snd.snd.fst, e.snd.snd.snd.snd.snd.snd.snd)
              now)
            fun r1 =>
            some
              (Sum.inl
                (if r1 = true then
                    minI
                      (IntKind.i64.wrap
                        (s0.fst + minI ((l.getD []).getD s0.snd.toNat (0, [], [], 0, 0)).snd.snd.snd.snd 100))
                      100
                  else s0.fst,
                  IntKind.i64.wrap (s0.snd + 1)))
        else some (Sum.inl (s0.fst, IntKind.i64.wrap (s0.snd + 1)))
      else none
    else some (Sum.inr s0.fst)
def penalty_Points : Option (List (Int × List UInt8 × List UInt8 × Int × Int)) →
    Option (List (Int × List UInt8 × Int)) ×
        Option (List (Int × List UInt8 × Int)) × List UInt8 × List UInt8 × List UInt8 × List UInt8 × Int × Int →
      Int → Option Int :=
  fun l e now => callO (loopR (penalty_Points_l0 l e now) (0, 0)) fun r2 => some r2
end Go.Fn
/- bitext/bitextlaw17.known -/
namespace Go.Fn
open Go Go.Vs Go.Ve
set_option linter.unusedVariables false
def bitextlaw17_known : Option Bool :=
  callO (penalty_Applies (3, [], [], 10, 60) (none, none, [], [], [], [], 5, 3) 15) fun r0 =>
    if r0 = true then
      callO (penalty_Applies (3, [], [], 10, 60) (none, none, [], [], [], [], 5, 3) 14) fun r1 =>
        if (!r1) = true then
          callO
            (penalty_Points (some ((3, [], [], 10, 60) :: (3, [], [], 10, 60) :: List.replicate 0 (0, [], [], 0, 0)))
              (none, none, [], [], [], [], 5, 3) 15)
            fun r2 => some (r2 == 100)
        else some false
    else some false
end Go.Fn
/- bitext/bitextmake.Place -/
namespace Go.Fn
open Go Go.Vs Go.Ve
set_option linter.unusedVariables false
def bitextmake_Place : Int → Int → Option Int :=
  fun x n =>
    if decide (n ≠ 0) = true then
      some (if decide (x.tmod n < 0) = true then IntKind.i64.wrap (x.tmod n + n) else x.tmod n)
    else none
end Go.Fn
/- (*bitext/bitextmake.Numbers).Next -/
namespace Go.Fn
open Go Go.Vs Go.Ve
set_option linter.unusedVariables false
def bitextmake_Numbers_Next : Int → Option (List Int) × Int → Option (Int × Int) :=
  fun n s =>
    if (!decide (s.snd < lenI (s.fst.getD [])) || decide (0 ≤ s.snd ∧ s.snd < lenI (s.fst.getD []))) = true then
      callO
        (bitextmake_Place (if decide (s.snd < lenI (s.fst.getD [])) = true then (s.fst.getD []).getD s.snd.toNat 0 else 0)
          n)
        fun r0 => some (r0, IntKind.i64.wrap (s.snd + 1))
    else none
end Go.Fn
/- bitext/bitextmake.word -/
namespace Go.Fn
open Go Go.Vs Go.Ve
set_option linter.unusedVariables false
def bitextmake_word : Option (List Int) × Int → Option (List UInt8 × Int) :=
  fun s =>
    callO (bitextmake_Numbers_Next 24 (s.fst, s.snd)) fun r0 =>
      if (decide (0 ≤ r0.fst ∧ r0.fst < 24) && nlt (0 + r0.fst.toNat) 24) = true then
        some
          ([[114, 101, 100], [99, 97, 114], [82, 101, 100], [97], [99, 97, 114, 115], [49, 44, 53], [50, 50],
                  [100, 111, 110, 39, 116], [46], [33], [32], [32, 32], [60], [38], [123], [34], [92], [120, 45, 121],
                  [10], [61], [125], [62], [9], [98]].getD
              (0 + r0.fst.toNat) [],
            r0.snd)
      else none
end Go.Fn
/- bitext/bitextmake.Line -/
namespace Go.Fn
open Go Go.Vs Go.Ve
set_option linter.unusedVariables false
def bitextmake_Line_l0 : Option (List Int) × Int → List UInt8 × Int × Int → Option (List UInt8 × Int × Int ⊕ List UInt8 × Int) :=
  fun s s1 =>
    if decide (s1.snd.fst > 0) = true then
      callO (bitextmake_word (s.fst, s1.snd.snd)) fun r2 =>
        if (!decide (s1.fst = [])) = true then
          callO (bitextmake_Numbers_Next 3 (s.fst, r2.snd)) fun r3 =>
            if
                ((!decide (r3.fst > 0) || decide (s1.fst.length + 1 ≤ 1152921504606846976)) &&
                    decide
                      ((if decide (r3.fst > 0) = true then s1.fst ++ [32] else s1.fst).length + r2.fst.length ≤
                        1152921504606846976)) =
                  true then
              some
                (Sum.inl
                  ((if decide (r3.fst > 0) = true then s1.fst ++ [32] else s1.fst) ++ r2.fst,
                    IntKind.i64.wrap (s1.snd.fst - 1), r3.snd))
            else none
        else
          if decide (s1.fst.length + r2.fst.length ≤ 1152921504606846976) = true then
            some (Sum.inl (s1.fst ++ r2.fst, IntKind.i64.wrap (s1.snd.fst - 1), r2.snd))
          else none
    else some (Sum.inr (s1.fst, s1.snd.snd))
def bitextmake_Line : Int → Option (List Int) × Int → Option (List UInt8 × Int) :=
  fun n s =>
    callO (bitextmake_Numbers_Next (IntKind.i64.wrap (n + 1)) (s.fst, s.snd)) fun r0 =>
      callO (loopR (bitextmake_Line_l0 s) ([], r0.fst, r0.snd)) fun r4 => some (r4.fst, r4.snd)
end Go.Fn
/- bitext/bitextref3.Normalize -/
namespace Go.Fn
open Go Go.Vs Go.Ve
set_option linter.unusedVariables false
def bitextref3_Normalize_l0 : Option (List (Int × List UInt8 × Int)) →
    Option (List (Int × List UInt8 × Int)) × Int →
      Option (Option (List (Int × List UInt8 × Int)) × Int ⊕ Option (List (Int × List UInt8 × Int))) :=
  fun f s1 =>
    if decide (s1.snd < lenI (f.getD [])) = true then
      if
          (decide (0 ≤ s1.snd ∧ s1.snd < lenI (f.getD [])) &&
              if (((f.getD []).getD s1.snd.toNat (0, [], 0)).fst != 1) = true then
                decide (0 + (s1.fst.getD []).length = (s1.fst.getD []).length) &&
                  (decide
                      ((s1.fst.getD []).length +
                          [(((f.getD []).getD s1.snd.toNat (0, [], 0)).fst,
                                ((f.getD []).getD s1.snd.toNat (0, [], 0)).snd.fst,
                                ((f.getD []).getD s1.snd.toNat (0, [], 0)).snd.snd)].length ≤
                        68719476736) &&
                    s1.fst.isSome == s1.fst.isSome)
              else
                decide (((f.getD []).getD s1.snd.toNat (0, [], 0)).snd.fst = []) ||
                  (!decide (lenI (s1.fst.getD []) > 0) ||
                      decide
                          (0 ≤ IntKind.i64.wrap (lenI (s1.fst.getD []) - 1) ∧
                            IntKind.i64.wrap (lenI (s1.fst.getD []) - 1) < lenI (s1.fst.getD [])) &&
                        nlt (0 + (IntKind.i64.wrap (lenI (s1.fst.getD []) - 1)).toNat) (s1.fst.getD []).length) &&
                    if
                        (decide (lenI (s1.fst.getD []) > 0) &&
                            ((s1.fst.getD []).getD (0 + (IntKind.i64.wrap (lenI (s1.fst.getD []) - 1)).toNat)
                                  (0, [], 0)).fst ==
                              1) =
                          true then
                      decide
                          (0 ≤ IntKind.i64.wrap (lenI (s1.fst.getD []) - 1) ∧
                            IntKind.i64.wrap (lenI (s1.fst.getD []) - 1) < lenI (s1.fst.getD [])) &&
                        (nlt (0 + (IntKind.i64.wrap (lenI (s1.fst.getD []) - 1)).toNat) (s1.fst.getD []).length &&
                          (decide
                              (((s1.fst.getD []).getD (0 + (IntKind.i64.wrap (lenI (s1.fst.getD []) - 1)).toNat)
                                          (0, [], 0)).snd.fst.length +
                                  ((f.getD []).getD s1.snd.toNat (0, [], 0)).snd.fst.length ≤
                                1152921504606846976) &&
                            (decide
                                (0 ≤ IntKind.i64.wrap (lenI (s1.fst.getD []) - 1) ∧
                                  IntKind.i64.wrap (lenI (s1.fst.getD []) - 1) < lenI (s1.fst.getD [])) &&
                              nlt (0 + (IntKind.i64.wrap (lenI (s1.fst.getD []) - 1)).toNat) (s1.fst.getD []).length)))
                    else
                      decide (0 + (s1.fst.getD []).length = (s1.fst.getD []).length) &&
                        (decide
                            ((s1.fst.getD []).length +
                                [(1, ((f.getD []).getD s1.snd.toNat (0, [], 0)).snd.fst, 0)].length ≤
                              68719476736) &&
                          s1.fst.isSome == s1.fst.isSome)) =
            true then
        some
          (Sum.inl
            (if (((f.getD []).getD s1.snd.toNat (0, [], 0)).fst != 1) = true then
                some
                  (s1.fst.getD [] ++
                    [(((f.getD []).getD s1.snd.toNat (0, [], 0)).fst, ((f.getD []).getD s1.snd.toNat (0, [], 0)).snd.fst,
                        ((f.getD []).getD s1.snd.toNat (0, [], 0)).snd.snd)])
              else
                if decide (((f.getD []).getD s1.snd.toNat (0, [], 0)).snd.fst = []) = true then s1.fst
                else
                  some
                    (if
                        (decide (lenI (s1.fst.getD []) > 0) &&
                            ((s1.fst.getD []).getD (0 + (IntKind.i64.wrap (lenI (s1.fst.getD []) - 1)).toNat)
                                  (0, [], 0)).fst ==
                              1) =
                          true then
                      (s1.fst.getD []).set (0 + (IntKind.i64.wrap (lenI (s1.fst.getD []) - 1)).toNat)
                        (1,
                          ((s1.fst.getD []).getD (0 + (IntKind.i64.wrap (lenI (s1.fst.getD []) - 1)).toNat)
                                  (0, [], 0)).snd.fst ++
                            ((f.getD []).getD s1.snd.toNat (0, [], 0)).snd.fst,
                          0)
                    else s1.fst.getD [] ++ [(1, ((f.getD []).getD s1.snd.toNat (0, [], 0)).snd.fst, 0)]),
              IntKind.i64.wrap (s1.snd + 1)))
      else none
    else some (Sum.inr s1.fst)
def bitextref3_Normalize : Option (List (Int × List UInt8 × Int)) → Option (Option (List (Int × List UInt8 × Int))) :=
  fun f =>
    callO (loopR (bitextref3_Normalize_l0 f) (none, 0)) fun r1 =>
      if (r1.isSome == r1.isSome) = true then if (r1.isSome == r1.isSome) = true then some r1 else none else none
end Go.Fn
/- bitext/bitextref3.Concat -/
namespace Go.Fn
open Go Go.Vs Go.Ve
set_option linter.unusedVariables false
def bitextref3_Concat_o0 : Option (List (Int × List UInt8 × Int)) →
    Option (List (Int × List UInt8 × Int)) → Option (Option (List (Int × List UInt8 × Int))) :=
  fun a b =>
    if (a.isSome == a.isSome) = true then
      if decide ((a.getD []).length ≤ 68719476736) = true then
        if decide (0 + ((optL (a.getD [])).getD []).length = ((optL (a.getD [])).getD []).length) = true then
          if decide (((optL (a.getD [])).getD []).length + (b.getD []).length ≤ 68719476736) = true then
            if ((optL (a.getD [])).isSome == (optL (a.getD [])).isSome) = true then
              if
                  ((appL (optL (a.getD [])) (b.getD [])).isSome == (appL (optL (a.getD [])) (b.getD [])).isSome) =
                    true then
                callO (bitextref3_Normalize (appL (optL (a.getD [])) (b.getD []))) fun r1 =>
                  if (r1.isSome == r1.isSome) = true then if (r1.isSome == r1.isSome) = true then some r1 else none
                  else none
              else none
            else none
          else none
        else none
      else none
    else none
end Go.Fn
/- bitext/bitextref3.Name -/
namespace Go.Fn
open Go Go.Vs Go.Ve
set_option linter.unusedVariables false
def bitextref3_Name_l0 : List UInt8 → Int → Option (Int ⊕ List UInt8 ⊕ Unit) :=
  fun s s0 =>
    if decide (s0 < lenI s) = true then
      if (decide (0 ≤ s0) && nlt s0.toNat s.length) = true then
        if (byteI (s.getD s0.toNat 0) == 32) = true then
          if decide ((0 : Int) ≤ 0 ∧ 0 ≤ s0 ∧ s0 ≤ lenI s) = true then some (Sum.inr (Sum.inl (subL 0 s0 s))) else none
        else some (Sum.inl (IntKind.i64.wrap (s0 + 1)))
      else none
    else some (Sum.inr (Sum.inr ()))
def bitextref3_Name : List UInt8 → Option (List UInt8) :=
  fun s => callO (loopR (bitextref3_Name_l0 s) 0) fun r1 => sumO r1 (fun r2 => some r2) fun r3 => some s
end Go.Fn
/- bitext/bitextmake.Fragment -/
namespace Go.Fn
open Go Go.Vs Go.Ve
set_option linter.unusedVariables false
def bitextmake_Fragment_l0 : Bool →
    Bool →
      Option (List Int) × Int →
        Option (List (Int × List UInt8 × Int)) × Option (List (Int × List UInt8 × Int)) × Int × Int × Int →
          Option
            (Option (List (Int × List UInt8 × Int)) × Option (List (Int × List UInt8 × Int)) × Int × Int × Int ⊕
              Option (List (Int × List UInt8 × Int)) × Option (List (Int × List UInt8 × Int)) × Int) :=
  fun a2 a3 a0 s1 =>
    if decide (s1.snd.snd.snd.fst > 0) = true then
      callO (bitextmake_Line 3 (a0.fst, s1.snd.snd.snd.snd)) fun r1 =>
        callO (bitextmake_Numbers_Next 8 (a0.fst, r1.snd)) fun r2 =>
          if (if (r2.fst == 0) = true then r2.fst == 0 else r2.fst == 1) = true then
            callO (bitextmake_Numbers_Next 3 (a0.fst, r2.snd)) fun r3 =>
              if (decide (0 ≤ r3.fst ∧ r3.fst < 3) && nlt (0 + r3.fst.toNat) 3) = true then
                if (s1.fst.isSome == s1.fst.isSome) = true then
                  callO
                    (bitextref3_Concat_o0 s1.fst
                      (some [(5, [[110], [110, 97, 109, 101], [120, 49]].getD (0 + r3.fst.toNat) [], 0)]))
                    fun r4 =>
                    if (r4.isSome == r4.isSome) = true then
                      some (Sum.inl (r4, s1.snd.fst, s1.snd.snd.fst, IntKind.i64.wrap (s1.snd.snd.snd.fst - 1), r3.snd))
                    else none
                else none
              else none
          else
            if (r2.fst == 2) = true then
              if a2 = true then
                callO (bitextmake_Numbers_Next 2 (a0.fst, r2.snd)) fun r5 =>
                  if (decide (0 ≤ r5.fst ∧ r5.fst < 2) && nlt (0 + r5.fst.toNat) 2) = true then
                    if (s1.fst.isSome == s1.fst.isSome) = true then
                      callO
                        (bitextref3_Concat_o0 s1.fst
                          (some
                            [(4, [[98, 114], [105, 109, 103, 32, 97]].getD (0 + r5.fst.toNat) [],
                                IntKind.i64.wrap (s1.snd.snd.fst + 1))]))
                        fun r6 =>
                        if (r6.isSome == r6.isSome) = true then
                          some
                            (Sum.inl
                              (r6, s1.snd.fst, IntKind.i64.wrap (s1.snd.snd.fst + 1),
                                IntKind.i64.wrap (s1.snd.snd.snd.fst - 1), r5.snd))
                        else none
                    else none
                  else none
              else
                if (s1.fst.isSome == s1.fst.isSome) = true then
                  callO (bitextref3_Concat_o0 s1.fst (some [(1, r1.fst, 0)])) fun r7 =>
                    if (r7.isSome == r7.isSome) = true then
                      some (Sum.inl (r7, s1.snd.fst, s1.snd.snd.fst, IntKind.i64.wrap (s1.snd.snd.snd.fst - 1), r2.snd))
                    else none
                else none
            else
              if (if (r2.fst == 3) = true then r2.fst == 3 else r2.fst == 4) = true then
                if a2 = true then
                  callO (bitextmake_Numbers_Next 3 (a0.fst, r2.snd)) fun r8 =>
                    if
                        (decide (0 ≤ r8.fst ∧ r8.fst < 3) && nlt (0 + r8.fst.toNat) 3 &&
                            (decide (0 + (s1.snd.fst.getD []).length = (s1.snd.fst.getD []).length) &&
                              (decide
                                  ((s1.snd.fst.getD []).length +
                                      [(2, [[98], [105], [97, 32, 104, 61, 49]].getD (0 + r8.fst.toNat) [],
                                            IntKind.i64.wrap (s1.snd.snd.fst + 1))].length ≤
                                    68719476736) &&
                                s1.snd.fst.isSome == s1.snd.fst.isSome))) =
                          true then
                      if (s1.fst.isSome == s1.fst.isSome) = true then
                        callO
                          (bitextref3_Concat_o0 s1.fst
                            (some
                              [(2, [[98], [105], [97, 32, 104, 61, 49]].getD (0 + r8.fst.toNat) [],
                                  IntKind.i64.wrap (s1.snd.snd.fst + 1))]))
                          fun r9 =>
                          if (r9.isSome == r9.isSome) = true then
                            some
                              (Sum.inl
                                (r9,
                                  some
                                    (s1.snd.fst.getD [] ++
                                      [(2, [[98], [105], [97, 32, 104, 61, 49]].getD (0 + r8.fst.toNat) [],
                                          IntKind.i64.wrap (s1.snd.snd.fst + 1))]),
                                  IntKind.i64.wrap (s1.snd.snd.fst + 1), IntKind.i64.wrap (s1.snd.snd.snd.fst - 1),
                                  r8.snd))
                          else none
                      else none
                    else none
                else
                  if (s1.fst.isSome == s1.fst.isSome) = true then
                    callO (bitextref3_Concat_o0 s1.fst (some [(1, r1.fst, 0)])) fun r10 =>
                      if (r10.isSome == r10.isSome) = true then
                        some
                          (Sum.inl (r10, s1.snd.fst, s1.snd.snd.fst, IntKind.i64.wrap (s1.snd.snd.snd.fst - 1), r2.snd))
                      else none
                  else none
              else
                if (if (r2.fst == 5) = true then r2.fst == 5 else r2.fst == 6) = true then
                  if decide (IntKind.i64.wrap (lenI (s1.snd.fst.getD []) - 1) ≥ 0) = true then
                    if (!a3) = true then
                      callO
                        (bitextmake_Numbers_Next (IntKind.i64.wrap (IntKind.i64.wrap (lenI (s1.snd.fst.getD []) - 1) + 1))
                          (a0.fst, r2.snd))
                        fun r11 =>
                        if decide (0 ≤ r11.fst ∧ r11.fst < lenI (s1.snd.fst.getD [])) = true then
                          if nlt (0 + r11.fst.toNat) (s1.snd.fst.getD []).length = true then
                            callO (bitextref3_Name ((s1.snd.fst.getD []).getD (0 + r11.fst.toNat) (0, [], 0)).snd.fst)
                              fun r12 =>
                              if
                                  (decide (0 ≤ r11.fst ∧ r11.fst < lenI (s1.snd.fst.getD [])) &&
                                        nlt (0 + r11.fst.toNat) (s1.snd.fst.getD []).length &&
                                      (decide ((0 : Int) ≤ 0 ∧ 0 ≤ r11.fst ∧ r11.fst ≤ lenI (s1.snd.fst.getD [])) &&
                                        ((Option.map (subL 0 r11.fst) s1.snd.fst).isSome == s1.snd.fst.isSome &&
                                          (decide
                                              (((Option.map (subL 0 r11.fst) s1.snd.fst).getD []).length ≤ 68719476736) &&
                                            (decide
                                                (0 ≤ IntKind.i64.wrap (r11.fst + 1) ∧
                                                  IntKind.i64.wrap (r11.fst + 1) ≤ lenI (s1.snd.fst.getD []) ∧
                                                    lenI (s1.snd.fst.getD []) ≤ lenI (s1.snd.fst.getD [])) &&
                                              ((Option.map
                                                      (subL (IntKind.i64.wrap (r11.fst + 1)) (lenI (s1.snd.fst.getD [])))
                                                      s1.snd.fst).isSome ==
                                                  s1.snd.fst.isSome &&
                                                (decide
                                                    (0 +
                                                        ((optL ((Option.map (subL 0 r11.fst) s1.snd.fst).getD [])).getD
                                                            []).length =
                                                      ((optL ((Option.map (subL 0 r11.fst) s1.snd.fst).getD [])).getD
                                                          []).length) &&
                                                  (decide
                                                      (((optL ((Option.map (subL 0 r11.fst) s1.snd.fst).getD [])).getD
                                                              []).length +
                                                          ((Option.map
                                                                  (subL (IntKind.i64.wrap (r11.fst + 1))
                                                                    (lenI (s1.snd.fst.getD [])))
                                                                  s1.snd.fst).getD
                                                              []).length ≤
                                                        68719476736) &&
                                                    ((optL ((Option.map (subL 0 r11.fst) s1.snd.fst).getD [])).isSome ==
                                                        (optL
                                                            ((Option.map (subL 0 r11.fst) s1.snd.fst).getD [])).isSome &&
                                                      (appL (optL ((Option.map (subL 0 r11.fst) s1.snd.fst).getD []))
                                                            ((Option.map
                                                                  (subL (IntKind.i64.wrap (r11.fst + 1))
                                                                    (lenI (s1.snd.fst.getD [])))
                                                                  s1.snd.fst).getD
                                                              [])).isSome ==
                                                        (appL (optL ((Option.map (subL 0 r11.fst) s1.snd.fst).getD []))
                                                            ((Option.map
                                                                  (subL (IntKind.i64.wrap (r11.fst + 1))
                                                                    (lenI (s1.snd.fst.getD [])))
                                                                  s1.snd.fst).getD
                                                              [])).isSome))))))))) =
                                    true then
                                if (s1.fst.isSome == s1.fst.isSome) = true then
                                  callO
                                    (bitextref3_Concat_o0 s1.fst
                                      (some
                                        [(3, r12, ((s1.snd.fst.getD []).getD (0 + r11.fst.toNat) (0, [], 0)).snd.snd)]))
                                    fun r13 =>
                                    if (r13.isSome == r13.isSome) = true then
                                      some
                                        (Sum.inl
                                          (r13,
                                            appL (optL ((Option.map (subL 0 r11.fst) s1.snd.fst).getD []))
                                              ((Option.map
                                                    (subL (IntKind.i64.wrap (r11.fst + 1)) (lenI (s1.snd.fst.getD [])))
                                                    s1.snd.fst).getD
                                                []),
                                            s1.snd.snd.fst, IntKind.i64.wrap (s1.snd.snd.snd.fst - 1), r11.snd))
                                    else none
                                else none
                              else none
                          else none
                        else none
                    else
                      if
                          decide
                              (0 ≤ IntKind.i64.wrap (lenI (s1.snd.fst.getD []) - 1) ∧
                                IntKind.i64.wrap (lenI (s1.snd.fst.getD []) - 1) < lenI (s1.snd.fst.getD [])) =
                            true then
                        if
                            nlt (0 + (IntKind.i64.wrap (lenI (s1.snd.fst.getD []) - 1)).toNat)
                                (s1.snd.fst.getD []).length =
                              true then
                          callO
                            (bitextref3_Name
                              ((s1.snd.fst.getD []).getD (0 + (IntKind.i64.wrap (lenI (s1.snd.fst.getD []) - 1)).toNat)
                                    (0, [], 0)).snd.fst)
                            fun r14 =>
                            if
                                (decide
                                        (0 ≤ IntKind.i64.wrap (lenI (s1.snd.fst.getD []) - 1) ∧
                                          IntKind.i64.wrap (lenI (s1.snd.fst.getD []) - 1) < lenI (s1.snd.fst.getD [])) &&
                                      nlt (0 + (IntKind.i64.wrap (lenI (s1.snd.fst.getD []) - 1)).toNat)
                                        (s1.snd.fst.getD []).length &&
                                    (decide
                                        ((0 : Int) ≤ 0 ∧
                                          0 ≤ IntKind.i64.wrap (lenI (s1.snd.fst.getD []) - 1) ∧
                                            IntKind.i64.wrap (lenI (s1.snd.fst.getD []) - 1) ≤
                                              lenI (s1.snd.fst.getD [])) &&
                                      ((Option.map (subL 0 (IntKind.i64.wrap (lenI (s1.snd.fst.getD []) - 1)))
                                              s1.snd.fst).isSome ==
                                          s1.snd.fst.isSome &&
                                        (decide
                                            (((Option.map (subL 0 (IntKind.i64.wrap (lenI (s1.snd.fst.getD []) - 1)))
                                                      s1.snd.fst).getD
                                                  []).length ≤
                                              68719476736) &&
                                          (decide
                                              (0 ≤
                                                  IntKind.i64.wrap
                                                    (IntKind.i64.wrap (lenI (s1.snd.fst.getD []) - 1) + 1) ∧
                                                IntKind.i64.wrap (IntKind.i64.wrap (lenI (s1.snd.fst.getD []) - 1) + 1) ≤
                                                    lenI (s1.snd.fst.getD []) ∧
                                                  lenI (s1.snd.fst.getD []) ≤ lenI (s1.snd.fst.getD [])) &&
                                            ((Option.map
                                                    (subL
                                                      (IntKind.i64.wrap
                                                        (IntKind.i64.wrap (lenI (s1.snd.fst.getD []) - 1) + 1))
                                                      (lenI (s1.snd.fst.getD [])))
                                                    s1.snd.fst).isSome ==
                                                s1.snd.fst.isSome &&
                                              (decide
                                                  (0 +
                                                      ((optL
                                                              ((Option.map
                                                                    (subL 0
                                                                      (IntKind.i64.wrap (lenI (s1.snd.fst.getD []) - 1)))
                                                                    s1.snd.fst).getD
                                                                [])).getD
                                                          []).length =
                                                    ((optL
                                                            ((Option.map
                                                                  (subL 0
                                                                    (IntKind.i64.wrap (lenI (s1.snd.fst.getD []) - 1)))
                                                                  s1.snd.fst).getD
                                                              [])).getD
                                                        []).length) &&
                                                (decide
                                                    (((optL
                                                                ((Option.map
                                                                      (subL 0
                                                                        (IntKind.i64.wrap
                                                                          (lenI (s1.snd.fst.getD []) - 1)))
                                                                      s1.snd.fst).getD
                                                                  [])).getD
                                                            []).length +
                                                        ((Option.map
                                                                (subL
                                                                  (IntKind.i64.wrap
                                                                    (IntKind.i64.wrap (lenI (s1.snd.fst.getD []) - 1) +
                                                                      1))
                                                                  (lenI (s1.snd.fst.getD [])))
                                                                s1.snd.fst).getD
                                                            []).length ≤
                                                      68719476736) &&
                                                  ((optL
                                                          ((Option.map
                                                                (subL 0
                                                                  (IntKind.i64.wrap (lenI (s1.snd.fst.getD []) - 1)))
                                                                s1.snd.fst).getD
                                                            [])).isSome ==
                                                      (optL
                                                          ((Option.map
                                                                (subL 0
                                                                  (IntKind.i64.wrap (lenI (s1.snd.fst.getD []) - 1)))
                                                                s1.snd.fst).getD
                                                            [])).isSome &&
                                                    (appL
                                                          (optL
                                                            ((Option.map
                                                                  (subL 0
                                                                    (IntKind.i64.wrap (lenI (s1.snd.fst.getD []) - 1)))
                                                                  s1.snd.fst).getD
                                                              []))
                                                          ((Option.map
                                                                (subL
                                                                  (IntKind.i64.wrap
                                                                    (IntKind.i64.wrap (lenI (s1.snd.fst.getD []) - 1) +
                                                                      1))
                                                                  (lenI (s1.snd.fst.getD [])))
                                                                s1.snd.fst).getD
                                                            [])).isSome ==
                                                      (appL
                                                          (optL
                                                            ((Option.map
                                                                  (subL 0
                                                                    (IntKind.i64.wrap (lenI (s1.snd.fst.getD []) - 1)))
                                                                  s1.snd.fst).getD
                                                              []))
                                                          ((Option.map
                                                                (subL
                                                                  (IntKind.i64.wrap
                                                                    (IntKind.i64.wrap (lenI (s1.snd.fst.getD []) - 1) +
                                                                      1))
                                                                  (lenI (s1.snd.fst.getD [])))
                                                                s1.snd.fst).getD
                                                            [])).isSome))))))))) =
                                  true then
                              if (s1.fst.isSome == s1.fst.isSome) = true then
                                callO
                                  (bitextref3_Concat_o0 s1.fst
                                    (some
                                      [(3, r14,
                                          ((s1.snd.fst.getD []).getD
                                                (0 + (IntKind.i64.wrap (lenI (s1.snd.fst.getD []) - 1)).toNat)
                                                (0, [], 0)).snd.snd)]))
                                  fun r15 =>
                                  if (r15.isSome == r15.isSome) = true then
                                    some
                                      (Sum.inl
                                        (r15,
                                          appL
                                            (optL
                                              ((Option.map (subL 0 (IntKind.i64.wrap (lenI (s1.snd.fst.getD []) - 1)))
                                                    s1.snd.fst).getD
                                                []))
                                            ((Option.map
                                                  (subL
                                                    (IntKind.i64.wrap
                                                      (IntKind.i64.wrap (lenI (s1.snd.fst.getD []) - 1) + 1))
                                                    (lenI (s1.snd.fst.getD [])))
                                                  s1.snd.fst).getD
                                              []),
                                          s1.snd.snd.fst, IntKind.i64.wrap (s1.snd.snd.snd.fst - 1), r2.snd))
                                  else none
                              else none
                            else none
                        else none
                      else none
                  else
                    if (s1.fst.isSome == s1.fst.isSome) = true then
                      callO
                        (bitextref3_Concat_o0 s1.fst
                          (some
                            [(if (a2 && !a3) = true then 3 else 1, if (a2 && !a3) = true then [98] else r1.fst,
                                if (a2 && !a3) = true then IntKind.i64.wrap (s1.snd.snd.fst + 1) else 0)]))
                        fun r16 =>
                        if (r16.isSome == r16.isSome) = true then
                          some
                            (Sum.inl
                              (r16, s1.snd.fst,
                                if (a2 && !a3) = true then IntKind.i64.wrap (s1.snd.snd.fst + 1) else s1.snd.snd.fst,
                                IntKind.i64.wrap (s1.snd.snd.snd.fst - 1), r2.snd))
                        else none
                    else none
                else
                  if (s1.fst.isSome == s1.fst.isSome) = true then
                    callO (bitextref3_Concat_o0 s1.fst (some [(1, r1.fst, 0)])) fun r17 =>
                      if (r17.isSome == r17.isSome) = true then
                        some
                          (Sum.inl (r17, s1.snd.fst, s1.snd.snd.fst, IntKind.i64.wrap (s1.snd.snd.snd.fst - 1), r2.snd))
                      else none
                  else none
    else some (Sum.inr (s1.fst, s1.snd.fst, s1.snd.snd.snd.snd))
def bitextmake_Fragment_l1 : Bool →
    Option (List (Int × List UInt8 × Int)) × Option (List (Int × List UInt8 × Int)) × Int →
      Option (List (Int × List UInt8 × Int)) × Int →
        Option (Option (List (Int × List UInt8 × Int)) × Int ⊕ Option (List (Int × List UInt8 × Int))) :=
  fun a3 r1 s1 =>
    if (decide (s1.snd ≥ 0) && a3) = true then
      if decide (0 ≤ s1.snd ∧ s1.snd < lenI (r1.snd.fst.getD [])) = true then
        if nlt (0 + s1.snd.toNat) (r1.snd.fst.getD []).length = true then
          callO (bitextref3_Name ((r1.snd.fst.getD []).getD (0 + s1.snd.toNat) (0, [], 0)).snd.fst) fun r2 =>
            if
                (decide (0 ≤ s1.snd ∧ s1.snd < lenI (r1.snd.fst.getD [])) &&
                    (nlt (0 + s1.snd.toNat) (r1.snd.fst.getD []).length &&
                      (decide (0 + (s1.fst.getD []).length = (s1.fst.getD []).length) &&
                        (decide
                            ((s1.fst.getD []).length +
                                [(3, r2, ((r1.snd.fst.getD []).getD (0 + s1.snd.toNat) (0, [], 0)).snd.snd)].length ≤
                              68719476736) &&
                          s1.fst.isSome == s1.fst.isSome)))) =
                  true then
              some
                (Sum.inl
                  (some
                      (s1.fst.getD [] ++
                        [(3, r2, ((r1.snd.fst.getD []).getD (0 + s1.snd.toNat) (0, [], 0)).snd.snd)]),
                    IntKind.i64.wrap (s1.snd - 1)))
            else none
        else none
      else none
    else some (Sum.inr s1.fst)
def bitextmake_Fragment : Int → Bool → Bool → Option (List Int) × Int → Option (Option (List (Int × List UInt8 × Int)) × Int) :=
  fun a1 a2 a3 a0 =>
    callO (bitextmake_Numbers_Next (IntKind.i64.wrap (a1 + 1)) (a0.fst, a0.snd)) fun r1 =>
      callO (loopR (bitextmake_Fragment_l0 a2 a3 a0) (none, none, 0, r1.fst, r1.snd)) fun r2 =>
        callO (loopR (bitextmake_Fragment_l1 a3 r2) (r2.fst, IntKind.i64.wrap (lenI (r2.snd.fst.getD []) - 1)))
          fun r3 =>
          if (r3.isSome == r3.isSome) = true then
            if (r3.isSome == r3.isSome) = true then some (r3, r2.snd.snd) else none
          else none
end Go.Fn
/- bitext/bitextmake.Target -/
namespace Go.Fn
open Go Go.Vs Go.Ve
set_option linter.unusedVariables false
def bitextmake_Target_o1_l0 : Option (List (Int × List UInt8 × Int)) →
    Option (List Int) × Int →
      Option (List (Int × List UInt8 × Int)) × Int × Int →
        Option (Option (List (Int × List UInt8 × Int)) × Int × Int ⊕ Option (List (Int × List UInt8 × Int)) × Int) :=
  fun source s s1 =>
    if decide (s1.snd.fst < lenI (source.getD [])) = true then
      if
          (decide (0 ≤ s1.snd.fst ∧ s1.snd.fst < lenI (source.getD [])) &&
              nlt (0 + s1.snd.fst.toNat) (source.getD []).length) =
            true then
        if (((source.getD []).getD (0 + s1.snd.fst.toNat) (0, [], 0)).fst == 1) = true then
          if
              decide
                  (4 + ((source.getD []).getD (0 + s1.snd.fst.toNat) (0, [], 0)).snd.fst.length ≤ 1152921504606846976) =
                true then
            callO (bitextmake_Numbers_Next 5 (s.fst, s1.snd.snd)) fun r1 =>
              if
                  (decide
                        (0 ≤ r1.fst ∧
                          r1.fst <
                            lenI
                              [[114, 111, 116], [100, 97, 115, 32, 65, 117, 116, 111], [],
                                [101, 105, 110, 32] ++ ((source.getD []).getD (0 + s1.snd.fst.toNat) (0, [], 0)).snd.fst,
                                ((source.getD []).getD (0 + s1.snd.fst.toNat) (0, [], 0)).snd.fst]) &&
                      nlt (0 + r1.fst.toNat)
                        [[114, 111, 116], [100, 97, 115, 32, 65, 117, 116, 111], [],
                            [101, 105, 110, 32] ++ ((source.getD []).getD (0 + s1.snd.fst.toNat) (0, [], 0)).snd.fst,
                            ((source.getD []).getD (0 + s1.snd.fst.toNat) (0, [], 0)).snd.fst].length) =
                    true then
                if (s1.fst.isSome == s1.fst.isSome) = true then
                  callO
                    (bitextref3_Concat_o0 s1.fst
                      (some
                        [(((source.getD []).getD (0 + s1.snd.fst.toNat) (0, [], 0)).fst,
                            [[114, 111, 116], [100, 97, 115, 32, 65, 117, 116, 111], [],
                                  [101, 105, 110, 32] ++
                                    ((source.getD []).getD (0 + s1.snd.fst.toNat) (0, [], 0)).snd.fst,
                                  ((source.getD []).getD (0 + s1.snd.fst.toNat) (0, [], 0)).snd.fst].getD
                              (0 + r1.fst.toNat) [],
                            ((source.getD []).getD (0 + s1.snd.fst.toNat) (0, [], 0)).snd.snd)]))
                    fun r2 =>
                    if (r2.isSome == r2.isSome) = true then
                      some (Sum.inl (r2, IntKind.i64.wrap (s1.snd.fst + 1), r1.snd))
                    else none
                else none
              else none
          else none
        else
          callO (bitextmake_Numbers_Next 3 (s.fst, s1.snd.snd)) fun r3 =>
            if (r3.fst == 0) = true then
              callO (bitextmake_Line 2 (s.fst, r3.snd)) fun r4 =>
                if (s1.fst.isSome == s1.fst.isSome) = true then
                  callO (bitextref3_Concat_o0 s1.fst (some [(1, r4.fst, 0)])) fun r5 =>
                    if (r5.isSome == r5.isSome) = true then
                      if (r5.isSome == r5.isSome) = true then
                        callO
                          (bitextref3_Concat_o0 r5
                            (some
                              [(((source.getD []).getD (0 + s1.snd.fst.toNat) (0, [], 0)).fst,
                                  ((source.getD []).getD (0 + s1.snd.fst.toNat) (0, [], 0)).snd.fst,
                                  ((source.getD []).getD (0 + s1.snd.fst.toNat) (0, [], 0)).snd.snd)]))
                          fun r6 =>
                          if (r6.isSome == r6.isSome) = true then
                            some (Sum.inl (r6, IntKind.i64.wrap (s1.snd.fst + 1), r4.snd))
                          else none
                      else none
                    else none
                else none
            else
              if (s1.fst.isSome == s1.fst.isSome) = true then
                callO
                  (bitextref3_Concat_o0 s1.fst
                    (some
                      [(((source.getD []).getD (0 + s1.snd.fst.toNat) (0, [], 0)).fst,
                          ((source.getD []).getD (0 + s1.snd.fst.toNat) (0, [], 0)).snd.fst,
                          ((source.getD []).getD (0 + s1.snd.fst.toNat) (0, [], 0)).snd.snd)]))
                  fun r7 =>
                  if (r7.isSome == r7.isSome) = true then
                    some (Sum.inl (r7, IntKind.i64.wrap (s1.snd.fst + 1), r3.snd))
                  else none
              else none
      else none
    else some (Sum.inr (s1.fst, s1.snd.snd))
def bitextmake_Target_o1 : Option (List (Int × List UInt8 × Int)) → Option (List Int) × Int → Option (Option (List (Int × List UInt8 × Int)) × Int) :=
  fun source s =>
    callO (loopR (bitextmake_Target_o1_l0 source s) (none, 0, s.snd)) fun r1 =>
      if (r1.fst.isSome == r1.fst.isSome) = true then
        if (r1.fst.isSome == r1.fst.isSome) = true then some (r1.fst, r1.snd) else none
      else none
end Go.Fn
/- bitext/bitextref3.Has -/
namespace Go.Fn
open Go Go.Vs Go.Ve
set_option linter.unusedVariables false
def bitextref3_Has_o0_l0 : Option (List Int) → Int → Int → Option (Int ⊕ Bool ⊕ Unit) :=
  fun l n s1 =>
    if decide (s1 < lenI (l.getD [])) = true then
      if (decide (0 ≤ s1 ∧ s1 < lenI (l.getD [])) && nlt (0 + s1.toNat) (l.getD []).length) = true then
        if ((l.getD []).getD (0 + s1.toNat) 0 == n) = true then some (Sum.inr (Sum.inl true))
        else some (Sum.inl (IntKind.i64.wrap (s1 + 1)))
      else none
    else some (Sum.inr (Sum.inr ()))
def bitextref3_Has_o0 : Option (List Int) → Int → Option Bool :=
  fun l n => callO (loopR (bitextref3_Has_o0_l0 l n) 0) fun r1 => sumO r1 (fun r2 => some r2) fun r3 => some false
end Go.Fn
/- bitext/bitextref3.IsTag -/
namespace Go.Fn
open Go Go.Vs Go.Ve
set_option linter.unusedVariables false
def bitextref3_IsTag : Int × List UInt8 × Int → Option Bool :=
  fun x => some (x.fst == 2 || (x.fst == 3 || x.fst == 4))
end Go.Fn
/- bitext/bitextref3.Numbers -/
namespace Go.Fn
open Go Go.Vs Go.Ve
set_option linter.unusedVariables false
def bitextref3_Numbers_l0 : Option (List (Int × List UInt8 × Int)) → Option (List Int) × Int → Option (Option (List Int) × Int ⊕ Option (List Int)) :=
  fun f s1 =>
    if decide (s1.snd < lenI (f.getD [])) = true then
      if decide (0 ≤ s1.snd ∧ s1.snd < lenI (f.getD [])) = true then
        callO
          (bitextref3_IsTag
            (((f.getD []).getD s1.snd.toNat (0, [], 0)).fst, ((f.getD []).getD s1.snd.toNat (0, [], 0)).snd.fst,
              ((f.getD []).getD s1.snd.toNat (0, [], 0)).snd.snd))
          fun r1 =>
          if r1 = true then
            if decide (0 ≤ s1.snd ∧ s1.snd < lenI (f.getD [])) = true then
              if (s1.fst.isSome == s1.fst.isSome) = true then
                callO (bitextref3_Has_o0 s1.fst ((f.getD []).getD s1.snd.toNat (0, [], 0)).snd.snd) fun r2 =>
                  if
                      (!!r2 ||
                          decide (0 ≤ s1.snd ∧ s1.snd < lenI (f.getD [])) &&
                            (decide (0 + (s1.fst.getD []).length = (s1.fst.getD []).length) &&
                              (decide
                                  ((s1.fst.getD []).length + [((f.getD []).getD s1.snd.toNat (0, [], 0)).snd.snd].length ≤
                                    68719476736) &&
                                s1.fst.isSome == s1.fst.isSome))) =
                        true then
                    some
                      (Sum.inl
                        (if (!r2) = true then
                            some (s1.fst.getD [] ++ [((f.getD []).getD s1.snd.toNat (0, [], 0)).snd.snd])
                          else s1.fst,
                          IntKind.i64.wrap (s1.snd + 1)))
                  else none
              else none
            else none
          else some (Sum.inl (s1.fst, IntKind.i64.wrap (s1.snd + 1)))
      else none
    else some (Sum.inr s1.fst)
def bitextref3_Numbers : Option (List (Int × List UInt8 × Int)) → Option (Option (List Int)) :=
  fun f =>
    callO (loopR (bitextref3_Numbers_l0 f) (none, 0)) fun r1 =>
      if (r1.isSome == r1.isSome) = true then if (r1.isSome == r1.isSome) = true then some r1 else none else none
end Go.Fn
/- bitext/bitextref3.Normalize -/
namespace Go.Fn
open Go Go.Vs Go.Ve
set_option linter.unusedVariables false
def bitextref3_Normalize_o0_l0 : Option (List (Int × List UInt8 × Int)) →
    Option (List (Int × List UInt8 × Int)) × Int →
      Option (Option (List (Int × List UInt8 × Int)) × Int ⊕ Option (List (Int × List UInt8 × Int))) :=
  fun f s1 =>
    if decide (s1.snd < lenI (f.getD [])) = true then
      if
          (decide (0 ≤ s1.snd ∧ s1.snd < lenI (f.getD [])) && nlt (0 + s1.snd.toNat) (f.getD []).length &&
              if (((f.getD []).getD (0 + s1.snd.toNat) (0, [], 0)).fst != 1) = true then
                decide (0 + (s1.fst.getD []).length = (s1.fst.getD []).length) &&
                  (decide
                      ((s1.fst.getD []).length +
                          [(((f.getD []).getD (0 + s1.snd.toNat) (0, [], 0)).fst,
                                ((f.getD []).getD (0 + s1.snd.toNat) (0, [], 0)).snd.fst,
                                ((f.getD []).getD (0 + s1.snd.toNat) (0, [], 0)).snd.snd)].length ≤
                        68719476736) &&
                    s1.fst.isSome == s1.fst.isSome)
              else
                decide (((f.getD []).getD (0 + s1.snd.toNat) (0, [], 0)).snd.fst = []) ||
                  (!decide (lenI (s1.fst.getD []) > 0) ||
                      decide
                          (0 ≤ IntKind.i64.wrap (lenI (s1.fst.getD []) - 1) ∧
                            IntKind.i64.wrap (lenI (s1.fst.getD []) - 1) < lenI (s1.fst.getD [])) &&
                        nlt (0 + (IntKind.i64.wrap (lenI (s1.fst.getD []) - 1)).toNat) (s1.fst.getD []).length) &&
                    if
                        (decide (lenI (s1.fst.getD []) > 0) &&
                            ((s1.fst.getD []).getD (0 + (IntKind.i64.wrap (lenI (s1.fst.getD []) - 1)).toNat)
                                  (0, [], 0)).fst ==
                              1) =
                          true then
                      decide
                          (0 ≤ IntKind.i64.wrap (lenI (s1.fst.getD []) - 1) ∧
                            IntKind.i64.wrap (lenI (s1.fst.getD []) - 1) < lenI (s1.fst.getD [])) &&
                        (nlt (0 + (IntKind.i64.wrap (lenI (s1.fst.getD []) - 1)).toNat) (s1.fst.getD []).length &&
                          (decide
                              (((s1.fst.getD []).getD (0 + (IntKind.i64.wrap (lenI (s1.fst.getD []) - 1)).toNat)
                                          (0, [], 0)).snd.fst.length +
                                  ((f.getD []).getD (0 + s1.snd.toNat) (0, [], 0)).snd.fst.length ≤
                                1152921504606846976) &&
                            (decide
                                (0 ≤ IntKind.i64.wrap (lenI (s1.fst.getD []) - 1) ∧
                                  IntKind.i64.wrap (lenI (s1.fst.getD []) - 1) < lenI (s1.fst.getD [])) &&
                              nlt (0 + (IntKind.i64.wrap (lenI (s1.fst.getD []) - 1)).toNat) (s1.fst.getD []).length)))
                    else
                      decide (0 + (s1.fst.getD []).length = (s1.fst.getD []).length) &&
                        (decide
                            ((s1.fst.getD []).length +
                                [(1, ((f.getD []).getD (0 + s1.snd.toNat) (0, [], 0)).snd.fst, 0)].length ≤
                              68719476736) &&
                          s1.fst.isSome == s1.fst.isSome)) =
            true then
        some
          (Sum.inl
            (if (((f.getD []).getD (0 + s1.snd.toNat) (0, [], 0)).fst != 1) = true then
                some
                  (s1.fst.getD [] ++
                    [(((f.getD []).getD (0 + s1.snd.toNat) (0, [], 0)).fst,
                        ((f.getD []).getD (0 + s1.snd.toNat) (0, [], 0)).snd.fst,
                        ((f.getD []).getD (0 + s1.snd.toNat) (0, [], 0)).snd.snd)])
              else
                if decide (((f.getD []).getD (0 + s1.snd.toNat) (0, [], 0)).snd.fst = []) = true then s1.fst
                else
                  some
                    (if
                        (decide (lenI (s1.fst.getD []) > 0) &&
                            ((s1.fst.getD []).getD (0 + (IntKind.i64.wrap (lenI (s1.fst.getD []) - 1)).toNat)
                                  (0, [], 0)).fst ==
                              1) =
                          true then
                      (s1.fst.getD []).set (0 + (IntKind.i64.wrap (lenI (s1.fst.getD []) - 1)).toNat)
                        (1,
                          ((s1.fst.getD []).getD (0 + (IntKind.i64.wrap (lenI (s1.fst.getD []) - 1)).toNat)
                                  (0, [], 0)).snd.fst ++
                            ((f.getD []).getD (0 + s1.snd.toNat) (0, [], 0)).snd.fst,
                          0)
                    else s1.fst.getD [] ++ [(1, ((f.getD []).getD (0 + s1.snd.toNat) (0, [], 0)).snd.fst, 0)]),
              IntKind.i64.wrap (s1.snd + 1)))
      else none
    else some (Sum.inr s1.fst)
def bitextref3_Normalize_o0 : Option (List (Int × List UInt8 × Int)) → Option (Option (List (Int × List UInt8 × Int))) :=
  fun f =>
    callO (loopR (bitextref3_Normalize_o0_l0 f) (none, 0)) fun r1 =>
      if (r1.isSome == r1.isSome) = true then if (r1.isSome == r1.isSome) = true then some r1 else none else none
end Go.Fn
/- bitext/bitextref3.Rename -/
namespace Go.Fn
open Go Go.Vs Go.Ve
set_option linter.unusedVariables false
def bitextref3_Rename_o0_1_2_l1 : Option (List (Int × List UInt8 × Int)) →
    Option (List Int) →
      Option (List Int) →
        Option (List (Int × List UInt8 × Int)) × Int → Int → Option (Int ⊕ List (Int × List UInt8 × Int)) :=
  fun f from' to s1 s2 =>
    if (decide (s2 < lenI (from'.getD [])) && decide (s2 < lenI (to.getD []))) = true then
      if (decide (0 ≤ s2 ∧ s2 < lenI (from'.getD [])) && nlt (0 + s2.toNat) (from'.getD []).length) = true then
        if ((from'.getD []).getD (0 + s2.toNat) 0 == ((f.getD []).getD (0 + s1.snd.toNat) (0, [], 0)).snd.snd) = true then
          if
              (decide (0 ≤ s2 ∧ s2 < lenI (to.getD [])) &&
                  (nlt (0 + s2.toNat) (to.getD []).length &&
                    (decide (0 + (s1.fst.getD []).length = (s1.fst.getD []).length) &&
                      (decide
                          ((s1.fst.getD []).length +
                              [(((f.getD []).getD (0 + s1.snd.toNat) (0, [], 0)).fst,
                                    ((f.getD []).getD (0 + s1.snd.toNat) (0, [], 0)).snd.fst,
                                    (to.getD []).getD (0 + s2.toNat) 0)].length ≤
                            68719476736) &&
                        s1.fst.isSome == s1.fst.isSome)))) =
                true then
            some
              (Sum.inr
                (s1.fst.getD [] ++
                  [(((f.getD []).getD (0 + s1.snd.toNat) (0, [], 0)).fst,
                      ((f.getD []).getD (0 + s1.snd.toNat) (0, [], 0)).snd.fst, (to.getD []).getD (0 + s2.toNat) 0)]))
          else none
        else some (Sum.inl (IntKind.i64.wrap (s2 + 1)))
      else none
    else none
def bitextref3_Rename_o0_1_2_l0 : Option (List (Int × List UInt8 × Int)) →
    Option (List Int) →
      Option (List Int) →
        Option (List (Int × List UInt8 × Int)) × Int →
          Option (Option (List (Int × List UInt8 × Int)) × Int ⊕ Option (List (Int × List UInt8 × Int))) :=
  fun f from' to s1 =>
    if decide (s1.snd < lenI (f.getD [])) = true then
      if (decide (0 ≤ s1.snd ∧ s1.snd < lenI (f.getD [])) && nlt (0 + s1.snd.toNat) (f.getD []).length) = true then
        callO
          (bitextref3_IsTag
            (((f.getD []).getD (0 + s1.snd.toNat) (0, [], 0)).fst,
              ((f.getD []).getD (0 + s1.snd.toNat) (0, [], 0)).snd.fst,
              ((f.getD []).getD (0 + s1.snd.toNat) (0, [], 0)).snd.snd))
          fun r1 =>
          if (!r1) = true then
            if
                (decide (0 + (s1.fst.getD []).length = (s1.fst.getD []).length) &&
                    (decide
                        ((s1.fst.getD []).length +
                            [(((f.getD []).getD (0 + s1.snd.toNat) (0, [], 0)).fst,
                                  ((f.getD []).getD (0 + s1.snd.toNat) (0, [], 0)).snd.fst,
                                  ((f.getD []).getD (0 + s1.snd.toNat) (0, [], 0)).snd.snd)].length ≤
                          68719476736) &&
                      s1.fst.isSome == s1.fst.isSome)) =
                  true then
              some
                (Sum.inl
                  (some
                      (s1.fst.getD [] ++
                        [(((f.getD []).getD (0 + s1.snd.toNat) (0, [], 0)).fst,
                            ((f.getD []).getD (0 + s1.snd.toNat) (0, [], 0)).snd.fst,
                            ((f.getD []).getD (0 + s1.snd.toNat) (0, [], 0)).snd.snd)]),
                    IntKind.i64.wrap (s1.snd + 1)))
            else none
          else
            callO (loopR (bitextref3_Rename_o0_1_2_l1 f from' to s1) 0) fun r2 =>
              some (Sum.inl (some r2, IntKind.i64.wrap (s1.snd + 1)))
      else none
    else some (Sum.inr s1.fst)
def bitextref3_Rename_o0_1_2 : Option (List (Int × List UInt8 × Int)) →
    Option (List Int) → Option (List Int) → Option (Option (List (Int × List UInt8 × Int))) :=
  fun f from' to =>
    callO (loopR (bitextref3_Rename_o0_1_2_l0 f from' to) (none, 0)) fun r1 =>
      if (r1.isSome == r1.isSome) = true then
        callO (bitextref3_Normalize_o0 r1) fun r2 =>
          if (r2.isSome == r2.isSome) = true then if (r2.isSome == r2.isSome) = true then some r2 else none else none
      else none
end Go.Fn
/- bitext/bitextref3.upTo -/
namespace Go.Fn
open Go Go.Vs Go.Ve
set_option linter.unusedVariables false
def bitextref3_upTo_l0 : Int → Option (List Int) × Int → Option (Option (List Int) × Int ⊕ Option (List Int)) :=
  fun n s1 =>
    if decide (s1.snd ≤ n) = true then
      if
          (decide (0 + (s1.fst.getD []).length = (s1.fst.getD []).length) &&
              (decide ((s1.fst.getD []).length + [s1.snd].length ≤ 68719476736) && s1.fst.isSome == s1.fst.isSome)) =
            true then
        some (Sum.inl (some (s1.fst.getD [] ++ [s1.snd]), IntKind.i64.wrap (s1.snd + 1)))
      else none
    else some (Sum.inr s1.fst)
def bitextref3_upTo : Int → Option (Option (List Int)) :=
  fun n =>
    callO (loopR (bitextref3_upTo_l0 n) (none, 1)) fun r1 =>
      if (r1.isSome == r1.isSome) = true then if (r1.isSome == r1.isSome) = true then some r1 else none else none
end Go.Fn
/- bitext/bitextref3.Canonical -/
namespace Go.Fn
open Go Go.Vs Go.Ve
set_option linter.unusedVariables false
def bitextref3_Canonical_o0_1 : Option (List (Int × List UInt8 × Int)) →
    Option (List (Int × List UInt8 × Int)) →
      Option (Option (List (Int × List UInt8 × Int)) × Option (List (Int × List UInt8 × Int))) :=
  fun source target =>
    if (source.isSome == source.isSome) = true then
      if decide ((source.getD []).length ≤ 68719476736) = true then
        if (target.isSome == target.isSome) = true then
          if decide (0 + ((optL (source.getD [])).getD []).length = ((optL (source.getD [])).getD []).length) = true then
            if decide (((optL (source.getD [])).getD []).length + (target.getD []).length ≤ 68719476736) = true then
              if ((optL (source.getD [])).isSome == (optL (source.getD [])).isSome) = true then
                if
                    ((appL (optL (source.getD [])) (target.getD [])).isSome ==
                        (appL (optL (source.getD [])) (target.getD [])).isSome) =
                      true then
                  callO (bitextref3_Numbers (appL (optL (source.getD [])) (target.getD []))) fun r1 =>
                    if (r1.isSome == r1.isSome) = true then
                      callO (bitextref3_upTo (Int.ofNat (r1.getD []).length)) fun r2 =>
                        if (r2.isSome == r2.isSome) = true then
                          if (source.isSome == source.isSome) = true then
                            if (r1.isSome == r1.isSome) = true then
                              if (r2.isSome == r2.isSome) = true then
                                callO (bitextref3_Rename_o0_1_2 source r1 r2) fun r3 =>
                                  if (target.isSome == target.isSome) = true then
                                    if (r1.isSome == r1.isSome) = true then
                                      if (r2.isSome == r2.isSome) = true then
                                        callO (bitextref3_Rename_o0_1_2 target r1 r2) fun r4 =>
                                          if (r3.isSome == r3.isSome && r4.isSome == r4.isSome) = true then
                                            if (r3.isSome == r3.isSome) = true then
                                              if (r4.isSome == r4.isSome) = true then some (r3, r4) else none
                                            else none
                                          else none
                                      else none
                                    else none
                                  else none
                              else none
                            else none
                          else none
                        else none
                    else none
                else none
              else none
            else none
          else none
        else none
      else none
    else none
end Go.Fn
/- bitext/bitextmake.Entry -/
namespace Go.Fn
open Go Go.Vs Go.Ve
set_option linter.unusedVariables false
def bitextmake_Entry : Option (List Int) × Int →
    Option
      ((Option (List (Int × List UInt8 × Int)) ×
          Option (List (Int × List UInt8 × Int)) × List UInt8 × List UInt8 × List UInt8 × List UInt8 × Int × Int) ×
        Int) :=
  fun s =>
    callO (bitextmake_Fragment 4 true true (s.fst, s.snd)) fun r1 =>
      if (r1.fst.isSome == r1.fst.isSome) = true then
        if (lenI (r1.fst.getD []) == 0) = true then
          callO (bitextmake_Numbers_Next 3 (s.fst, r1.snd)) fun r2 =>
            if (decide (0 ≤ r2.fst ∧ r2.fst < 3) && nlt (0 + r2.fst.toNat) 3) = true then
              callO
                (bitextmake_Target_o1
                  (some
                    [(1,
                        [[83, 97, 118, 101], [114, 101, 100, 32, 99, 97, 114], [82, 101, 100, 32, 99, 97, 114, 115]].getD
                          (0 + r2.fst.toNat) [],
                        0)])
                  (s.fst, r2.snd))
                fun r3 =>
                if (r3.fst.isSome == r3.fst.isSome) = true then
                  if (r3.fst.isSome == r3.fst.isSome) = true then
                    callO
                      (bitextref3_Canonical_o0_1
                        (some
                          [(1,
                              [[83, 97, 118, 101], [114, 101, 100, 32, 99, 97, 114],
                                    [82, 101, 100, 32, 99, 97, 114, 115]].getD
                                (0 + r2.fst.toNat) [],
                              0)])
                        r3.fst)
                      fun r4 =>
                      if
                          (r4.fst.isSome == r4.fst.isSome &&
                              (r4.snd.isSome == r4.snd.isSome &&
                                (r4.fst.isSome == r4.fst.isSome &&
                                  (r4.snd.isSome == r4.snd.isSome &&
                                    (r4.fst.isSome == r4.fst.isSome && r4.snd.isSome == r4.snd.isSome))))) =
                            true then
                        callO (bitextmake_Numbers_Next 4 (s.fst, r3.snd)) fun r5 =>
                          if decide (0 ≤ r5.fst ∧ r5.fst < 4) = true then
                            if nlt (0 + r5.fst.toNat) 4 = true then
                              callO (bitextmake_Numbers_Next 4 (s.fst, r5.snd)) fun r6 =>
                                if decide (0 ≤ r6.fst ∧ r6.fst < 4) = true then
                                  if nlt (0 + r6.fst.toNat) 4 = true then
                                    callO (bitextmake_Numbers_Next 3 (s.fst, r6.snd)) fun r7 =>
                                      if decide (0 ≤ r7.fst ∧ r7.fst < 3) = true then
                                        if nlt (0 + r7.fst.toNat) 3 = true then
                                          callO (bitextmake_Numbers_Next 3 (s.fst, r7.snd)) fun r8 =>
                                            if decide (0 ≤ r8.fst ∧ r8.fst < 3) = true then
                                              if nlt (0 + r8.fst.toNat) 3 = true then
                                                callO (bitextmake_Numbers_Next 50 (s.fst, r8.snd)) fun r9 =>
                                                  callO (bitextmake_Numbers_Next 3 (s.fst, r9.snd)) fun r10 =>
                                                    if
                                                        (r4.fst.isSome == r4.fst.isSome &&
                                                            r4.snd.isSome == r4.snd.isSome) =
                                                          true then
                                                      some
                                                        ((r4.fst, r4.snd,
                                                            [[], [], [83, 97, 118, 101],
                                                                  [114, 101, 100, 32, 99, 97, 114]].getD
                                                              (0 + r5.fst.toNat) [],
                                                            [[], [], [120], [83, 97, 118, 101]].getD (0 + r6.fst.toNat)
                                                              [],
                                                            [[], [97, 110, 110], [98, 111, 98]].getD (0 + r7.fst.toNat)
                                                              [],
                                                            [[], [112], [113]].getD (0 + r8.fst.toNat) [], r9.fst,
                                                            IntKind.i64.wrap (1 + r10.fst)),
                                                          r10.snd)
                                                    else none
                                              else none
                                            else none
                                        else none
                                      else none
                                  else none
                                else none
                            else none
                          else none
                      else none
                  else none
                else none
            else none
        else
          if (r1.fst.isSome == r1.fst.isSome) = true then
            callO (bitextmake_Target_o1 r1.fst (s.fst, r1.snd)) fun r11 =>
              if (r11.fst.isSome == r11.fst.isSome) = true then
                if (r1.fst.isSome == r1.fst.isSome) = true then
                  if (r11.fst.isSome == r11.fst.isSome) = true then
                    callO (bitextref3_Canonical_o0_1 r1.fst r11.fst) fun r12 =>
                      if
                          (r12.fst.isSome == r12.fst.isSome &&
                              (r12.snd.isSome == r12.snd.isSome &&
                                (r12.fst.isSome == r12.fst.isSome &&
                                  (r12.snd.isSome == r12.snd.isSome &&
                                    (r12.fst.isSome == r12.fst.isSome && r12.snd.isSome == r12.snd.isSome))))) =
                            true then
                        callO (bitextmake_Numbers_Next 4 (s.fst, r11.snd)) fun r13 =>
                          if decide (0 ≤ r13.fst ∧ r13.fst < 4) = true then
                            if nlt (0 + r13.fst.toNat) 4 = true then
                              callO (bitextmake_Numbers_Next 4 (s.fst, r13.snd)) fun r14 =>
                                if decide (0 ≤ r14.fst ∧ r14.fst < 4) = true then
                                  if nlt (0 + r14.fst.toNat) 4 = true then
                                    callO (bitextmake_Numbers_Next 3 (s.fst, r14.snd)) fun r15 =>
                                      if decide (0 ≤ r15.fst ∧ r15.fst < 3) = true then
                                        if nlt (0 + r15.fst.toNat) 3 = true then
                                          callO (bitextmake_Numbers_Next 3 (s.fst, r15.snd)) fun r16 =>
                                            if decide (0 ≤ r16.fst ∧ r16.fst < 3) = true then
                                              if nlt (0 + r16.fst.toNat) 3 = true then
                                                callO (bitextmake_Numbers_Next 50 (s.fst, r16.snd)) fun r17 =>
                                                  callO (bitextmake_Numbers_Next 3 (s.fst, r17.snd)) fun r18 =>
                                                    if
                                                        (r12.fst.isSome == r12.fst.isSome &&
                                                            r12.snd.isSome == r12.snd.isSome) =
                                                          true then
                                                      some
                                                        ((r12.fst, r12.snd,
                                                            [[], [], [83, 97, 118, 101],
                                                                  [114, 101, 100, 32, 99, 97, 114]].getD
                                                              (0 + r13.fst.toNat) [],
                                                            [[], [], [120], [83, 97, 118, 101]].getD (0 + r14.fst.toNat)
                                                              [],
                                                            [[], [97, 110, 110], [98, 111, 98]].getD (0 + r15.fst.toNat)
                                                              [],
                                                            [[], [112], [113]].getD (0 + r16.fst.toNat) [], r17.fst,
                                                            IntKind.i64.wrap (1 + r18.fst)),
                                                          r18.snd)
                                                    else none
                                              else none
                                            else none
                                        else none
                                      else none
                                  else none
                                else none
                            else none
                          else none
                      else none
                  else none
                else none
              else none
          else none
      else none
end Go.Fn
/- bitext/bitextmake.Penalties -/
namespace Go.Fn
open Go Go.Vs Go.Ve
set_option linter.unusedVariables false
def bitextmake_Penalties_l0 : Option (List Int) × Int →
    Option (List (Int × List UInt8 × List UInt8 × Int × Int)) × Int × Int →
      Option
        (Option (List (Int × List UInt8 × List UInt8 × Int × Int)) × Int × Int ⊕
          Option (List (Int × List UInt8 × List UInt8 × Int × Int)) × Int) :=
  fun s s1 =>
    if decide (s1.snd.fst > 0) = true then
      callO (bitextmake_Numbers_Next 4 (s.fst, s1.snd.snd)) fun r1 =>
        callO (bitextmake_Numbers_Next 3 (s.fst, r1.snd)) fun r2 =>
          if decide (0 ≤ r2.fst ∧ r2.fst < 3) = true then
            if nlt (0 + r2.fst.toNat) 3 = true then
              callO (bitextmake_Numbers_Next 3 (s.fst, r2.snd)) fun r3 =>
                if decide (0 ≤ r3.fst ∧ r3.fst < 3) = true then
                  if nlt (0 + r3.fst.toNat) 3 = true then
                    callO (bitextmake_Numbers_Next 3 (s.fst, r3.snd)) fun r4 =>
                      callO (bitextmake_Numbers_Next 30 (s.fst, r4.snd)) fun r5 =>
                        callO (bitextmake_Numbers_Next 12 (s.fst, r5.snd)) fun r6 =>
                          if
                              (decide (0 + (s1.fst.getD []).length = (s1.fst.getD []).length) &&
                                  (decide
                                      ((s1.fst.getD []).length +
                                          [(r1.fst, [[], [], [97, 110, 110]].getD (0 + r2.fst.toNat) [],
                                                [[], [], [113]].getD (0 + r3.fst.toNat) [],
                                                IntKind.i64.wrap (r4.fst * r5.fst), r6.fst)].length ≤
                                        68719476736) &&
                                    s1.fst.isSome == s1.fst.isSome)) =
                                true then
                            some
                              (Sum.inl
                                (some
                                    (s1.fst.getD [] ++
                                      [(r1.fst, [[], [], [97, 110, 110]].getD (0 + r2.fst.toNat) [],
                                          [[], [], [113]].getD (0 + r3.fst.toNat) [],
                                          IntKind.i64.wrap (r4.fst * r5.fst), r6.fst)]),
                                  IntKind.i64.wrap (s1.snd.fst - 1), r6.snd))
                          else none
                  else none
                else none
            else none
          else none
    else some (Sum.inr (s1.fst, s1.snd.snd))
def bitextmake_Penalties : Int → Option (List Int) × Int → Option (Option (List (Int × List UInt8 × List UInt8 × Int × Int)) × Int) :=
  fun n s =>
    callO (bitextmake_Numbers_Next (IntKind.i64.wrap (n + 1)) (s.fst, s.snd)) fun r1 =>
      callO (loopR (bitextmake_Penalties_l0 s) (none, r1.fst, r1.snd)) fun r2 =>
        if (r2.fst.isSome == r2.fst.isSome) = true then
          if (r2.fst.isSome == r2.fst.isSome) = true then some (r2.fst, r2.snd) else none
        else none
end Go.Fn
/- bitext/penalty.Points -/
namespace Go.Fn
open Go Go.Vs Go.Ve
set_option linter.unusedVariables false
def penalty_Points_o0_l0 : Option (List (Int × List UInt8 × List UInt8 × Int × Int)) →
    Option (List (Int × List UInt8 × Int)) ×
        Option (List (Int × List UInt8 × Int)) × List UInt8 × List UInt8 × List UInt8 × List UInt8 × Int × Int →
      Int → Int × Int → Option (Int × Int ⊕ Int) :=
  fun l e now s1 =>
    if decide (s1.snd < lenI (l.getD [])) = true then
      if (decide (0 ≤ s1.snd ∧ s1.snd < lenI (l.getD [])) && nlt (0 + s1.snd.toNat) (l.getD []).length) = true then
        if decide (((l.getD []).getD (0 + s1.snd.toNat) (0, [], [], 0, 0)).snd.snd.snd.snd > 0) = true then
          callO
            (penalty_Applies
              (((l.getD []).getD (0 + s1.snd.toNat) (0, [], [], 0, 0)).fst,
                ((l.getD []).getD (0 + s1.snd.toNat) (0, [], [], 0, 0)).snd.fst,
                ((l.getD []).getD (0 + s1.snd.toNat) (0, [], [], 0, 0)).snd.snd.fst,
                ((l.getD []).getD (0 + s1.snd.toNat) (0, [], [], 0, 0)).snd.snd.snd.fst,
                ((l.getD []).getD (0 + s1.snd.toNat) (0, [], [], 0, 0)).snd.snd.snd.snd)
              (e.fst, e.snd.fst, e.snd.snd.fst, e.snd.snd.snd.fst, e.snd.snd.snd.snd.fst, e.snd.snd.snd.snd.snd.fst,
                e.snd.snd.snd.snd.snd.snd.fst, e.snd.snd.snd.snd.snd.snd.snd)
              now)
            fun r1 =>
            some
              (Sum.inl
                (if r1 = true then
                    minI
                      (IntKind.i64.wrap
                        (s1.fst + minI ((l.getD []).getD (0 + s1.snd.toNat) (0, [], [], 0, 0)).snd.snd.snd.snd 100))
                      100
                  else s1.fst,
                  IntKind.i64.wrap (s1.snd + 1)))
        else some (Sum.inl (s1.fst, IntKind.i64.wrap (s1.snd + 1)))
      else none
    else some (Sum.inr s1.fst)
def penalty_Points_o0 : Option (List (Int × List UInt8 × List UInt8 × Int × Int)) →
    Option (List (Int × List UInt8 × Int)) ×
        Option (List (Int × List UInt8 × Int)) × List UInt8 × List UInt8 × List UInt8 × List UInt8 × Int × Int →
      Int → Option Int :=
  fun l e now => callO (loopR (penalty_Points_o0_l0 l e now) (0, 0)) fun r1 => some r1
end Go.Fn
/- bitext/bitextlaw17.PenaltyMatters -/
namespace Go.Fn
open Go Go.Vs Go.Ve
set_option linter.unusedVariables false
def bitextlaw17_PenaltyMatters_l0 : Option (List (Int × List UInt8 × List UInt8 × Int × Int)) × Int →
    (Option (List (Int × List UInt8 × Int)) ×
          Option (List (Int × List UInt8 × Int)) × List UInt8 × List UInt8 × List UInt8 × List UInt8 × Int × Int) ×
        Int →
      Int → Bool × Int → Option (Bool × Int ⊕ Bool) :=
  fun r1 r2 r3 s1 =>
    if decide (s1.snd < lenI (r1.fst.getD [])) = true then
      if s1.fst = true then some (Sum.inl (true, IntKind.i64.wrap (s1.snd + 1)))
      else
        if decide (0 ≤ s1.snd ∧ s1.snd < lenI (r1.fst.getD [])) = true then
          if nlt (0 + s1.snd.toNat) (r1.fst.getD []).length = true then
            if decide (((r1.fst.getD []).getD (0 + s1.snd.toNat) (0, [], [], 0, 0)).snd.snd.snd.snd > 0) = true then
              if decide (0 ≤ s1.snd ∧ s1.snd < lenI (r1.fst.getD [])) = true then
                if nlt (0 + s1.snd.toNat) (r1.fst.getD []).length = true then
                  callO
                    (penalty_Applies
                      (((r1.fst.getD []).getD (0 + s1.snd.toNat) (0, [], [], 0, 0)).fst,
                        ((r1.fst.getD []).getD (0 + s1.snd.toNat) (0, [], [], 0, 0)).snd.fst,
                        ((r1.fst.getD []).getD (0 + s1.snd.toNat) (0, [], [], 0, 0)).snd.snd.fst,
                        ((r1.fst.getD []).getD (0 + s1.snd.toNat) (0, [], [], 0, 0)).snd.snd.snd.fst,
                        ((r1.fst.getD []).getD (0 + s1.snd.toNat) (0, [], [], 0, 0)).snd.snd.snd.snd)
                      (r2.fst.fst, r2.fst.snd.fst, r2.fst.snd.snd.fst, r2.fst.snd.snd.snd.fst, r2.fst.snd.snd.snd.snd.fst,
                        r2.fst.snd.snd.snd.snd.snd.fst, r2.fst.snd.snd.snd.snd.snd.snd.fst,
                        r2.fst.snd.snd.snd.snd.snd.snd.snd)
                      r3)
                    fun r4 => some (Sum.inl (r4, IntKind.i64.wrap (s1.snd + 1)))
                else none
              else none
            else some (Sum.inl (false, IntKind.i64.wrap (s1.snd + 1)))
          else none
        else none
    else some (Sum.inr s1.fst)
def bitextlaw17_PenaltyMatters : Option (List Int) → Option (List Int) → Int → Int → Option Bool :=
  fun a0 a1 a2 a3 =>
    if (decide (lenI (a0.getD []) > 100) || decide (lenI (a1.getD []) > 60)) = true then
      callO bitextlaw17_known fun r1 => some r1
    else
      callO (bitextmake_Penalties 8 (a0, 0)) fun r2 =>
        if (r2.fst.isSome == r2.fst.isSome) = true then
          callO (bitextmake_Entry (a1, 0)) fun r3 =>
            callO (bitextmake_Place a2 100) fun r4 =>
              callO (loopR (bitextlaw17_PenaltyMatters_l0 r2 r3 r4) (false, 0)) fun r5 =>
                if (r2.fst.isSome == r2.fst.isSome) = true then
                  callO
                    (penalty_Points_o0 r2.fst
                      (r3.fst.fst, r3.fst.snd.fst, r3.fst.snd.snd.fst, r3.fst.snd.snd.snd.fst, r3.fst.snd.snd.snd.snd.fst,
                        r3.fst.snd.snd.snd.snd.snd.fst, r3.fst.snd.snd.snd.snd.snd.snd.fst,
                        r3.fst.snd.snd.snd.snd.snd.snd.snd)
                      r4)
                    fun r6 =>
                    if (decide (r6 > 0) == r5) = true then
                      callO (bitextmake_Place a3 100) fun r7 =>
                        if (r2.fst.isSome == r2.fst.isSome) = true then
                          callO
                            (penalty_Points_o0 r2.fst
                              (r3.fst.fst, r3.fst.snd.fst, r3.fst.snd.snd.fst, r3.fst.snd.snd.snd.fst,
                                r3.fst.snd.snd.snd.snd.fst, r3.fst.snd.snd.snd.snd.snd.fst,
                                r3.fst.snd.snd.snd.snd.snd.snd.fst, r3.fst.snd.snd.snd.snd.snd.snd.snd)
                              (IntKind.i64.wrap (r4 + r7)))
                            fun r8 =>
                            if decide (r8 ≥ r6) = true then callO bitextlaw17_known fun r9 => some r9 else some false
                        else none
                    else some false
                else none
        else none
end Go.Fn
/- bitext/bitextlaw17.PenaltyAges -/
namespace Go.Fn
open Go Go.Vs Go.Ve
set_option linter.unusedVariables false
def bitextlaw17_PenaltyAges : Int → Int → Option Bool :=
  fun a0 a1 =>
    callO (bitextmake_Place a1 1073741824) fun r0 =>
      callO (bitextmake_Place a0 1073741824) fun r1 =>
        callO
          (penalty_Applies (0, [], [], IntKind.i64.wrap (1 + r0), 0) (none, none, [], [], [], [], r1, 0)
            (IntKind.i64.wrap (r1 + IntKind.i64.wrap (1 + r0))))
          fun r2 =>
          if (!r2) = true then some false
          else
            callO
              (penalty_Applies (0, [], [], IntKind.i64.wrap (1 + r0), 0) (none, none, [], [], [], [], r1, 0)
                (IntKind.i64.wrap (IntKind.i64.wrap (r1 + IntKind.i64.wrap (1 + r0)) - 1)))
              fun r3 =>
              if r3 = true then some false
              else
                callO
                  (penalty_Applies (0, [], [], IntKind.i64.wrap (1 + r0), 0) (none, none, [], [], [], [], r1, 0)
                    (-9223372036854775808))
                  fun r4 =>
                  if r4 = true then some false
                  else
                    callO
                      (penalty_Applies (0, [], [], IntKind.i64.wrap (1 + r0), 0) (none, none, [], [], [], [], r1, 0)
                        9223372036854775807)
                      fun r5 =>
                      if (!r5) = true then some false
                      else
                        callO
                          (penalty_Applies (0, [], [], IntKind.i64.wrap (1 + r0), 0)
                            (none, none, [], [], [], [], -9223372036854775808, 0) 0)
                          fun r6 =>
                          if (!r6) = true then some false
                          else
                            callO
                              (penalty_Applies (0, [], [], IntKind.i64.wrap (1 + r0), 0)
                                (none, none, [], [], [], [], -9223372036854775808, 0) 9223372036854775807)
                              fun r7 =>
                              if (!r7) = true then some false
                              else
                                callO
                                  (penalty_Applies (0, [], [], IntKind.i64.wrap (1 + r0), 0)
                                    (none, none, [], [], [], [], -9223372036854775808, 0) (-9223372036854775808))
                                  fun r8 =>
                                  if r8 = true then some false
                                  else
                                    callO
                                      (penalty_Applies (0, [], [], IntKind.i64.wrap (1 + r0), 0)
                                        (none, none, [], [], [], [], 9223372036854775807, 0) 0)
                                      fun r9 =>
                                      if (!r9) = true then
                                        callO
                                          (penalty_Applies (0, [], [], IntKind.i64.wrap (1 + r0), 0)
                                            (none, none, [], [], [], [], 9223372036854775807, 0) 9223372036854775807)
                                          fun r10 =>
                                          if (!r10) = true then
                                            callO
                                              (penalty_Applies (0, [], [], 0, 0)
                                                (none, none, [], [], [], [], 9223372036854775807, 0)
                                                (-9223372036854775808))
                                              fun r11 =>
                                              if r11 = true then callO bitextlaw17_known fun r12 => some r12
                                              else some false
                                          else some false
                                      else some false
end Go.Fn
/- Plain laws of the penalties: ages. -/
namespace Go.Fn
open Go Go.Vs Go.Ve
def In64 (n : Int) : Prop := -9223372036854775808 ≤ n ∧ n ≤ 9223372036854775807
theorem Wf_ints {o : Option (List Int)} (h : Wf (.sl (.int .i64)) o) : ∀ x ∈ o.getD [], In64 x := by
  cases o with
  | none => intro x hx; cases hx
  | some xs => exact h
theorem fdiv63 {n : Int} (h : In64 n) : n.fdiv 9223372036854775808 = if n < 0 then -1 else 0 := by
  rw [Int.fdiv_eq_ediv_of_nonneg _ (by decide)]
  unfold In64 at h
  split <;> omega
theorem wrap_u64 {n : Int} (h : In64 n) : IntKind.u64.wrap n = if n < 0 then n + 18446744073709551616 else n := by
  unfold In64 at h
  simp only [IntKind.wrap, IntKind.bits, IntKind.signed]
  simp
  split <;> omega
theorem aged_eq {now created older : Int} (h1 : In64 now) (h2 : In64 created) (h3 : In64 older) : penalty_aged now created older = some (decide (older ≤ now - created)) := by
  simp only [penalty_aged, penalty_widen, callO_some, fdiv63 h1, fdiv63 h2, fdiv63 h3, wrap_u64 h1, wrap_u64 h2, wrap_u64 h3]
  unfold In64 at *
  have hs : ∀ x y : Int, 0 ≤ x → 0 ≤ y → y ≤ 18446744073709551616 → bits_Sub64 x y 0 = some ((x + 18446744073709551616 - y) % 18446744073709551616, if x < y then 1 else 0) := by
    intro x y a b c
    unfold bits_Sub64
    rw [if_pos ⟨a, b, c, rfl⟩]
  rw [hs _ _ (by split <;> omega) (by split <;> omega) (by split <;> omega)]
  simp only [callO_some]
  congr 1
  have hb : ∀ (c : Prop) [Decidable c], IntKind.i64.wrap (if c then (1 : Int) else 0) = if c then 1 else 0 := by intro c _; split <;> rfl
  rw [hb]
  generalize ha : (if now < 0 then now + 18446744073709551616 else now) = a
  generalize hc : (if created < 0 then created + 18446744073709551616 else created) = c
  rw [wrap_i64 (n := (if now < 0 then -1 else 0) - if created < 0 then -1 else 0) (by split <;> split <;> omega) (by split <;> split <;> omega)]
  rw [wrap_i64 (by split <;> split <;> split <;> omega) (by split <;> split <;> split <;> omega)]
  rw [Bool.eq_iff_iff]
  simp only [Bool.or_eq_true, Bool.and_eq_true, decide_eq_true_eq, beq_iff_eq]
  split at ha <;> split at hc <;> split <;> split <;> omega
theorem place_eq {x n : Int} (hx : In64 x) (hn : 1 ≤ n) (hn2 : n ≤ 4611686018427387904) : bitextmake_Place x n = some (x % n) := by
  unfold In64 at hx
  unfold bitextmake_Place
  rw [if_pos (by simp; omega)]
  congr 1
  have h0 := Int.emod_nonneg x (show n ≠ 0 by omega)
  have h1 := Int.emod_lt_of_pos x (show 0 < n by omega)
  rcases Int.lt_or_le x 0 with h | h
  · have e : x.tmod n = if n ∣ x then 0 else x % n - n := by
      rw [Int.tmod_eq_emod]
      split <;> rename_i hd
      · rcases hd with hd | hd
        · omega
        · rw [if_pos hd]; have := Int.emod_eq_zero_of_dvd hd; omega
      · rw [if_neg (fun hd' => hd (.inr hd'))]
        omega
    rw [e]
    split <;> rename_i hd
    · simp [Int.emod_eq_zero_of_dvd hd]
    · rw [if_pos (by simp; omega), wrap_i64 (by omega) (by omega)]; omega
  · rw [Int.tmod_eq_emod_of_nonneg h, if_neg (by simp; omega)]
theorem known_eq : bitextlaw17_known = some true := by kernel_rfl
theorem applies_old {older created pts now : Int} {src : Option (List (Int × List UInt8 × Int)) × Option (List (Int × List UInt8 × Int)) × List UInt8 × List UInt8 × List UInt8 × List UInt8} {org : Int} (h1 : In64 now) (h2 : In64 created) (h3 : In64 older) :
    penalty_Applies (0, [], [], older, pts) (src.1, src.2.1, src.2.2.1, src.2.2.2.1, src.2.2.2.2.1, src.2.2.2.2.2, created, org) now = some (decide (older ≤ 0 ∨ older ≤ now - created)) := by
  unfold penalty_Applies
  simp only [aged_eq h1 h2 h3, callO_some]
  by_cases h : older ≤ 0 <;> simp [h]
theorem ages_holds (a b : Int) (ha : In64 a) (hb : In64 b) : bitextlaw17_PenaltyAges a b = some true := by
  unfold bitextlaw17_PenaltyAges
  rw [place_eq hb (by decide) (by decide)]
  have hr := Int.emod_nonneg b (show (1073741824 : Int) ≠ 0 by decide)
  have hr' := Int.emod_lt_of_pos b (show (0 : Int) < 1073741824 by decide)
  have hq := Int.emod_nonneg a (show (1073741824 : Int) ≠ 0 by decide)
  have hq' := Int.emod_lt_of_pos a (show (0 : Int) < 1073741824 by decide)
  rw [place_eq ha (by decide) (by decide)]
  simp only [callO_some]
  generalize b % 1073741824 = r at *
  generalize a % 1073741824 = q at *
  have h0 : In64 (1 + r) := by unfold In64; omega
  have h2 : In64 q := by unfold In64; omega
  have ap := fun (older created pts now org : Int) h1 h2 h3 => applies_old (older := older) (created := created) (pts := pts) (now := now) (src := (none, none, [], [], [], [])) (org := org) h1 h2 h3
  simp only at ap
  rw [wrap_i64 h0.1 h0.2, wrap_i64 (n := q + (1 + r)) (by omega) (by omega), wrap_i64 (n := q + (1 + r) - 1) (by omega) (by omega)]
  rw [ap _ _ _ _ _ (by unfold In64; omega) h2 h0, callO_some, decide_eq_true (by omega : 1 + r ≤ 0 ∨ 1 + r ≤ q + (1 + r) - q)]
  rw [ap _ _ _ _ _ (by unfold In64; omega) h2 h0, callO_some, decide_eq_false (by omega : ¬ (1 + r ≤ 0 ∨ 1 + r ≤ q + (1 + r) - 1 - q))]
  rw [ap _ _ _ _ _ (by unfold In64; omega) h2 h0, callO_some, decide_eq_false (by omega : ¬ (1 + r ≤ 0 ∨ 1 + r ≤ -9223372036854775808 - q))]
  rw [ap _ _ _ _ _ (by unfold In64; omega) h2 h0, callO_some, decide_eq_true (by omega : (1 + r ≤ 0 ∨ 1 + r ≤ 9223372036854775807 - q))]
  rw [ap _ _ _ _ _ (by unfold In64; omega) (by unfold In64; omega) h0, callO_some, decide_eq_true (by omega : (1 + r ≤ 0 ∨ 1 + r ≤ 0 - -9223372036854775808))]
  rw [ap _ _ _ _ _ (by unfold In64; omega) (by unfold In64; omega) h0, callO_some, decide_eq_true (by omega : (1 + r ≤ 0 ∨ 1 + r ≤ 9223372036854775807 - -9223372036854775808))]
  rw [ap _ _ _ _ _ (by unfold In64; omega) (by unfold In64; omega) h0, callO_some, decide_eq_false (by omega : ¬ (1 + r ≤ 0 ∨ 1 + r ≤ -9223372036854775808 - -9223372036854775808))]
  rw [ap _ _ _ _ _ (by unfold In64; omega) (by unfold In64; omega) h0, callO_some, decide_eq_false (by omega : ¬ (1 + r ≤ 0 ∨ 1 + r ≤ 0 - 9223372036854775807))]
  rw [ap _ _ _ _ _ (by unfold In64; omega) (by unfold In64; omega) h0, callO_some, decide_eq_false (by omega : ¬ (1 + r ≤ 0 ∨ 1 + r ≤ 9223372036854775807 - 9223372036854775807))]
  rw [ap _ _ _ _ _ (by unfold In64; omega) (by unfold In64; omega) (by unfold In64; omega), callO_some]
  simp [known_eq]
end Go.Fn
/- bitext/bitextref16.old -/
namespace Go.Fn
open Go Go.Vs Go.Ve
set_option linter.unusedVariables false
def bitextref16_old : Int → Int → Int → Option Bool :=
  fun now created older =>
    some
      (decide (older ≤ 0) ||
        decide (now ≥ IntKind.i64.wrap (-9223372036854775808 + older)) &&
          decide (created ≤ IntKind.i64.wrap (now - older)))
end Go.Fn
/- bitext/bitextref16.Applies -/
namespace Go.Fn
open Go Go.Vs Go.Ve
set_option linter.unusedVariables false
def bitextref16_Applies : Int × List UInt8 × List UInt8 × Int × Int →
    Option (List (Int × List UInt8 × Int)) ×
        Option (List (Int × List UInt8 × Int)) × List UInt8 × List UInt8 × List UInt8 × List UInt8 × Int × Int →
      Int → Option Bool :=
  fun p e now =>
    if (p.fst == 0) = true then
      if decide (p.snd.fst = []) = true then
        if decide (p.snd.snd.fst = []) = true then
          callO (bitextref16_old now e.snd.snd.snd.snd.snd.snd.fst p.snd.snd.snd.fst) fun r0 => some r0
        else
          if decide (p.snd.snd.fst = e.snd.snd.snd.snd.snd.fst) = true then
            callO (bitextref16_old now e.snd.snd.snd.snd.snd.snd.fst p.snd.snd.snd.fst) fun r1 => some r1
          else some false
      else
        if decide (p.snd.fst = e.snd.snd.snd.snd.fst) = true then
          if decide (p.snd.snd.fst = []) = true then
            callO (bitextref16_old now e.snd.snd.snd.snd.snd.snd.fst p.snd.snd.snd.fst) fun r2 => some r2
          else
            if decide (p.snd.snd.fst = e.snd.snd.snd.snd.snd.fst) = true then
              callO (bitextref16_old now e.snd.snd.snd.snd.snd.snd.fst p.snd.snd.snd.fst) fun r3 => some r3
            else some false
        else some false
    else
      if (p.fst == e.snd.snd.snd.snd.snd.snd.snd) = true then
        if decide (p.snd.fst = []) = true then
          if decide (p.snd.snd.fst = []) = true then
            callO (bitextref16_old now e.snd.snd.snd.snd.snd.snd.fst p.snd.snd.snd.fst) fun r4 => some r4
          else
            if decide (p.snd.snd.fst = e.snd.snd.snd.snd.snd.fst) = true then
              callO (bitextref16_old now e.snd.snd.snd.snd.snd.snd.fst p.snd.snd.snd.fst) fun r5 => some r5
            else some false
        else
          if decide (p.snd.fst = e.snd.snd.snd.snd.fst) = true then
            if decide (p.snd.snd.fst = []) = true then
              callO (bitextref16_old now e.snd.snd.snd.snd.snd.snd.fst p.snd.snd.snd.fst) fun r6 => some r6
            else
              if decide (p.snd.snd.fst = e.snd.snd.snd.snd.snd.fst) = true then
                callO (bitextref16_old now e.snd.snd.snd.snd.snd.snd.fst p.snd.snd.snd.fst) fun r7 => some r7
              else some false
          else some false
      else some false
end Go.Fn
/- bitext/bitextref16.Points -/
namespace Go.Fn
open Go Go.Vs Go.Ve
set_option linter.unusedVariables false
def bitextref16_Points_l0 : Option (List (Int × List UInt8 × List UInt8 × Int × Int)) →
    Option (List (Int × List UInt8 × Int)) ×
        Option (List (Int × List UInt8 × Int)) × List UInt8 × List UInt8 × List UInt8 × List UInt8 × Int × Int →
      Int → Int × Int → Option (Int × Int ⊕ Int) :=
  fun l e now s0 =>
    if decide (s0.snd < lenI (l.getD [])) = true then
      if decide (0 ≤ s0.snd ∧ s0.snd < lenI (l.getD [])) = true then
        callO
          (bitextref16_Applies
            (((l.getD []).getD s0.snd.toNat (0, [], [], 0, 0)).fst,
              ((l.getD []).getD s0.snd.toNat (0, [], [], 0, 0)).snd.fst,
              ((l.getD []).getD s0.snd.toNat (0, [], [], 0, 0)).snd.snd.fst,
              ((l.getD []).getD s0.snd.toNat (0, [], [], 0, 0)).snd.snd.snd.fst,
              ((l.getD []).getD s0.snd.toNat (0, [], [], 0, 0)).snd.snd.snd.snd)
            (e.fst, e.snd.fst, e.snd.snd.fst, e.snd.snd.snd.fst, e.snd.snd.snd.snd.fst, e.snd.snd.snd.snd.snd.fst,
              e.snd.snd.snd.snd.snd.snd.fst, e.snd.snd.snd.snd.snd.snd.snd)
            now)
          fun r1 =>
          some
            (Sum.inl
              (if r1 = true then
                  minI 100
                    (IntKind.i64.wrap
                      (s0.fst + minI 100 (maxI 0 ((l.getD []).getD s0.snd.toNat (0, [], [], 0, 0)).snd.snd.snd.snd)))
                else s0.fst,
                IntKind.i64.wrap (s0.snd + 1)))
      else none
    else some (Sum.inr s0.fst)
def bitextref16_Points : Option (List (Int × List UInt8 × List UInt8 × Int × Int)) →
    Option (List (Int × List UInt8 × Int)) ×
        Option (List (Int × List UInt8 × Int)) × List UInt8 × List UInt8 × List UInt8 × List UInt8 × Int × Int →
      Int → Option Int :=
  fun l e now => callO (loopR (bitextref16_Points_l0 l e now) (0, 0)) fun r2 => some r2
end Go.Fn
/- Plain laws of the penalties: what Applies and Points give. -/
namespace Go.Fn
open Go Go.Vs Go.Ve
abbrev Pen := Int × List UInt8 × List UInt8 × Int × Int
abbrev Ent := Option (List (Int × List UInt8 × Int)) × Option (List (Int × List UInt8 × Int)) × List UInt8 × List UInt8 × List UInt8 × List UInt8 × Int × Int
def applies (p : Pen) (e : Ent) (now : Int) : Bool :=
  (p.1 == 0 || p.1 == e.2.2.2.2.2.2.2) && (decide (p.2.1 = []) || decide (p.2.1 = e.2.2.2.2.1)) && (decide (p.2.2.1 = []) || decide (p.2.2.1 = e.2.2.2.2.2.1)) && (decide (p.2.2.2.1 ≤ 0) || decide (p.2.2.2.1 ≤ now - e.2.2.2.2.2.2.1))
theorem Applies_eq {p : Pen} {e : Ent} {now : Int} (h1 : In64 now) (h2 : In64 e.2.2.2.2.2.2.1) (h3 : In64 p.2.2.2.1) : penalty_Applies p e now = some (applies p e now) := by
  obtain ⟨o, a, b, old, pts⟩ := p
  obtain ⟨s, t, pr, nx, au, pj, cr, org⟩ := e
  simp only at h2 h3
  unfold penalty_Applies applies
  simp only [aged_eq h1 h2 h3, callO_some]
  by_cases c1 : o = 0 <;> by_cases c2 : o = org <;> by_cases c3 : a = [] <;> by_cases c4 : a = au <;> by_cases c5 : b = [] <;> by_cases c6 : b = pj <;> by_cases c7 : old ≤ 0 <;> simp [c1, c2, c3, c4, c5, c6, c7]
theorem old_eq {now created older : Int} (h1 : In64 now) (h2 : In64 created) (h3 : In64 older) : bitextref16_old now created older = some (decide (older ≤ 0) || decide (older ≤ now - created)) := by
  unfold bitextref16_old
  unfold In64 at *
  by_cases c : older ≤ 0
  · simp [c]
  · rw [wrap_i64 (n := -9223372036854775808 + older) (by omega) (by omega)]
    by_cases c2 : now ≥ -9223372036854775808 + older
    · rw [wrap_i64 (n := now - older) (by omega) (by omega)]
      simp [c, c2]
      omega
    · simp [c, c2]
      omega
theorem Applies16_eq {p : Pen} {e : Ent} {now : Int} (h1 : In64 now) (h2 : In64 e.2.2.2.2.2.2.1) (h3 : In64 p.2.2.2.1) : bitextref16_Applies p e now = some (applies p e now) := by
  obtain ⟨o, a, b, old, pts⟩ := p
  obtain ⟨s, t, pr, nx, au, pj, cr, org⟩ := e
  simp only at h2 h3
  unfold bitextref16_Applies applies
  simp only [old_eq h1 h2 h3, callO_some]
  by_cases c1 : o = 0 <;> by_cases c2 : o = org <;> by_cases c3 : a = [] <;> by_cases c4 : a = au <;> by_cases c5 : b = [] <;> by_cases c6 : b = pj <;> simp [c1, c2, c3, c4, c5, c6]
/-- the points that a penalty adds -/
def pts1 (e : Ent) (now : Int) (p : Pen) : Int := if applies p e now then max 0 (min p.2.2.2.2 100) else 0
def ptsL (e : Ent) (now : Int) : List Pen → Int
  | [] => 0
  | p :: r => pts1 e now p + ptsL e now r
theorem pts1_nonneg (e : Ent) (now : Int) (p : Pen) : 0 ≤ pts1 e now p := by unfold pts1; split <;> omega
theorem ptsL_nonneg (e : Ent) (now : Int) : ∀ l, 0 ≤ ptsL e now l
  | [] => by simp [ptsL]
  | p :: r => by have := ptsL_nonneg e now r; have := pts1_nonneg e now p; simp only [ptsL]; omega
theorem ptsL_append (e : Ent) (now : Int) : ∀ l m, ptsL e now (l ++ m) = ptsL e now l + ptsL e now m
  | [], m => by simp [ptsL]
  | p :: r, m => by simp only [List.cons_append, ptsL, ptsL_append e now r m]; omega
def PenOk (l : Option (List Pen)) : Prop := (∀ p ∈ l.getD [], In64 p.2.2.2.1 ∧ In64 p.2.2.2.2) ∧ (l.getD []).length ≤ 4294967296
theorem foldO_pts {e : Ent} {now : Int} {g : Int → Pen → Option (Int ⊕ Int)} : ∀ (l : List Pen) (n : Int), (∀ p ∈ l, ∀ n, 0 ≤ n → n ≤ 100 → g n p = some (.inl (min 100 (n + pts1 e now p)))) → 0 ≤ n → n ≤ 100 → foldO g (fun n => some n) l n = some (min 100 (n + ptsL e now l))
  | [], n, _, h0, h1 => by simp only [foldO, ptsL]; congr 1; omega
  | p :: r, n, h, h0, h1 => by
    rw [foldO, h p (List.mem_cons_self ..) n h0 h1]
    simp only
    have := pts1_nonneg e now p
    rw [foldO_pts r _ (fun q hq => h q (List.mem_cons_of_mem _ hq)) (by omega) (by omega)]
    have := ptsL_nonneg e now r
    simp only [ptsL]
    congr 1
    omega
theorem minI_eq (a b : Int) : minI a b = min a b := by unfold minI; split <;> omega
theorem maxI_eq (a b : Int) : maxI a b = max a b := by unfold maxI; split <;> omega
theorem Points_eq {l : Option (List Pen)} {e : Ent} {now : Int} (h1 : In64 now) (h2 : In64 e.2.2.2.2.2.2.1) (hl : PenOk l) : penalty_Points l e now = some (min 100 (ptsL e now (l.getD []))) := by
  unfold penalty_Points
  have key := loopR_fold (f := penalty_Points_l0 l e now) (fun n p => some (.inl (if p.2.2.2.2 > 0 then (if applies p e now then min (IntKind.i64.wrap (n + min p.2.2.2.2 100)) 100 else n) else n))) (fun n => some n) (fun n i => (n, (i : Int))) (l.getD []) ?_ ?_ ?_ 0
  · rw [show ((0 : Int), (0 : Int)) = (fun (n : Int) (i : Nat) => (n, (i : Int))) 0 0 from rfl, key]
    rw [foldO_pts (e := e) (now := now)]
    · simp only [callO_some, Int.zero_add]
    · intro p hp n h0 h1
      congr 2
      unfold pts1
      by_cases c1 : p.2.2.2.2 > 0 <;> by_cases c2 : applies p e now
      · rw [if_pos c1, if_pos c2, if_pos c2, wrap_i64 (by omega) (by omega)]; omega
      · rw [if_pos c1, if_neg c2, if_neg c2]; omega
      · rw [if_neg c1, if_pos c2]; omega
      · rw [if_neg c1, if_neg c2]; omega
    · omega
    · omega
  · intro n i hi
    have hm := hl.1 _ (List.getElem_mem hi)
    unfold penalty_Points_l0
    refine (rangeIn hi).trans ?_
    simp only [getD_at hi]
    rw [Applies_eq (e := e) h1 h2 (p := ((l.getD [])[i].1, (l.getD [])[i].2.1, (l.getD [])[i].2.2.1, (l.getD [])[i].2.2.2.1, (l.getD [])[i].2.2.2.2)) hm.1]
    rw [wrap_succ hi (Nat.le_trans hl.2 (by decide))]
    simp only [callO_some, minI_eq]
    by_cases c1 : (l.getD [])[i].2.2.2.2 > 0
    · simp only [c1, decide_true, if_true]
    · simp only [c1, decide_false, if_false]; rfl
  · intro n
    unfold penalty_Points_l0
    exact rangeOut
  · exact Nat.lt_of_le_of_lt hl.2 (by decide)
theorem Points16_eq {l : Option (List Pen)} {e : Ent} {now : Int} (h1 : In64 now) (h2 : In64 e.2.2.2.2.2.2.1) (hl : PenOk l) : bitextref16_Points l e now = some (min 100 (ptsL e now (l.getD []))) := by
  unfold bitextref16_Points
  have key := loopR_fold (f := bitextref16_Points_l0 l e now) (fun n p => some (.inl (if applies p e now then min 100 (IntKind.i64.wrap (n + min 100 (max 0 p.2.2.2.2))) else n))) (fun n => some n) (fun n i => (n, (i : Int))) (l.getD []) ?_ ?_ ?_ 0
  · rw [show ((0 : Int), (0 : Int)) = (fun (n : Int) (i : Nat) => (n, (i : Int))) 0 0 from rfl, key]
    rw [foldO_pts (e := e) (now := now)]
    · simp only [callO_some, Int.zero_add]
    · intro p hp n h0 h1
      congr 2
      unfold pts1
      by_cases c2 : applies p e now
      · rw [if_pos c2, if_pos c2, wrap_i64 (by omega) (by omega)]; omega
      · rw [if_neg c2, if_neg c2]; omega
    · omega
    · omega
  · intro n i hi
    have hm := hl.1 _ (List.getElem_mem hi)
    unfold bitextref16_Points_l0
    refine (rangeIn hi).trans ?_
    simp only [getD_at hi]
    rw [Applies16_eq (e := e) h1 h2 (p := ((l.getD [])[i].1, (l.getD [])[i].2.1, (l.getD [])[i].2.2.1, (l.getD [])[i].2.2.2.1, (l.getD [])[i].2.2.2.2)) hm.1]
    rw [wrap_succ hi (Nat.le_trans hl.2 (by decide))]
    simp only [callO_some, minI_eq, maxI_eq]
  · intro n
    unfold bitextref16_Points_l0
    exact rangeOut
  · exact Nat.lt_of_le_of_lt hl.2 (by decide)
end Go.Fn
/- Plain laws of the makers of inputs: numbers, words, lines, penalties. -/
namespace Go.Fn
open Go Go.Vs Go.Ve
/-- numbers that are left, of which c are used -/
def Num (s : Option (List Int) × Int) (c : Int) : Prop := (∀ x ∈ s.1.getD [], In64 x) ∧ 0 ≤ s.2 ∧ s.2 ≤ c
theorem Num.le {s : Option (List Int) × Int} {c d : Int} (h : Num s c) (hd : c ≤ d) : Num s d := ⟨h.1, h.2.1, by have := h.2.2; omega⟩
theorem Num.at {L : Option (List Int)} {k c k' c' : Int} (h : Num (L, k) c) (h0 : 0 ≤ k') (h1 : k' ≤ c') : Num (L, k') c' := ⟨h.1, h0, h1⟩
theorem Next_ok {L : Option (List Int)} {k c n : Int} (h : Num (L, k) c) (hc : c ≤ 1099511627776) (hn : 1 ≤ n) (hn2 : n ≤ 4611686018427387904) :
    Ok (bitextmake_Numbers_Next n (L, k)) fun r => 0 ≤ r.1 ∧ r.1 < n ∧ Num (L, r.2) (c + 1) := by
  obtain ⟨h1, h2, h3⟩ := h
  simp only at h1 h2 h3
  unfold bitextmake_Numbers_Next
  show Ok (if (!decide (k < lenI (L.getD [])) || decide (0 ≤ k ∧ k < lenI (L.getD []))) = true then callO (bitextmake_Place (if decide (k < lenI (L.getD [])) = true then (L.getD []).getD k.toNat 0 else 0) n) (fun r0 => some (r0, IntKind.i64.wrap (k + 1))) else none) _
  have hl : lenI (L.getD []) = ((L.getD []).length : Int) := rfl
  refine Ok.pos ?_ ?_
  · rw [Bool.or_eq_true, Bool.not_eq_true', decide_eq_false_iff_not, decide_eq_true_iff]
    omega
  · have hx : In64 (if decide (k < lenI (L.getD [])) = true then (L.getD []).getD k.toNat 0 else 0) := by
      split
      · rename_i hk
        have hk := of_decide_eq_true hk
        have hlt : k.toNat < (L.getD []).length := by omega
        rw [List.getD_eq_getElem?_getD, List.getElem?_eq_getElem hlt]
        exact h1 _ (List.getElem_mem hlt)
      · unfold In64; omega
    rw [place_eq hx hn hn2, callO_some]
    refine Ok.ret ⟨Int.emod_nonneg _ (show n ≠ 0 by omega), Int.emod_lt_of_pos _ (show 0 < n by omega), ?_⟩
    rw [wrap_i64 (by omega) (by omega)]
    exact ⟨h1, by simp only; omega, by simp only; omega⟩
/-- a text taken out of a table -/
theorem table_ok {ws : List (List UInt8)} {x n : Int} (Q : List UInt8 → Prop) (h0 : 0 ≤ x) (h1 : x < n) (hn : n = ws.length) (h : ∀ w ∈ ws, Q w) : Q (ws.getD (0 + x.toNat) []) := by
  have : 0 + x.toNat < ws.length := by omega
  rw [List.getD_eq_getElem?_getD, List.getElem?_eq_getElem this]
  exact h _ (List.getElem_mem this)
theorem word_ok {L : Option (List Int)} {k c : Int} (h : Num (L, k) c) (hc : c ≤ 1099511627776) : Ok (bitextmake_word (L, k)) fun r => r.1.length ≤ 5 ∧ Num (L, r.2) (c + 1) := by
  unfold bitextmake_word
  refine Ok.call (Next_ok h hc (by decide) (by decide)) fun r hr => ?_
  obtain ⟨h0, h1, h2⟩ := hr
  refine Ok.pos ?_ (Ok.ret ⟨?_, h2⟩)
  · rw [Bool.and_eq_true, decide_eq_true_iff, nlt_iff]; omega
  · exact table_ok (fun w => w.length ≤ 5) h0 h1 (by decide) (by decide)
theorem Line_ok {L : Option (List Int)} {k c n : Int} (h : Num (L, k) c) (hc : c ≤ 549755813888) (hn : 0 ≤ n) (hn2 : n ≤ 1048576) :
    Ok (bitextmake_Line n (L, k)) fun r => (r.1.length : Int) ≤ 6 * n ∧ Num (L, r.2) (c + 1 + 2 * n) := by
  unfold bitextmake_Line
  rw [wrap_i64 (by omega) (by omega)]
  refine Ok.call (Next_ok h (by omega) (by omega) (by omega)) fun r hr => ?_
  obtain ⟨h0, h1, h2⟩ := hr
  refine Ok.call (Ok.loop (fun s => 0 ≤ s.2.1 ∧ s.2.1 ≤ n ∧ (s.1.length : Int) ≤ 6 * (n - s.2.1) ∧ Num (L, s.2.2) (c + 1 + 2 * (n - s.2.1))) (fun s => s.2.1.toNat)
    (R := fun r => (r.1.length : Int) ≤ 6 * n ∧ Num (L, r.2) (c + 1 + 2 * n)) ⟨h0, by (try dsimp only); omega, by simp only [List.length_nil]; omega, h2.le (by (try dsimp only); omega)⟩ (by unfold fuel; (try dsimp only); omega) ?_) ?_
  · rintro ⟨t, i, k'⟩ ⟨g0, g1, g2, g3⟩
    simp only at g0 g1 g2 g3
    unfold bitextmake_Line_l0
    dsimp only
    refine Ok.dec (fun hi => ?_) (fun hi => ?_)
    · refine Ok.call (word_ok g3 (by omega)) fun w hw => ?_
      obtain ⟨w1, w2⟩ := hw
      refine Ok.ite (fun _ => ?_) fun _ => ?_
      · refine Ok.call (Next_ok w2 (by omega) (by decide) (by decide)) fun q hq => ?_
        obtain ⟨q0, q1, q2⟩ := hq
        refine Ok.pos ?_ (Ok.ret ⟨⟨?_, ?_, ?_, ?_⟩, ?_⟩)
        · rw [Bool.and_eq_true, Bool.or_eq_true, decide_eq_true_iff, decide_eq_true_iff]
          refine ⟨.inr ?_, ?_⟩
          · (try dsimp only); omega
          · split
            · simp only [List.length_append, List.length_cons, List.length_nil]; omega
            · omega
        · rw [wrap_i64 (by omega) (by omega)]; (try dsimp only); omega
        · rw [wrap_i64 (by omega) (by omega)]; (try dsimp only); omega
        · rw [wrap_i64 (by omega) (by omega)]
          (try dsimp only)
          simp only [List.length_append]
          split
          · simp only [List.length_append, List.length_cons, List.length_nil]; omega
          · omega
        · rw [wrap_i64 (by omega) (by omega)]; exact q2.le (by (try dsimp only); omega)
        · rw [wrap_i64 (by omega) (by omega)]; (try dsimp only); omega
      · refine Ok.grd (by (try dsimp only); omega) (Ok.ret ⟨⟨?_, ?_, ?_, ?_⟩, ?_⟩)
        · rw [wrap_i64 (by omega) (by omega)]; (try dsimp only); omega
        · rw [wrap_i64 (by omega) (by omega)]; (try dsimp only); omega
        · rw [wrap_i64 (by omega) (by omega)]; (try dsimp only); simp only [List.length_append]; omega
        · rw [wrap_i64 (by omega) (by omega)]; exact w2.le (by (try dsimp only); omega)
        · rw [wrap_i64 (by omega) (by omega)]; (try dsimp only); omega
    · exact Ok.ret ⟨by (try dsimp only); omega, g3.le (by omega)⟩
  · intro r hr
    exact Ok.ret hr
theorem in64_of {x a b : Int} (h0 : a ≤ x) (h1 : x ≤ b) (ha : -9223372036854775808 ≤ a) (hb : b ≤ 9223372036854775807) : In64 x := ⟨by omega, by omega⟩
theorem Penalties_ok {L : Option (List Int)} {k c n : Int} (h : Num (L, k) c) (hc : c ≤ 549755813888) (hn : 0 ≤ n) (hn2 : n ≤ 1048576) :
    Ok (bitextmake_Penalties n (L, k)) fun r => PenOk r.1 ∧ ((r.1.getD []).length : Int) ≤ n ∧ Num (L, r.2) (c + 1 + 6 * n) := by
  unfold bitextmake_Penalties
  rw [wrap_i64 (by omega) (by omega)]
  refine Ok.call (Next_ok h (by omega) (by omega) (by omega)) fun r hr => ?_
  obtain ⟨h0, h1, h2⟩ := hr
  refine Ok.call (Ok.loop (fun s => 0 ≤ s.2.1 ∧ s.2.1 ≤ n ∧ ((s.1.getD []).length : Int) ≤ n - s.2.1 ∧ (∀ p ∈ s.1.getD [], In64 p.2.2.2.1 ∧ In64 p.2.2.2.2) ∧ Num (L, s.2.2) (c + 1 + 6 * (n - s.2.1))) (fun s => s.2.1.toNat)
    (R := fun r => ((r.1.getD []).length : Int) ≤ n ∧ (∀ p ∈ r.1.getD [], In64 p.2.2.2.1 ∧ In64 p.2.2.2.2) ∧ Num (L, r.2) (c + 1 + 6 * n)) ⟨h0, by (try dsimp only); omega, by simp only [Option.getD_none, List.length_nil]; omega, by simp, h2.le (by (try dsimp only); omega)⟩ (by unfold fuel; (try dsimp only); omega) ?_) ?_
  · rintro ⟨t, i, k'⟩ ⟨g0, g1, g2, g3, g4⟩
    simp only at g0 g1 g2 g3 g4
    unfold bitextmake_Penalties_l0
    dsimp only
    refine Ok.dec (fun hi => ?_) (fun hi => ?_)
    · refine Ok.call (Next_ok g4 (by omega) (by decide) (by decide)) fun a ha => ?_
      refine Ok.call (Next_ok ha.2.2 (by omega) (by decide) (by decide)) fun b hb => ?_
      refine Ok.grd ⟨hb.1, hb.2.1⟩ (Ok.pos ((nlt_iff _ _).2 (by have := hb.1; have := hb.2.1; omega)) ?_)
      refine Ok.call (Next_ok hb.2.2 (by omega) (by decide) (by decide)) fun d hd => ?_
      refine Ok.grd ⟨hd.1, hd.2.1⟩ (Ok.pos ((nlt_iff _ _).2 (by have := hd.1; have := hd.2.1; omega)) ?_)
      refine Ok.call (Next_ok hd.2.2 (by omega) (by decide) (by decide)) fun e he => ?_
      refine Ok.call (Next_ok he.2.2 (by omega) (by decide) (by decide)) fun f hf => ?_
      refine Ok.call (Next_ok hf.2.2 (by omega) (by decide) (by decide)) fun g hg => ?_
      have hm : In64 (IntKind.i64.wrap (e.1 * f.1)) := by
        have b1 : 0 ≤ e.1 * f.1 := Int.mul_nonneg he.1 hf.1
        have b2 : e.1 * f.1 ≤ 3 * 30 := Int.mul_le_mul (by have := he.2.1; omega) (by have := hf.2.1; omega) hf.1 (by decide)
        generalize e.1 * f.1 = m at b1 b2 ⊢
        rw [wrap_i64 (by omega) (by omega)]; unfold In64; omega
      have hg' : In64 g.1 := by have := hg.1; have := hg.2.1; unfold In64; omega
      refine Ok.pos (by
        rw [Bool.and_eq_true, Bool.and_eq_true]
        exact ⟨decide_eq_true (Nat.zero_add _), decide_eq_true (by simp only [List.length_cons, List.length_nil]; omega), beq_self_eq_true _⟩) ?_
      refine Ok.ret ⟨⟨?_, ?_, ?_, ?_, ?_⟩, ?_⟩
      · rw [wrap_i64 (n := i - 1) (by omega) (by omega)]; (try dsimp only); omega
      · rw [wrap_i64 (n := i - 1) (by omega) (by omega)]; (try dsimp only); omega
      · rw [wrap_i64 (n := i - 1) (by omega) (by omega)]; (try dsimp only); simp only [Option.getD_some, List.length_append, List.length_cons, List.length_nil]; omega
      · intro p hp
        simp only [Option.getD_some, List.mem_append, List.mem_cons, List.not_mem_nil, or_false] at hp
        rcases hp with hp | rfl
        · exact g3 p hp
        · exact ⟨hm, hg'⟩
      · rw [wrap_i64 (n := i - 1) (by omega) (by omega)]; exact hg.2.2.le (by (try dsimp only); omega)
      · rw [wrap_i64 (n := i - 1) (by omega) (by omega)]; (try dsimp only); omega
    · exact Ok.ret ⟨by simp only at *; omega, g3, g4.le (by omega)⟩
  · rintro ⟨o, k'⟩ hr
    simp only at hr
    simp only [beq_self_eq_true, if_true]
    exact Ok.ret ⟨⟨hr.2.1, by simp only; omega⟩, hr.1, hr.2.2⟩
end Go.Fn
/- Plain laws of the makers of inputs: fragments. -/
namespace Go.Fn
open Go Go.Vs Go.Ve
abbrev Item := Int × List UInt8 × Int
def tot (l : List Item) : Nat := (l.map fun x => x.2.1.length).sum
theorem tot_nil : tot [] = 0 := rfl
theorem tot_append (a b : List Item) : tot (a ++ b) = tot a + tot b := by simp [tot]
theorem tot_cons (x : Item) (b : List Item) : tot (x :: b) = x.2.1.length + tot b := by simp [tot]
theorem tot_take_succ (l : List Item) (i : Nat) (h : i < l.length) : tot (l.take (i + 1)) = tot (l.take i) + l[i].2.1.length := by
  rw [List.take_succ_eq_append_getElem h, tot_append, tot_cons, tot_nil]; omega
theorem tot_take_le (l : List Item) (i : Nat) : tot (l.take i) ≤ tot l := by
  have h := tot_append (l.take i) (l.drop i)
  rw [List.take_append_drop] at h
  omega
theorem tot_set : ∀ (l : List Item) (i : Nat) (h : i < l.length) (y : Item), tot (l.set i y) + l[i].2.1.length = tot l + y.2.1.length
  | x :: l, 0, _, y => by simp only [List.set_cons_zero, tot_cons, List.getElem_cons_zero]; omega
  | x :: l, i + 1, h, y => by
    have := tot_set l i (by simpa using h) y
    simp only [List.set_cons_succ, tot_cons, List.getElem_cons_succ]; omega
theorem tot_getElem : ∀ (l : List Item) (i : Nat) (h : i < l.length), l[i].2.1.length ≤ tot l
  | x :: l, 0, _ => by simp only [tot_cons, List.getElem_cons_zero]; omega
  | x :: l, i + 1, h => by
    have := tot_getElem l i (by simpa using h)
    simp only [tot_cons, List.getElem_cons_succ]; omega
/-- a fragment that is not too large -/
def FrB (f : Option (List Item)) (n b : Nat) : Prop := (f.getD []).length ≤ n ∧ tot (f.getD []) ≤ b
theorem FrB.le {f : Option (List Item)} {n b n' b' : Nat} (h : FrB f n b) (h1 : n ≤ n') (h2 : b ≤ b') : FrB f n' b' := ⟨Nat.le_trans h.1 h1, Nat.le_trans h.2 h2⟩
theorem wrap_pred {n : Nat} (h : 0 < n) (h2 : n ≤ 4611686018427387904) : (IntKind.i64.wrap ((n : Int) - 1)).toNat = n - 1 := by
  rw [wrap_i64 (by omega) (by omega)]; omega
theorem Normalize_ok {f : Option (List Item)} {n b : Nat} (h : FrB f n b) (hn : n ≤ 68719476736) (hb : b ≤ 1152921504606846976) : Ok (bitextref3_Normalize f) fun r => FrB r n b := by
  unfold bitextref3_Normalize
  simp only [beq_self_eq_true, if_true]
  refine Ok.call (R := fun r => FrB r n b) (Ok.loop (fun s => 0 ≤ s.2 ∧ s.2 ≤ ((f.getD []).length : Int) ∧ ((s.1.getD []).length : Int) ≤ s.2 ∧ tot (s.1.getD []) ≤ tot ((f.getD []).take s.2.toNat)) (fun s => (f.getD []).length - s.2.toNat) ⟨by simp, by simp, by simp, by simp [tot_nil]⟩ ?_ ?_) fun r hr => Ok.ret hr
  · have := h.1; unfold fuel; simp only; omega
  · rintro ⟨o, i⟩ ⟨g0, g1, g2, g3⟩
    simp only at g0 g1 g2 g3
    obtain ⟨i, rfl⟩ := Int.eq_ofNat_of_zero_le g0
    have h1 := h.1
    have h2 := h.2
    unfold bitextref3_Normalize_l0
    dsimp only
    refine Ok.dec (fun hi => ?_) (fun hi => ?_)
    · have hi' : i < (f.getD []).length := by rw [lenI_eq] at hi; omega
      have ht := tot_take_succ (f.getD []) i hi'
      have htl := tot_take_le (f.getD []) (i + 1)
      rw [show ((f.getD []).getD (i : Int).toNat (0, [], 0)) = (f.getD [])[i] from getD_at hi', wrap_succ hi' (by omega)]
      simp only [Int.toNat_natCast] at g3
      generalize hx : (f.getD [])[i] = x at ht ⊢
      obtain ⟨k, t, id⟩ := x
      simp only at ht ⊢
      generalize ho : o.getD [] = out at g2 g3 ⊢
      have hol : out.length ≤ i := by omega
      have fin : ∀ (o' : Option (List Item)), (o'.getD []).length ≤ i + 1 → tot (o'.getD []) ≤ tot (out) + t.length → (0 : Int) ≤ ((i + 1 : Nat) : Int) ∧ ((i + 1 : Nat) : Int) ≤ (f.getD []).length ∧ ((o'.getD []).length : Int) ≤ ((i + 1 : Nat) : Int) ∧ tot (o'.getD []) ≤ tot ((f.getD []).take ((i + 1 : Nat) : Int).toNat) := by
        intro o' q1 q2
        refine ⟨by omega, by omega, by omega, ?_⟩
        rw [Int.toNat_natCast, ht]; omega
      have base : (decide ((0 : Int) ≤ (i : Int) ∧ (i : Int) < lenI (f.getD []))) = true := decide_eq_true ⟨by omega, hi⟩
      rw [base]
      have hcap : decide (out.length + 1 ≤ 68719476736) = true := decide_eq_true (by omega)
      simp only [Bool.true_and, Nat.zero_add, decide_true, beq_self_eq_true, Bool.and_true, List.length_cons, List.length_nil, hcap]
      by_cases c1 : k = 1
      · subst c1
        simp only [bne_self_eq_false, Bool.false_eq_true, if_false]
        by_cases c2 : t = []
        · subst c2
          simp only [decide_true, Bool.true_or, if_true]
          exact Ok.ret ⟨fin o (by rw [ho]; omega) (by rw [ho]; omega), by simp only [Int.toNat_natCast]; omega⟩
        · simp only [c2, decide_false, Bool.false_or, Bool.false_eq_true, if_false]
          by_cases c3 : 0 < out.length
          · have e1 : decide (lenI out > 0) = true := decide_eq_true (by rw [lenI_eq]; omega)
            have e2 : decide ((0 : Int) ≤ IntKind.i64.wrap (lenI out - 1) ∧ IntKind.i64.wrap (lenI out - 1) < lenI out) = true := decide_eq_true (by rw [lenI_eq, wrap_i64 (by omega) (by omega)]; omega)
            have e3 : (IntKind.i64.wrap (lenI out - 1)).toNat = out.length - 1 := wrap_pred c3 (by omega)
            have e4 : nlt (out.length - 1) out.length = true := (nlt_iff _ _).2 (by omega)
            have e5 : out.getD (out.length - 1) (0, [], 0) = out[out.length - 1] := by rw [List.getD_eq_getElem?_getD, List.getElem?_eq_getElem (by omega)]; rfl
            rw [e1, e2, e3, e4, e5]
            simp only [Bool.not_true, Bool.false_or, Bool.true_and, Bool.and_true]
            have hs := tot_set out (out.length - 1) (by omega)
            have hg := tot_getElem out (out.length - 1) (by omega)
            by_cases c4 : (out[out.length - 1].1 == 1) = true
            · rw [if_pos c4, if_pos c4]
              refine Ok.pos (decide_eq_true (by omega)) (Ok.ret ⟨fin _ ?_ ?_, by simp only [Int.toNat_natCast]; omega⟩)
              · simp only [Option.getD_some, List.length_set]; omega
              · have := hs (1, out[out.length - 1].2.1 ++ t, 0)
                simp only [List.length_append] at this
                simp only [Option.getD_some]; omega
            · rw [if_neg c4, if_neg c4]
              refine Ok.pos rfl (Ok.ret ⟨fin _ ?_ ?_, by simp only [Int.toNat_natCast]; omega⟩)
              · simp only [Option.getD_some, List.length_append, List.length_cons, List.length_nil]; omega
              · simp only [Option.getD_some, tot_append, tot_cons, tot_nil]; omega
          · have e1 : decide (lenI out > 0) = false := decide_eq_false (by rw [lenI_eq]; omega)
            rw [e1]
            simp only [Bool.not_false, Bool.true_or, Bool.true_and, Bool.false_and, Bool.false_eq_true, if_false, if_true]
            refine Ok.ret ⟨fin _ ?_ ?_, by simp only [Int.toNat_natCast]; omega⟩
            · simp only [Option.getD_some, List.length_append, List.length_cons, List.length_nil]; omega
            · simp only [Option.getD_some, tot_append, tot_cons, tot_nil]; omega
      · have e0 : (k != 1) = true := by simp [c1]
        rw [e0]
        simp only [if_true]
        refine Ok.ret ⟨fin _ ?_ ?_, by simp only [Int.toNat_natCast]; omega⟩
        · simp only [Option.getD_some, List.length_append, List.length_cons, List.length_nil]; omega
        · simp only [Option.getD_some, tot_append, tot_cons, tot_nil]; omega
    · have hi' : i = (f.getD []).length := by rw [lenI_eq] at hi; omega
      subst hi'
      refine Ok.ret ⟨by omega, ?_⟩
      simp only [Int.toNat_natCast, List.take_length] at g3
      omega
theorem Normalize_o0_eq (f : Option (List Item)) : bitextref3_Normalize_o0 f = bitextref3_Normalize f := by
  have e : bitextref3_Normalize_o0_l0 f = bitextref3_Normalize_l0 f := by
    funext s
    unfold bitextref3_Normalize_o0_l0 bitextref3_Normalize_l0
    simp only [Nat.zero_add, guard_nlt]
  unfold bitextref3_Normalize_o0 bitextref3_Normalize
  rw [e]
theorem optL_get {α : Type} (l : List α) : (optL l).getD [] = l := by cases l <;> rfl
theorem appL_get {α : Type} (o : Option (List α)) (l : List α) : (appL o l).getD [] = o.getD [] ++ l := by
  cases o with
  | none => exact optL_get l
  | some xs => rfl
theorem subL_get {α : Type} (a b : Int) (o : Option (List α)) : (Option.map (subL a b) o).getD [] = subL a b (o.getD []) := by
  cases o with
  | none => simp [subL]
  | some xs => rfl
theorem Concat_o0_ok {a b : Option (List Item)} {n m p q : Nat} (ha : FrB a n p) (hb : FrB b m q) (hn : n + m ≤ 68719476736) (hp : p + q ≤ 1152921504606846976) : Ok (bitextref3_Concat_o0 a b) fun r => FrB r (n + m) (p + q) := by
  unfold bitextref3_Concat_o0
  simp only [beq_self_eq_true, if_true, Nat.zero_add, decide_true, optL_get]
  have h1 := ha.1
  have h2 := hb.1
  refine Ok.pos (decide_eq_true (by omega)) (Ok.pos (decide_eq_true (by omega)) (Ok.call (Normalize_ok (n := n + m) (b := p + q) ?_ hn hp) fun r hr => Ok.ret hr))
  refine ⟨?_, ?_⟩
  · rw [appL_get, optL_get, List.length_append]; omega
  · rw [appL_get, optL_get, tot_append]; have := ha.2; have := hb.2; omega
theorem FrB.one (x : Item) {q : Nat} (h : x.2.1.length ≤ q) : FrB (some [x]) 1 q := ⟨Nat.le_refl _, by simp only [Option.getD_some, tot_cons, tot_nil]; omega⟩
theorem FrB.nil : FrB none 0 0 := ⟨Nat.le_refl _, Nat.le_refl _⟩
theorem Name_ok {s : List UInt8} (h : s.length ≤ 4611686018427387904) : Ok (bitextref3_Name s) fun r => r.length ≤ s.length := by
  unfold bitextref3_Name
  refine Ok.call (R := fun r => match r with | .inl r => r.length ≤ s.length | .inr _ => True) (Ok.loop (fun i => 0 ≤ i ∧ i ≤ (s.length : Int)) (fun i => s.length - i.toNat) ⟨by simp, by omega⟩ (by unfold fuel; omega) ?_) ?_
  · rintro i ⟨h0, h1⟩
    obtain ⟨i, rfl⟩ := Int.eq_ofNat_of_zero_le h0
    unfold bitextref3_Name_l0
    refine Ok.dec (fun hi => ?_) (fun hi => ?_)
    · rw [lenI_eq] at hi
      refine Ok.pos (by rw [Bool.and_eq_true, decide_eq_true_iff, nlt_iff, Int.toNat_natCast]; omega) (Ok.ite (fun _ => ?_) fun _ => ?_)
      · refine Ok.grd (by rw [lenI_eq]; omega) (Ok.ret ?_)
        simp only [subL, List.length_drop, List.length_take]; omega
      · refine Ok.ret ?_
        simp only
        rw [wrap_i64 (by omega) (by omega)]; omega
    · exact Ok.ret trivial
  · intro r hr
    cases r with
    | inl r => exact Ok.ret hr
    | inr r => exact Ok.ret (Nat.le_refl _)
/-- the tags that are open -/
def OpB (o : Option (List Item)) (d : Nat) : Prop := (o.getD []).length ≤ d ∧ ∀ x ∈ o.getD [], x.2.1.length ≤ 20
theorem OpB.le {o : Option (List Item)} {d d' : Nat} (h : OpB o d) (hd : d ≤ d') : OpB o d' := ⟨Nat.le_trans h.1 hd, h.2⟩
theorem OpB.getD {o : Option (List Item)} {d : Nat} (h : OpB o d) (i : Nat) : ((o.getD []).getD i (0, [], 0)).2.1.length ≤ 20 := by
  rw [List.getD_eq_getElem?_getD]
  rcases Nat.lt_or_ge i (o.getD []).length with hi | hi
  · rw [List.getElem?_eq_getElem hi]; exact h.2 _ (List.getElem_mem hi)
  · rw [List.getElem?_eq_none hi]; simp
theorem OpB.cut {o : Option (List Item)} {d : Nat} (h : OpB o d) (k : Int) (h0 : 0 ≤ k) (h1 : k < lenI (o.getD [])) :
    OpB (appL (optL ((Option.map (subL 0 k) o).getD [])) ((Option.map (subL (k + 1) (lenI (o.getD []))) o).getD [])) d := by
  unfold OpB
  rw [appL_get, optL_get, subL_get, subL_get]
  rw [lenI_eq] at h1
  have := h.1
  refine ⟨?_, fun x hx => ?_⟩
  · simp only [subL, List.length_append, List.length_drop, List.length_take, lenI_eq]; omega
  · refine h.2 x ?_
    rcases List.mem_append.1 hx with hx | hx
    · exact List.mem_of_mem_take (List.mem_of_mem_drop hx)
    · exact List.mem_of_mem_take (List.mem_of_mem_drop hx)
theorem Fragment_ok {L : Option (List Int)} {k c n : Int} (h : Num (L, k) c) (hc : c ≤ 274877906944) (hn : 0 ≤ n) (hn2 : n ≤ 1048576) :
    Ok (bitextmake_Fragment n true true (L, k)) fun r => FrB r.1 (2 * n.toNat) (40 * n.toNat) ∧ Num (L, r.2) (c + 1 + 12 * n) := by
  unfold bitextmake_Fragment
  rw [wrap_i64 (by omega) (by omega)]
  refine Ok.call (Next_ok h (by omega) (by omega) (by omega)) fun r hr => ?_
  obtain ⟨h0, h1, h2⟩ := hr
  refine Ok.call (R := fun s => FrB s.1 n.toNat (20 * n.toNat) ∧ OpB s.2.1 n.toNat ∧ Num (L, s.2.2) (c + 1 + 12 * n))
    (Ok.loop (fun s => 0 ≤ s.2.2.2.1 ∧ s.2.2.2.1 ≤ n ∧ FrB s.1 (n - s.2.2.2.1).toNat (20 * (n - s.2.2.2.1).toNat) ∧ OpB s.2.1 (n - s.2.2.2.1).toNat ∧ Num (L, s.2.2.2.2) (c + 1 + 12 * (n - s.2.2.2.1)))
      (fun s => s.2.2.2.1.toNat) ⟨h0, by (try dsimp only); omega, FrB.nil.le (by omega) (by omega), ⟨by simp, by simp⟩, h2.le (by (try dsimp only); omega)⟩ (by unfold fuel; (try dsimp only); omega) ?_) ?_
  · rintro ⟨f, op, id, i, k'⟩ ⟨g0, g1, g2, g3, g4⟩
    simp only at g0 g1 g2 g3 g4
    unfold bitextmake_Fragment_l0
    dsimp only
    refine Ok.dec (fun hi => ?_) (fun hi => ?_)
    · have fin : ∀ (f' op' : Option (List Item)) (k'' : Int), FrB f' ((n - i).toNat + 1) (20 * (n - i).toNat + 20) → OpB op' ((n - i).toNat + 1) → Num (L, k'') (c + 1 + 12 * (n - i) + 12) →
          ((0 ≤ IntKind.i64.wrap (i - 1) ∧ IntKind.i64.wrap (i - 1) ≤ n ∧ FrB f' (n - IntKind.i64.wrap (i - 1)).toNat (20 * (n - IntKind.i64.wrap (i - 1)).toNat) ∧ OpB op' (n - IntKind.i64.wrap (i - 1)).toNat ∧ Num (L, k'') (c + 1 + 12 * (n - IntKind.i64.wrap (i - 1)))) ∧ (IntKind.i64.wrap (i - 1)).toNat < i.toNat) := by
        intro f' op' k'' q1 q2 q3
        rw [wrap_i64 (n := i - 1) (by omega) (by omega)]
        exact ⟨⟨by omega, by omega, q1.le (by omega) (by omega), q2.le (by omega), q3.le (by omega)⟩, by omega⟩
      have cat : ∀ (x : Item), x.2.1.length ≤ 20 → Ok (bitextref3_Concat_o0 f (some [x])) fun r => FrB r ((n - i).toNat + 1) (20 * (n - i).toNat + 20) := fun x hx =>
        Concat_o0_ok g2 (FrB.one x hx) (by omega) (by omega)
      refine Ok.call (Line_ok g4 (by omega) (by decide) (by decide)) fun t ht => ?_
      obtain ⟨t1, t2⟩ := ht
      have t1 : t.1.length ≤ 20 := by omega
      refine Ok.call (Next_ok t2 (by omega) (by decide) (by decide)) fun u hu => ?_
      obtain ⟨u0, u1, u2⟩ := hu
      simp only [beq_self_eq_true, if_true, Bool.not_true, Bool.false_eq_true, if_false, Bool.and_false, Bool.true_and]
      refine Ok.ite (fun _ => ?_) fun _ => Ok.ite (fun _ => ?_) fun _ => Ok.ite (fun _ => ?_) fun _ => Ok.ite (fun _ => ?_) fun _ => ?_
      · refine Ok.call (Next_ok u2 (by omega) (by decide) (by decide)) fun v hv => ?_
        obtain ⟨v0, v1, v2⟩ := hv
        refine Ok.pos (by rw [Bool.and_eq_true, decide_eq_true_iff, nlt_iff]; omega) (Ok.call (cat _ ?_) fun r hr => Ok.ret (fin _ op _ hr (g3.le (by omega)) (v2.le (by omega))))
        exact table_ok (fun w => w.length ≤ 20) v0 v1 (by decide) (by decide)
      · refine Ok.call (Next_ok u2 (by omega) (by decide) (by decide)) fun v hv => ?_
        obtain ⟨v0, v1, v2⟩ := hv
        refine Ok.pos (by rw [Bool.and_eq_true, decide_eq_true_iff, nlt_iff]; omega) (Ok.call (cat _ ?_) fun r hr => Ok.ret (fin _ op _ hr (g3.le (by omega)) (v2.le (by omega))))
        exact table_ok (fun w => w.length ≤ 20) v0 v1 (by decide) (by decide)
      · refine Ok.call (Next_ok u2 (by omega) (by decide) (by decide)) fun v hv => ?_
        obtain ⟨v0, v1, v2⟩ := hv
        have ho := g3.1
        have tab : ([[98], [105], [97, 32, 104, 61, 49]].getD (0 + v.1.toNat) ([] : List UInt8)).length ≤ 20 := table_ok (fun w => w.length ≤ 20) v0 v1 (by decide) (by decide)
        refine Ok.pos ?_ (Ok.call (cat _ tab) fun r hr => Ok.ret (fin _ _ _ hr ⟨?_, ?_⟩ (v2.le (by omega))))
        · rw [Bool.and_eq_true, Bool.and_eq_true, Bool.and_eq_true, Bool.and_eq_true, decide_eq_true_iff, nlt_iff]
          exact ⟨by omega, decide_eq_true (Nat.zero_add _), decide_eq_true (by simp only [List.length_cons, List.length_nil]; omega), rfl⟩
        · simp only [Option.getD_some, List.length_append, List.length_cons, List.length_nil]; omega
        · intro x hx
          simp only [Option.getD_some, List.mem_append, List.mem_cons, List.not_mem_nil, or_false] at hx
          rcases hx with hx | rfl
          · exact g3.2 x hx
          · exact tab
      · refine Ok.dec (fun ho => ?_) (fun ho => ?_)
        · have hl := g3.1
          have hlen : 0 < (op.getD []).length := by
            rcases Nat.eq_zero_or_pos (op.getD []).length with e | e
            · rw [lenI_eq, e] at ho; exact absurd ho (by decide)
            · exact e
          have ew : IntKind.i64.wrap (lenI (op.getD []) - 1) = lenI (op.getD []) - 1 := by rw [lenI_eq]; exact wrap_i64 (by omega) (by omega)
          have ew2 : IntKind.i64.wrap (lenI (op.getD []) - 1 + 1) = lenI (op.getD []) - 1 + 1 := by rw [lenI_eq]; exact wrap_i64 (by omega) (by omega)
          have hl2 : lenI (op.getD []) = ((op.getD []).length : Int) := rfl
          have cut := g3.cut (lenI (op.getD []) - 1) (by omega) (by omega)
          rw [ew, ew2]
          refine Ok.grd (by omega) (Ok.pos ((nlt_iff _ _).2 (by omega)) (Ok.call (Name_ok (Nat.le_trans (g3.getD _) (by decide))) fun r hr => ?_))
          have hr2 : r.length ≤ 20 := Nat.le_trans hr (g3.getD _)
          refine Ok.pos ?_ (Ok.call (cat (3, r, _) hr2) fun q hq => Ok.ret (fin _ _ _ hq (cut.le (by omega)) (u2.le (by omega))))
          simp only [Bool.and_eq_true, decide_eq_true_iff, nlt_iff, optL_get, subL_get, Nat.zero_add, Option.isSome_map, beq_self_eq_true, and_true, true_and]
          refine ⟨⟨by omega, by omega⟩, by omega, ?_, by omega, ?_⟩
          · simp only [subL, List.length_drop, List.length_take]; omega
          · simp only [subL, List.length_drop, List.length_take]; omega
        · exact Ok.call (cat (1, t.1, 0) t1) fun q hq => Ok.ret (fin _ _ _ hq (g3.le (by omega)) (u2.le (by omega)))
      · exact Ok.call (cat (1, t.1, 0) t1) fun q hq => Ok.ret (fin _ _ _ hq (g3.le (by omega)) (u2.le (by omega)))
    · have : i = 0 := by omega
      subst this
      exact Ok.ret ⟨g2.le (by omega) (by omega), g3.le (by omega), g4.le (by omega)⟩
  · rintro ⟨f, op, k'⟩ ⟨g1, g2, g3⟩
    simp only at g1 g2 g3
    have hl := g2.1
    have hl2 : lenI (op.getD []) = ((op.getD []).length : Int) := rfl
    dsimp only
    have ew : IntKind.i64.wrap (lenI (op.getD []) - 1) = lenI (op.getD []) - 1 := wrap_i64 (by omega) (by omega)
    rw [ew]
    refine Ok.call (R := fun f => FrB f (2 * n.toNat) (40 * n.toNat)) (Ok.loop (fun s => -1 ≤ s.2 ∧ s.2 < lenI (op.getD []) ∧ FrB s.1 (n.toNat + ((op.getD []).length - (s.2 + 1).toNat)) (20 * n.toNat + 20 * ((op.getD []).length - (s.2 + 1).toNat)))
      (fun s => (s.2 + 1).toNat) ⟨by (try dsimp only); omega, by (try dsimp only); omega, g1.le (by omega) (by omega)⟩ (by unfold fuel; (try dsimp only); omega) ?_) fun r hr => ?_
    · rintro ⟨f, j⟩ ⟨q0, q1, q2⟩
      simp only at q0 q1 q2
      unfold bitextmake_Fragment_l1
      dsimp only
      refine Ok.ite (fun hj => ?_) (fun hj => ?_)
      · have hj : 0 ≤ j := by simpa using hj
        refine Ok.grd (by omega) (Ok.pos ((nlt_iff _ _).2 (by omega)) (Ok.call (Name_ok (Nat.le_trans (g2.getD _) (by decide))) fun r hr => ?_))
        have hr2 : r.length ≤ 20 := Nat.le_trans hr (g2.getD _)
        have q3 := q2.1
        refine Ok.pos ?_ (Ok.ret ?_)
        · simp only [Bool.and_eq_true, decide_eq_true_iff, nlt_iff, Nat.zero_add, beq_self_eq_true, and_true, true_and, List.length_cons, List.length_nil]
          omega
        · simp only
          rw [wrap_i64 (n := j - 1) (by omega) (by omega)]
          refine ⟨⟨by omega, by omega, ?_, ?_⟩, by omega⟩
          · simp only [Option.getD_some, List.length_append, List.length_cons, List.length_nil]; omega
          · have := q2.2
            simp only [Option.getD_some, tot_append, tot_cons, tot_nil]; omega
      · exact Ok.ret (q2.le (by omega) (by omega))
    · simp only [beq_self_eq_true, if_true]
      exact Ok.ret ⟨hr, g3⟩
end Go.Fn
/- Plain laws of the makers of inputs: entries. -/
namespace Go.Fn
open Go Go.Vs Go.Ve
theorem guard_nlt' {α : Type} {xs : List α} {i : Int} : (decide (0 ≤ i ∧ i < lenI xs) && nlt (0 + i.toNat) xs.length) = decide (0 ≤ i ∧ i < lenI xs) := by rw [Nat.zero_add]; exact guard_nlt
theorem Target_ok {src : Option (List Item)} {L : Option (List Int)} {k c : Int} {n b : Nat} (hs : FrB src n b) (h : Num (L, k) c) (hc : c ≤ 274877906944) (hn : n ≤ 1048576) (hb : b ≤ 1099511627776) :
    Ok (bitextmake_Target_o1 src (L, k)) fun r => FrB r.1 (2 * n) (b + 20 * n) ∧ Num (L, r.2) (c + 8 * n) := by
  unfold bitextmake_Target_o1
  have hs1 := hs.1
  have hs2 := hs.2
  refine Ok.call (R := fun r => FrB r.1 (2 * n) (b + 20 * n) ∧ Num (L, r.2) (c + 8 * n)) (Ok.loop (fun s => 0 ≤ s.2.1 ∧ s.2.1 ≤ ((src.getD []).length : Int) ∧ FrB s.1 (2 * s.2.1.toNat) (tot ((src.getD []).take s.2.1.toNat) + 20 * s.2.1.toNat) ∧ Num (L, s.2.2) (c + 8 * s.2.1))
    (fun s => (src.getD []).length - s.2.1.toNat) ⟨by simp, by (try dsimp only); omega, FrB.nil.le (by omega) (by omega), h.le (by (try dsimp only); omega)⟩ (by unfold fuel; (try dsimp only); omega) ?_) fun r hr => ?_
  · rintro ⟨f, i, k'⟩ ⟨g0, g1, g2, g3⟩
    simp only at g0 g1 g2 g3
    obtain ⟨i, rfl⟩ := Int.eq_ofNat_of_zero_le g0
    unfold bitextmake_Target_o1_l0
    dsimp only
    simp only [Int.toNat_natCast] at g2
    refine Ok.dec (fun hi => ?_) (fun hi => ?_)
    · have hi' : i < (src.getD []).length := by rw [lenI_eq] at hi; omega
      refine Ok.pos (by rw [Bool.and_eq_true, decide_eq_true_iff, nlt_iff, Int.toNat_natCast]; omega) ?_
      have ht := tot_take_succ (src.getD []) i hi'
      have htl := tot_take_le (src.getD []) (i + 1)
      rw [Nat.zero_add, show ((src.getD []).getD (i : Int).toNat (0, [], 0)) = (src.getD [])[i] from getD_at hi', wrap_succ hi' (by omega)]
      generalize hx : (src.getD [])[i] = x at ht ⊢
      obtain ⟨kd, t, id⟩ := x
      simp only at ht ⊢
      have fin : ∀ (f' : Option (List Item)) (k'' : Int), FrB f' (2 * i + 2) (tot ((src.getD []).take i) + 20 * i + t.length + 20) → Num (L, k'') (c + 8 * i + 8) →
          ((0 ≤ ((i + 1 : Nat) : Int) ∧ ((i + 1 : Nat) : Int) ≤ ((src.getD []).length : Int) ∧ FrB f' (2 * ((i + 1 : Nat) : Int).toNat) (tot ((src.getD []).take ((i + 1 : Nat) : Int).toNat) + 20 * ((i + 1 : Nat) : Int).toNat) ∧ Num (L, k'') (c + 8 * ((i + 1 : Nat) : Int))) ∧ (src.getD []).length - ((i + 1 : Nat) : Int).toNat < (src.getD []).length - (i : Int).toNat) := by
        intro f' k'' q1 q2
        simp only [Int.toNat_natCast]
        exact ⟨⟨by omega, by omega, q1.le (by omega) (by omega), q2.le (by omega)⟩, by omega⟩
      simp only [beq_self_eq_true, if_true]
      refine Ok.ite (fun _ => ?_) fun _ => ?_
      · refine Ok.grd (by omega) (Ok.call (Next_ok g3 (by omega) (by decide) (by decide)) fun u hu => ?_)
        obtain ⟨u0, u1, u2⟩ := hu
        refine Ok.pos ?_ (Ok.call (Concat_o0_ok g2 (FrB.one _ (q := t.length + 20) ?_) (by omega) (by omega)) fun r hr => Ok.ret (fin _ _ (hr.le (by omega) (by omega)) (u2.le (by omega))))
        · rw [Bool.and_eq_true, decide_eq_true_iff, nlt_iff]; simp only [lenI_eq, List.length_cons, List.length_nil]; omega
        · refine table_ok (fun w => w.length ≤ t.length + 20) u0 u1 rfl ?_
          intro w hw
          simp only [List.mem_cons, List.not_mem_nil, or_false] at hw
          rcases hw with rfl | rfl | rfl | rfl | rfl <;> (try simp only [List.length_append, List.length_cons, List.length_nil]) <;> omega
      · refine Ok.call (Next_ok g3 (by omega) (by decide) (by decide)) fun u hu => ?_
        obtain ⟨u0, u1, u2⟩ := hu
        refine Ok.ite (fun _ => ?_) fun _ => ?_
        · refine Ok.call (Line_ok u2 (by omega) (by decide) (by decide)) fun v hv => ?_
          obtain ⟨v1, v2⟩ := hv
          refine Ok.call (Concat_o0_ok g2 (FrB.one (1, v.1, 0) (q := 20) (by simp only; omega)) (by omega) (by omega)) fun r hr => ?_
          refine Ok.call (Concat_o0_ok hr (FrB.one (kd, t, id) (q := t.length) (Nat.le_refl _)) (by omega) (by omega)) fun q hq => Ok.ret (fin _ _ (hq.le (by omega) (by omega)) (v2.le (by omega)))
        · exact Ok.call (Concat_o0_ok g2 (FrB.one (kd, t, id) (q := t.length) (Nat.le_refl _)) (by omega) (by omega)) fun q hq => Ok.ret (fin _ _ (hq.le (by omega) (by omega)) (u2.le (by omega)))
    · have hi' : i = (src.getD []).length := by rw [lenI_eq] at hi; omega
      subst hi'
      rw [List.take_length] at g2
      exact Ok.ret ⟨g2.le (by omega) (by omega), g3.le (by omega)⟩
  · simp only [beq_self_eq_true, if_true]
    exact Ok.ret hr
theorem Has_o0_ok {l : Option (List Int)} {x : Int} (hl : (l.getD []).length ≤ 4611686018427387904) : bitextref3_Has_o0 l x = some (decide (x ∈ l.getD [])) := by
  unfold bitextref3_Has_o0
  have key := loopR_all (f := bitextref3_Has_o0_l0 l x) (fun i => (i : Int)) (l.getD []).length (fun i => ∀ h : i < (l.getD []).length, (l.getD [])[i] ≠ x) (.inl true) (.inr ()) ?_ ?_ ?_ (by unfold fuel; omega)
  · by_cases h : ∀ i, i < (l.getD []).length → ∀ h : i < (l.getD []).length, (l.getD [])[i] ≠ x
    · have e := key.1 h
      rw [show ((0 : Nat) : Int) = 0 from rfl] at e
      rw [e, callO_some, sumO_inr, decide_eq_false]
      intro hx
      obtain ⟨i, hi, rfl⟩ := List.getElem_of_mem hx
      exact h i hi hi rfl
    · have e := key.2 h
      rw [show ((0 : Nat) : Int) = 0 from rfl] at e
      rw [e, callO_some, sumO_inl, decide_eq_true]
      refine Classical.byContradiction fun hx => h fun i hi _ he => hx ?_
      rw [← he]
      exact List.getElem_mem hi
  all_goals intros
  all_goals unfold bitextref3_Has_o0_l0
  · rename_i i hi hp
    refine (rangeIn1 hi).trans ?_
    rw [if_pos (by rw [guard_nlt']; exact decide_eq_true (by rw [lenI_eq]; omega)), Nat.zero_add, getD_at hi, wrap_succ hi hl, if_neg (by simpa using hp hi)]
  · rename_i i hi hp
    refine (rangeIn1 hi).trans ?_
    rw [if_pos (by rw [guard_nlt']; exact decide_eq_true (by rw [lenI_eq]; exact ⟨Int.natCast_nonneg _, Int.ofNat_lt.2 hi⟩)), Nat.zero_add, getD_at hi]
    have h : (l.getD [])[i]'hi = x := Classical.byContradiction fun h => hp fun _ h3 => h h3
    rw [if_pos (by rw [h]; exact beq_self_eq_true x)]
  · exact rangeOut
theorem IsTag_eq (x : Item) : bitextref3_IsTag x = some (x.1 == 2 || (x.1 == 3 || x.1 == 4)) := rfl
def tag (x : Item) : Bool := x.1 == 2 || (x.1 == 3 || x.1 == 4)
theorem Numbers_ok {f : Option (List Item)} {n : Nat} (hn : (f.getD []).length ≤ n) (h2 : n ≤ 68719476736) :
    Ok (bitextref3_Numbers f) fun r => (r.getD []).length ≤ n ∧ ∀ x ∈ f.getD [], tag x = true → x.2.2 ∈ r.getD [] := by
  unfold bitextref3_Numbers
  refine Ok.call (R := fun r => (r.getD []).length ≤ n ∧ ∀ x ∈ f.getD [], tag x = true → x.2.2 ∈ r.getD []) (Ok.loop (fun s => 0 ≤ s.2 ∧ s.2 ≤ ((f.getD []).length : Int) ∧ (s.1.getD []).length ≤ s.2.toNat ∧ ∀ x ∈ (f.getD []).take s.2.toNat, tag x = true → x.2.2 ∈ s.1.getD [])
    (fun s => (f.getD []).length - s.2.toNat) ⟨by simp, by (try dsimp only); omega, by simp, by simp⟩ (by unfold fuel; (try dsimp only); omega) ?_) fun r hr => ?_
  · rintro ⟨o, i⟩ ⟨g0, g1, g2, g3⟩
    simp only at g0 g1 g2 g3
    obtain ⟨i, rfl⟩ := Int.eq_ofNat_of_zero_le g0
    unfold bitextref3_Numbers_l0
    dsimp only
    simp only [Int.toNat_natCast] at g2 g3
    refine Ok.dec (fun hi => ?_) (fun hi => ?_)
    · have hi' : i < (f.getD []).length := by rw [lenI_eq] at hi; omega
      refine Ok.grd (by omega) ?_
      rw [show ((f.getD []).getD (i : Int).toNat (0, [], 0)) = (f.getD [])[i] from getD_at hi', wrap_succ hi' (by omega)]
      have htk := List.take_succ_eq_append_getElem hi'
      generalize hx : (f.getD [])[i] = x at htk ⊢
      have fin : ∀ (o' : Option (List Int)), (o'.getD []).length ≤ i + 1 → (∀ y ∈ o.getD [], y ∈ o'.getD []) → (tag x = true → x.2.2 ∈ o'.getD []) →
          ((0 ≤ ((i + 1 : Nat) : Int) ∧ ((i + 1 : Nat) : Int) ≤ ((f.getD []).length : Int) ∧ (o'.getD []).length ≤ ((i + 1 : Nat) : Int).toNat ∧ ∀ y ∈ (f.getD []).take ((i + 1 : Nat) : Int).toNat, tag y = true → y.2.2 ∈ o'.getD []) ∧ (f.getD []).length - ((i + 1 : Nat) : Int).toNat < (f.getD []).length - (i : Int).toNat) := by
        intro o' q1 q2 q3
        simp only [Int.toNat_natCast]
        refine ⟨⟨by omega, by omega, q1, ?_⟩, by omega⟩
        intro y hy hty
        rw [htk, List.mem_append, List.mem_singleton] at hy
        rcases hy with hy | rfl
        · exact q2 _ (g3 y hy hty)
        · exact q3 hty
      refine Ok.call (R := fun b => b = tag x) (Ok.ret rfl) ?_
      rintro b rfl
      refine Ok.ite (fun hb => ?_) (fun hb => ?_)
      · refine Ok.grd (by omega) ?_
        simp only [beq_self_eq_true, if_true]
        refine Ok.call (R := fun b => b = decide (x.2.2 ∈ o.getD [])) (Ok.of_eq (Has_o0_ok (by omega)) rfl) ?_
        rintro b rfl
        refine Ok.pos ?_ (Ok.ret (fin _ ?_ ?_ ?_))
        · rw [Bool.or_eq_true]
          right
          rw [Bool.and_eq_true, Bool.and_eq_true, Bool.and_eq_true]
          exact ⟨decide_eq_true ⟨by omega, hi⟩, decide_eq_true (Nat.zero_add _), decide_eq_true (by simp only [List.length_cons, List.length_nil]; omega), by first | rfl | exact beq_self_eq_true _⟩
        · split
          · simp only [Option.getD_some, List.length_append, List.length_cons, List.length_nil]; omega
          · show (o.getD []).length ≤ i + 1; omega
        · intro y hy
          split
          · exact List.mem_append_left _ hy
          · exact hy
        · intro _
          split
          · simp
          · rename_i h; simpa using h
      · exact Ok.ret (fin o (by omega) (fun _ h => h) (fun h => absurd h hb))
    · have hi' : i = (f.getD []).length := by rw [lenI_eq] at hi; omega
      subst hi'
      rw [List.take_length] at g3
      exact Ok.ret ⟨by omega, g3⟩
  · simp only [beq_self_eq_true, if_true]
    exact Ok.ret hr
theorem upTo_ok {n : Int} (h0 : 0 ≤ n) (h1 : n ≤ 68719476735) : Ok (bitextref3_upTo n) fun r => ((r.getD []).length : Int) = n := by
  unfold bitextref3_upTo
  refine Ok.call (R := fun r => ((r.getD []).length : Int) = n) (Ok.loop (fun s => 1 ≤ s.2 ∧ s.2 ≤ n + 1 ∧ ((s.1.getD []).length : Int) = s.2 - 1) (fun s => (n + 1 - s.2).toNat) ⟨by simp, by (try dsimp only); omega, by simp⟩ (by unfold fuel; (try dsimp only); omega) ?_) fun r hr => ?_
  · rintro ⟨o, i⟩ ⟨g0, g1, g2⟩
    simp only at g0 g1 g2
    unfold bitextref3_upTo_l0
    dsimp only
    refine Ok.dec (fun hi => ?_) (fun hi => ?_)
    · refine Ok.pos ?_ (Ok.ret ?_)
      · simp only [Bool.and_eq_true, decide_eq_true_iff, List.length_cons, List.length_nil, beq_self_eq_true, and_true]; omega
      · simp only
        rw [wrap_i64 (by omega) (by omega)]
        refine ⟨⟨by omega, by omega, ?_⟩, by omega⟩
        simp only [Option.getD_some, List.length_append, List.length_cons, List.length_nil]; omega
    · exact Ok.ret (by omega)
  · simp only [beq_self_eq_true, if_true]
    exact Ok.ret hr
theorem Rename_ok {f : Option (List Item)} {fr to : Option (List Int)} {n b : Nat} (h : FrB f n b) (hn : n ≤ 68719476736) (hb : b ≤ 1152921504606846976) (hl : (fr.getD []).length = (to.getD []).length) (hlm : (fr.getD []).length ≤ 68719476736)
    (ht : ∀ x ∈ f.getD [], tag x = true → x.2.2 ∈ fr.getD []) : Ok (bitextref3_Rename_o0_1_2 f fr to) fun _ => True := by
  unfold bitextref3_Rename_o0_1_2
  have h1 := h.1
  have h2 := h.2
  refine Ok.call (R := fun r => FrB r n b) (Ok.loop (fun s => 0 ≤ s.2 ∧ s.2 ≤ ((f.getD []).length : Int) ∧ FrB s.1 s.2.toNat (tot ((f.getD []).take s.2.toNat)))
    (fun s => (f.getD []).length - s.2.toNat) ⟨by simp, by (try dsimp only); omega, FrB.nil.le (by omega) (by omega)⟩ (by unfold fuel; (try dsimp only); omega) ?_) fun r hr => ?_
  · rintro ⟨o, i⟩ ⟨g0, g1, g2⟩
    simp only at g0 g1 g2
    obtain ⟨i, rfl⟩ := Int.eq_ofNat_of_zero_le g0
    unfold bitextref3_Rename_o0_1_2_l0
    dsimp only
    simp only [Int.toNat_natCast] at g2
    have g21 := g2.1
    have g22 := g2.2
    refine Ok.dec (fun hi => ?_) (fun hi => ?_)
    · have hi' : i < (f.getD []).length := by rw [lenI_eq] at hi; omega
      refine Ok.pos (by rw [guard_nlt']; exact decide_eq_true ⟨by omega, hi⟩) ?_
      have hm := ht _ (List.getElem_mem hi')
      have htt := tot_take_succ (f.getD []) i hi'
      have e0 : ((f.getD []).getD (i : Int).toNat (0, [], 0)) = (f.getD [])[i] := getD_at hi'
      simp only [Nat.zero_add]
      rw [e0, wrap_succ hi' (by omega)]
      generalize hx : (f.getD [])[i] = x at htt hm ⊢
      have fin : ∀ (o' : List Item), o'.length ≤ i + 1 → tot o' ≤ tot (o.getD []) + x.2.1.length →
          ((0 ≤ ((i + 1 : Nat) : Int) ∧ ((i + 1 : Nat) : Int) ≤ ((f.getD []).length : Int) ∧ FrB (some o') ((i + 1 : Nat) : Int).toNat (tot ((f.getD []).take ((i + 1 : Nat) : Int).toNat))) ∧ (f.getD []).length - ((i + 1 : Nat) : Int).toNat < (f.getD []).length - (i : Int).toNat) := by
        intro o' q1 q2
        simp only [Int.toNat_natCast]
        exact ⟨⟨by omega, by omega, ⟨q1, by simp only [Option.getD_some]; omega⟩⟩, by omega⟩
      refine Ok.call (R := fun b => b = tag x) (Ok.ret rfl) ?_
      rintro b rfl
      refine Ok.ite (fun hb => ?_) (fun hb => ?_)
      · refine Ok.pos ?_ (Ok.ret (fin _ ?_ ?_))
        · rw [Bool.and_eq_true, Bool.and_eq_true]
          exact ⟨by simp, decide_eq_true (by simp only [List.length_cons, List.length_nil]; omega), by first | rfl | exact beq_self_eq_true _⟩
        · simp only [List.length_append, List.length_cons, List.length_nil]; omega
        · simp only [tot_append, tot_cons, tot_nil]; omega
      · have hmem := hm (by simpa using hb)
        obtain ⟨q, hq, hqe⟩ := List.getElem_of_mem hmem
        refine Ok.call (R := fun l => l.length ≤ i + 1 ∧ tot l ≤ tot (o.getD []) + x.2.1.length) (Ok.loop (fun j => 0 ≤ j ∧ j ≤ (q : Int)) (fun j => (q + 1 - j.toNat)) ⟨by omega, by omega⟩ (by unfold fuel; omega) ?_) fun r hr => ?_
        · rintro j ⟨j0, j1⟩
          obtain ⟨j, rfl⟩ := Int.eq_ofNat_of_zero_le j0
          have hj : j < (fr.getD []).length := by omega
          have hj2 : j < (to.getD []).length := by omega
          unfold bitextref3_Rename_o0_1_2_l1
          simp only [Nat.zero_add, guard_nlt]
          rw [e0, hx]
          rw [show ((fr.getD []).getD (j : Int).toNat 0) = (fr.getD [])[j] from getD_at hj]
          refine Ok.pos ?_ (Ok.grd (by rw [lenI_eq]; omega) (Ok.ite (fun he => ?_) (fun he => ?_)))
          · rw [Bool.and_eq_true]
            exact ⟨decide_eq_true (by rw [lenI_eq]; omega), decide_eq_true (by rw [lenI_eq]; omega)⟩
          · refine Ok.pos ?_ (Ok.ret ⟨?_, ?_⟩)
            · simp only [Bool.and_eq_true]
              refine ⟨decide_eq_true (by rw [lenI_eq]; omega), ?_⟩
              first
                | exact ⟨by simp, decide_eq_true (by simp only [List.length_cons, List.length_nil]; omega), by first | rfl | exact beq_self_eq_true _⟩
                | exact ⟨(nlt_iff _ _).2 (by omega), by simp, decide_eq_true (by simp only [List.length_cons, List.length_nil]; omega), by first | rfl | exact beq_self_eq_true _⟩
            · simp only [List.length_append, List.length_cons, List.length_nil]; omega
            · simp only [tot_append, tot_cons, tot_nil]; omega
          · have hne : j ≠ q := by
              rintro rfl
              exact he (by rw [hqe]; exact beq_self_eq_true _)
            rw [wrap_succ hj (by omega)]
            exact Ok.ret ⟨⟨by omega, by omega⟩, by simp only [Int.toNat_natCast]; omega⟩
        · exact Ok.ret (fin r hr.1 hr.2)
    · have hi' : i = (f.getD []).length := by rw [lenI_eq] at hi; omega
      subst hi'
      rw [List.take_length] at g2
      exact Ok.ret (g2.le (by omega) (by omega))
  · simp only [beq_self_eq_true, if_true, Normalize_o0_eq]
    exact Ok.call (Normalize_ok hr hn hb) fun r _ => Ok.ret trivial
theorem Canonical_ok {a t : Option (List Item)} {n b m c : Nat} (ha : FrB a n b) (ht : FrB t m c) (hn : n + m ≤ 1073741824) (hb : b ≤ 1099511627776) (hc : c ≤ 1099511627776) : Ok (bitextref3_Canonical_o0_1 a t) fun _ => True := by
  unfold bitextref3_Canonical_o0_1
  have a1 := ha.1
  have t1 := ht.1
  simp only [beq_self_eq_true, if_true, Nat.zero_add, decide_true, optL_get]
  refine Ok.grd (by omega) (Ok.grd (by omega) (Ok.call (Numbers_ok (n := n + m) ?_ (by omega)) fun r hr => ?_))
  · rw [appL_get, optL_get, List.length_append]; omega
  · obtain ⟨r1, r2⟩ := hr
    rw [appL_get, optL_get] at r2
    refine Ok.call (upTo_ok (by simp) (by simp only [Int.ofNat_eq_natCast]; omega)) fun u hu => ?_
    have hu : (u.getD []).length = (r.getD []).length := by simp only [Int.ofNat_eq_natCast] at hu; omega
    refine Ok.call (Rename_ok ha (by omega) (by omega) hu.symm (by omega) fun x hx => r2 x (List.mem_append_left _ hx)) fun v _ => ?_
    refine Ok.call (Rename_ok ht (by omega) (by omega) hu.symm (by omega) fun x hx => r2 x (List.mem_append_right _ hx)) fun w _ => ?_
    simp only [Bool.and_self, if_true]
    exact Ok.ret trivial
theorem Entry_ok {L : Option (List Int)} {k c : Int} (h : Num (L, k) c) (hc : c ≤ 137438953472) : Ok (bitextmake_Entry (L, k)) fun r => 0 ≤ r.1.2.2.2.2.2.2.1 ∧ r.1.2.2.2.2.2.2.1 < 50 ∧ Num (L, r.2) (c + 200) := by
  unfold bitextmake_Entry
  simp only [beq_self_eq_true, if_true, Bool.and_self]
  refine Ok.call (Fragment_ok h (by omega) (by decide) (by decide)) fun f hf => ?_
  obtain ⟨f1, f2⟩ := hf
  have mk : ∀ (a : Option (List Item)) (k1 : Int), FrB a 8 160 → Num (L, k1) (c + 60) → ∀ (Q : (Option (List Item) × Option (List Item) × List UInt8 × List UInt8 × List UInt8 × List UInt8 × Int × Int) × Int → Prop), (∀ r, 0 ≤ r.1.2.2.2.2.2.2.1 ∧ r.1.2.2.2.2.2.2.1 < 50 ∧ Num (L, r.2) (c + 200) → Q r) →
      Ok (callO (bitextmake_Target_o1 a (L, k1)) fun r3 => callO (bitextref3_Canonical_o0_1 a r3.1) fun r4 =>
        callO (bitextmake_Numbers_Next 4 (L, r3.2)) fun r5 => if decide (0 ≤ r5.1 ∧ r5.1 < 4) = true then if nlt (0 + r5.1.toNat) 4 = true then
          callO (bitextmake_Numbers_Next 4 (L, r5.2)) fun r6 => if decide (0 ≤ r6.1 ∧ r6.1 < 4) = true then if nlt (0 + r6.1.toNat) 4 = true then
            callO (bitextmake_Numbers_Next 3 (L, r6.2)) fun r7 => if decide (0 ≤ r7.1 ∧ r7.1 < 3) = true then if nlt (0 + r7.1.toNat) 3 = true then
              callO (bitextmake_Numbers_Next 3 (L, r7.2)) fun r8 => if decide (0 ≤ r8.1 ∧ r8.1 < 3) = true then if nlt (0 + r8.1.toNat) 3 = true then
                callO (bitextmake_Numbers_Next 50 (L, r8.2)) fun r9 => callO (bitextmake_Numbers_Next 3 (L, r9.2)) fun r10 =>
                  some ((r4.1, r4.2, [[], [], [83, 97, 118, 101], [114, 101, 100, 32, 99, 97, 114]].getD (0 + r5.1.toNat) [], [[], [], [120], [83, 97, 118, 101]].getD (0 + r6.1.toNat) [], [[], [97, 110, 110], [98, 111, 98]].getD (0 + r7.1.toNat) [], [[], [112], [113]].getD (0 + r8.1.toNat) [], r9.1, IntKind.i64.wrap (1 + r10.1)), r10.2)
              else none else none else none else none else none else none else none else none) Q := by
    intro a k1 ha hk Q hQ
    refine Ok.call (Target_ok ha hk (by omega) (by decide) (by decide)) fun r3 h3 => ?_
    refine Ok.call (Canonical_ok ha h3.1 (by decide) (by decide) (by decide)) fun r4 _ => ?_
    refine Ok.call (Next_ok h3.2 (by omega) (by decide) (by decide)) fun r5 h5 => ?_
    refine Ok.grd ⟨h5.1, h5.2.1⟩ (Ok.pos ((nlt_iff _ _).2 (by have := h5.1; have := h5.2.1; omega)) ?_)
    refine Ok.call (Next_ok h5.2.2 (by omega) (by decide) (by decide)) fun r6 h6 => ?_
    refine Ok.grd ⟨h6.1, h6.2.1⟩ (Ok.pos ((nlt_iff _ _).2 (by have := h6.1; have := h6.2.1; omega)) ?_)
    refine Ok.call (Next_ok h6.2.2 (by omega) (by decide) (by decide)) fun r7 h7 => ?_
    refine Ok.grd ⟨h7.1, h7.2.1⟩ (Ok.pos ((nlt_iff _ _).2 (by have := h7.1; have := h7.2.1; omega)) ?_)
    refine Ok.call (Next_ok h7.2.2 (by omega) (by decide) (by decide)) fun r8 h8 => ?_
    refine Ok.grd ⟨h8.1, h8.2.1⟩ (Ok.pos ((nlt_iff _ _).2 (by have := h8.1; have := h8.2.1; omega)) ?_)
    refine Ok.call (Next_ok h8.2.2 (by omega) (by decide) (by decide)) fun r9 h9 => ?_
    refine Ok.call (Next_ok h9.2.2 (by omega) (by decide) (by decide)) fun r10 h10 => ?_
    exact Ok.ret (hQ _ ⟨h9.1, h9.2.1, h10.2.2.le (by omega)⟩)
  refine Ok.ite (fun _ => ?_) (fun _ => ?_)
  · refine Ok.call (Next_ok f2 (by omega) (by decide) (by decide)) fun u hu => ?_
    obtain ⟨u0, u1, u2⟩ := hu
    refine Ok.pos (by rw [Bool.and_eq_true, decide_eq_true_iff, nlt_iff]; omega) ?_
    refine mk _ u.2 ((FrB.one _ (q := 20) ?_).le (by decide) (by decide)) (u2.le (by omega)) _ fun r hr => hr
    exact table_ok (fun w => w.length ≤ 20) u0 u1 (by decide) (by decide)
  · exact mk f.1 f.2 (f1.le (by decide) (by decide)) (f2.le (by omega)) _ fun r hr => hr
end Go.Fn
/- bitext/bitextlaw17.light -/
namespace Go.Fn
open Go Go.Vs Go.Ve
set_option linter.unusedVariables false
def bitextlaw17_light_l0 : Option (List (Int × List UInt8 × List UInt8 × Int × Int)) → Int × Int → Option (Int × Int ⊕ Int) :=
  fun l s0 =>
    if decide (s0.snd < lenI (l.getD [])) = true then
      if (decide (0 ≤ s0.snd ∧ s0.snd < lenI (l.getD [])) && decide (0 ≤ s0.snd ∧ s0.snd < lenI (l.getD []))) = true then
        some
          (Sum.inl
            (IntKind.i64.wrap
                (s0.fst +
                  IntKind.i64.wrap
                    (IntKind.i64.wrap (1 + lenI ((l.getD []).getD s0.snd.toNat (0, [], [], 0, 0)).snd.fst) +
                      lenI ((l.getD []).getD s0.snd.toNat (0, [], [], 0, 0)).snd.snd.fst)),
              IntKind.i64.wrap (s0.snd + 1)))
      else none
    else some (Sum.inr s0.fst)
def bitextlaw17_light : Option (List (Int × List UInt8 × List UInt8 × Int × Int)) → Option Bool :=
  fun l => callO (loopR (bitextlaw17_light_l0 l) (0, 0)) fun r1 => some (decide (r1 ≤ 300))
end Go.Fn
/- bitext/bitextref16.Points -/
namespace Go.Fn
open Go Go.Vs Go.Ve
set_option linter.unusedVariables false
def bitextref16_Points_o0_l0 : Option (List (Int × List UInt8 × List UInt8 × Int × Int)) →
    Option (List (Int × List UInt8 × Int)) ×
        Option (List (Int × List UInt8 × Int)) × List UInt8 × List UInt8 × List UInt8 × List UInt8 × Int × Int →
      Int → Int × Int → Option (Int × Int ⊕ Int) :=
  fun l e now s1 =>
    if decide (s1.snd < lenI (l.getD [])) = true then
      if (decide (0 ≤ s1.snd ∧ s1.snd < lenI (l.getD [])) && nlt (0 + s1.snd.toNat) (l.getD []).length) = true then
        callO
          (bitextref16_Applies
            (((l.getD []).getD (0 + s1.snd.toNat) (0, [], [], 0, 0)).fst,
              ((l.getD []).getD (0 + s1.snd.toNat) (0, [], [], 0, 0)).snd.fst,
              ((l.getD []).getD (0 + s1.snd.toNat) (0, [], [], 0, 0)).snd.snd.fst,
              ((l.getD []).getD (0 + s1.snd.toNat) (0, [], [], 0, 0)).snd.snd.snd.fst,
              ((l.getD []).getD (0 + s1.snd.toNat) (0, [], [], 0, 0)).snd.snd.snd.snd)
            (e.fst, e.snd.fst, e.snd.snd.fst, e.snd.snd.snd.fst, e.snd.snd.snd.snd.fst, e.snd.snd.snd.snd.snd.fst,
              e.snd.snd.snd.snd.snd.snd.fst, e.snd.snd.snd.snd.snd.snd.snd)
            now)
          fun r1 =>
          some
            (Sum.inl
              (if r1 = true then
                  minI 100
                    (IntKind.i64.wrap
                      (s1.fst +
                        minI 100 (maxI 0 ((l.getD []).getD (0 + s1.snd.toNat) (0, [], [], 0, 0)).snd.snd.snd.snd)))
                else s1.fst,
                IntKind.i64.wrap (s1.snd + 1)))
      else none
    else some (Sum.inr s1.fst)
def bitextref16_Points_o0 : Option (List (Int × List UInt8 × List UInt8 × Int × Int)) →
    Option (List (Int × List UInt8 × Int)) ×
        Option (List (Int × List UInt8 × Int)) × List UInt8 × List UInt8 × List UInt8 × List UInt8 × Int × Int →
      Int → Option Int :=
  fun l e now => callO (loopR (bitextref16_Points_o0_l0 l e now) (0, 0)) fun r1 => some r1
end Go.Fn
/- bitext/bitextlaw17.PenaltyApplies -/
namespace Go.Fn
open Go Go.Vs Go.Ve
set_option linter.unusedVariables false
def bitextlaw17_PenaltyApplies_l0 : Option (List (Int × List UInt8 × List UInt8 × Int × Int)) →
    Option (List (Int × List UInt8 × Int)) ×
        Option (List (Int × List UInt8 × Int)) × List UInt8 × List UInt8 × List UInt8 × List UInt8 × Int × Int →
      Int →
        (Option (List (Int × List UInt8 × Int)) ×
              Option (List (Int × List UInt8 × Int)) × List UInt8 × List UInt8 × List UInt8 × List UInt8 × Int × Int) ×
            Int →
          Int → Int → Option (Int ⊕ Bool ⊕ Unit) :=
  fun a0 a1 a2 r1 r2 s1 =>
    if decide (s1 < lenI (a0.getD [])) = true then
      if decide (0 ≤ s1 ∧ s1 < lenI (a0.getD [])) = true then
        callO
          (penalty_Applies
            (((a0.getD []).getD s1.toNat (0, [], [], 0, 0)).fst, ((a0.getD []).getD s1.toNat (0, [], [], 0, 0)).snd.fst,
              ((a0.getD []).getD s1.toNat (0, [], [], 0, 0)).snd.snd.fst,
              ((a0.getD []).getD s1.toNat (0, [], [], 0, 0)).snd.snd.snd.fst,
              ((a0.getD []).getD s1.toNat (0, [], [], 0, 0)).snd.snd.snd.snd)
            (a1.fst, a1.snd.fst, a1.snd.snd.fst, a1.snd.snd.snd.fst, a1.snd.snd.snd.snd.fst, a1.snd.snd.snd.snd.snd.fst,
              a1.snd.snd.snd.snd.snd.snd.fst, a1.snd.snd.snd.snd.snd.snd.snd)
            a2)
          fun r3 =>
          if decide (0 ≤ s1 ∧ s1 < lenI (a0.getD [])) = true then
            callO
              (bitextref16_Applies
                (((a0.getD []).getD s1.toNat (0, [], [], 0, 0)).fst,
                  ((a0.getD []).getD s1.toNat (0, [], [], 0, 0)).snd.fst,
                  ((a0.getD []).getD s1.toNat (0, [], [], 0, 0)).snd.snd.fst,
                  ((a0.getD []).getD s1.toNat (0, [], [], 0, 0)).snd.snd.snd.fst,
                  ((a0.getD []).getD s1.toNat (0, [], [], 0, 0)).snd.snd.snd.snd)
                (a1.fst, a1.snd.fst, a1.snd.snd.fst, a1.snd.snd.snd.fst, a1.snd.snd.snd.snd.fst,
                  a1.snd.snd.snd.snd.snd.fst, a1.snd.snd.snd.snd.snd.snd.fst, a1.snd.snd.snd.snd.snd.snd.snd)
                a2)
              fun r4 =>
              if (!r3 == r4) = true then some (Sum.inr (Sum.inl false))
              else
                if decide (0 ≤ s1 ∧ s1 < lenI (a0.getD [])) = true then
                  callO
                    (penalty_Applies
                      (((a0.getD []).getD s1.toNat (0, [], [], 0, 0)).fst,
                        ((a0.getD []).getD s1.toNat (0, [], [], 0, 0)).snd.fst,
                        ((a0.getD []).getD s1.toNat (0, [], [], 0, 0)).snd.snd.fst,
                        ((a0.getD []).getD s1.toNat (0, [], [], 0, 0)).snd.snd.snd.fst,
                        ((a0.getD []).getD s1.toNat (0, [], [], 0, 0)).snd.snd.snd.snd)
                      (r1.fst.fst, r1.fst.snd.fst, r1.fst.snd.snd.fst, r1.fst.snd.snd.snd.fst, r1.fst.snd.snd.snd.snd.fst,
                        r1.fst.snd.snd.snd.snd.snd.fst, r1.fst.snd.snd.snd.snd.snd.snd.fst,
                        r1.fst.snd.snd.snd.snd.snd.snd.snd)
                      r2)
                    fun r5 =>
                    if decide (0 ≤ s1 ∧ s1 < lenI (a0.getD [])) = true then
                      callO
                        (bitextref16_Applies
                          (((a0.getD []).getD s1.toNat (0, [], [], 0, 0)).fst,
                            ((a0.getD []).getD s1.toNat (0, [], [], 0, 0)).snd.fst,
                            ((a0.getD []).getD s1.toNat (0, [], [], 0, 0)).snd.snd.fst,
                            ((a0.getD []).getD s1.toNat (0, [], [], 0, 0)).snd.snd.snd.fst,
                            ((a0.getD []).getD s1.toNat (0, [], [], 0, 0)).snd.snd.snd.snd)
                          (r1.fst.fst, r1.fst.snd.fst, r1.fst.snd.snd.fst, r1.fst.snd.snd.snd.fst,
                            r1.fst.snd.snd.snd.snd.fst, r1.fst.snd.snd.snd.snd.snd.fst,
                            r1.fst.snd.snd.snd.snd.snd.snd.fst, r1.fst.snd.snd.snd.snd.snd.snd.snd)
                          r2)
                        fun r6 =>
                        if (!r5 == r6) = true then some (Sum.inr (Sum.inl false))
                        else some (Sum.inl (IntKind.i64.wrap (s1 + 1)))
                    else none
                else none
          else none
      else none
    else some (Sum.inr (Sum.inr ()))
def bitextlaw17_PenaltyApplies_l1 : Option (List (Int × List UInt8 × List UInt8 × Int × Int)) × Int →
    (Option (List (Int × List UInt8 × Int)) ×
          Option (List (Int × List UInt8 × Int)) × List UInt8 × List UInt8 × List UInt8 × List UInt8 × Int × Int) ×
        Int →
      Int → Int → Option (Int ⊕ Bool ⊕ Unit) :=
  fun r1 r2 r3 s1 =>
    if decide (s1 < lenI (r1.fst.getD [])) = true then
      if decide (0 ≤ s1 ∧ s1 < lenI (r1.fst.getD [])) = true then
        if nlt (0 + s1.toNat) (r1.fst.getD []).length = true then
          callO
            (penalty_Applies
              (((r1.fst.getD []).getD (0 + s1.toNat) (0, [], [], 0, 0)).fst,
                ((r1.fst.getD []).getD (0 + s1.toNat) (0, [], [], 0, 0)).snd.fst,
                ((r1.fst.getD []).getD (0 + s1.toNat) (0, [], [], 0, 0)).snd.snd.fst,
                ((r1.fst.getD []).getD (0 + s1.toNat) (0, [], [], 0, 0)).snd.snd.snd.fst,
                ((r1.fst.getD []).getD (0 + s1.toNat) (0, [], [], 0, 0)).snd.snd.snd.snd)
              (r2.fst.fst, r2.fst.snd.fst, r2.fst.snd.snd.fst, r2.fst.snd.snd.snd.fst, r2.fst.snd.snd.snd.snd.fst,
                r2.fst.snd.snd.snd.snd.snd.fst, r2.fst.snd.snd.snd.snd.snd.snd.fst, r2.fst.snd.snd.snd.snd.snd.snd.snd)
              r3)
            fun r4 =>
            if decide (0 ≤ s1 ∧ s1 < lenI (r1.fst.getD [])) = true then
              if nlt (0 + s1.toNat) (r1.fst.getD []).length = true then
                callO
                  (bitextref16_Applies
                    (((r1.fst.getD []).getD (0 + s1.toNat) (0, [], [], 0, 0)).fst,
                      ((r1.fst.getD []).getD (0 + s1.toNat) (0, [], [], 0, 0)).snd.fst,
                      ((r1.fst.getD []).getD (0 + s1.toNat) (0, [], [], 0, 0)).snd.snd.fst,
                      ((r1.fst.getD []).getD (0 + s1.toNat) (0, [], [], 0, 0)).snd.snd.snd.fst,
                      ((r1.fst.getD []).getD (0 + s1.toNat) (0, [], [], 0, 0)).snd.snd.snd.snd)
                    (r2.fst.fst, r2.fst.snd.fst, r2.fst.snd.snd.fst, r2.fst.snd.snd.snd.fst, r2.fst.snd.snd.snd.snd.fst,
                      r2.fst.snd.snd.snd.snd.snd.fst, r2.fst.snd.snd.snd.snd.snd.snd.fst,
                      r2.fst.snd.snd.snd.snd.snd.snd.snd)
                    r3)
                  fun r5 =>
                  if (!r4 == r5) = true then some (Sum.inr (Sum.inl false))
                  else some (Sum.inl (IntKind.i64.wrap (s1 + 1)))
              else none
            else none
        else none
      else none
    else some (Sum.inr (Sum.inr ()))
def bitextlaw17_PenaltyApplies : Option (List (Int × List UInt8 × List UInt8 × Int × Int)) →
    Option (List (Int × List UInt8 × Int)) ×
        Option (List (Int × List UInt8 × Int)) × List UInt8 × List UInt8 × List UInt8 × List UInt8 × Int × Int →
      Int → Option (List Int) → Option (List Int) → Option Bool :=
  fun a0 a1 a2 a3 a4 =>
    callO (bitextlaw17_light a0) fun r1 =>
      if
          (!r1 ||
              (decide (IntKind.i64.wrap (lenI a1.snd.snd.snd.snd.fst + lenI a1.snd.snd.snd.snd.snd.fst) > 100) ||
                (decide (lenI (a3.getD []) > 100) || decide (lenI (a4.getD []) > 60)))) =
            true then
        callO bitextlaw17_known fun r2 => some r2
      else
        callO (bitextmake_Penalties 8 (a3, 0)) fun r3 =>
          if (r3.fst.isSome == r3.fst.isSome) = true then
            callO (bitextmake_Entry (a4, 0)) fun r4 =>
              callO (bitextmake_Place a2 100) fun r5 =>
                callO (loopR (bitextlaw17_PenaltyApplies_l0 a0 a1 a2 r4 r5) 0) fun r6 =>
                  sumO r6 (fun r7 => some r7) fun r8 =>
                    callO (loopR (bitextlaw17_PenaltyApplies_l1 r3 r4 r5) 0) fun r9 =>
                      sumO r9 (fun r10 => some r10) fun r11 =>
                        callO
                          (penalty_Points a0
                            (a1.fst, a1.snd.fst, a1.snd.snd.fst, a1.snd.snd.snd.fst, a1.snd.snd.snd.snd.fst,
                              a1.snd.snd.snd.snd.snd.fst, a1.snd.snd.snd.snd.snd.snd.fst, a1.snd.snd.snd.snd.snd.snd.snd)
                            a2)
                          fun r12 =>
                          callO
                            (bitextref16_Points a0
                              (a1.fst, a1.snd.fst, a1.snd.snd.fst, a1.snd.snd.snd.fst, a1.snd.snd.snd.snd.fst,
                                a1.snd.snd.snd.snd.snd.fst, a1.snd.snd.snd.snd.snd.snd.fst,
                                a1.snd.snd.snd.snd.snd.snd.snd)
                              a2)
                            fun r13 =>
                            if (r12 == r13) = true then
                              if (r3.fst.isSome == r3.fst.isSome) = true then
                                callO
                                  (penalty_Points_o0 r3.fst
                                    (r4.fst.fst, r4.fst.snd.fst, r4.fst.snd.snd.fst, r4.fst.snd.snd.snd.fst,
                                      r4.fst.snd.snd.snd.snd.fst, r4.fst.snd.snd.snd.snd.snd.fst,
                                      r4.fst.snd.snd.snd.snd.snd.snd.fst, r4.fst.snd.snd.snd.snd.snd.snd.snd)
                                    r5)
                                  fun r14 =>
                                  if (r3.fst.isSome == r3.fst.isSome) = true then
                                    callO
                                      (bitextref16_Points_o0 r3.fst
                                        (r4.fst.fst, r4.fst.snd.fst, r4.fst.snd.snd.fst, r4.fst.snd.snd.snd.fst,
                                          r4.fst.snd.snd.snd.snd.fst, r4.fst.snd.snd.snd.snd.snd.fst,
                                          r4.fst.snd.snd.snd.snd.snd.snd.fst, r4.fst.snd.snd.snd.snd.snd.snd.snd)
                                        r5)
                                      fun r15 =>
                                      if (r14 == r15) = true then callO bitextlaw17_known fun r16 => some r16
                                      else some false
                                  else none
                              else none
                            else some false
          else none
end Go.Fn
/- bitext/bitextlaw17.PenaltyAdds -/
namespace Go.Fn
open Go Go.Vs Go.Ve
set_option linter.unusedVariables false
def bitextlaw17_PenaltyAdds : Option (List Int) → Option (List Int) → Option (List Int) → Int → Option Bool :=
  fun a0 a1 a2 a3 =>
    if
        (decide (lenI (a0.getD []) > 100) || (decide (lenI (a1.getD []) > 100) || decide (lenI (a2.getD []) > 60))) =
          true then
      callO bitextlaw17_known fun r1 => some r1
    else
      callO (bitextmake_Penalties 8 (a0, 0)) fun r2 =>
        callO (bitextmake_Penalties 8 (a1, 0)) fun r3 =>
          if (r2.fst.isSome == r2.fst.isSome && r3.fst.isSome == r3.fst.isSome) = true then
            callO (bitextmake_Entry (a2, 0)) fun r4 =>
              callO (bitextmake_Place a3 100) fun r5 =>
                if
                    (r2.fst.isSome == r2.fst.isSome &&
                        (decide ((r2.fst.getD []).length ≤ 68719476736) &&
                          (r3.fst.isSome == r3.fst.isSome &&
                            (decide
                                (0 + ((optL (r2.fst.getD [])).getD []).length =
                                  ((optL (r2.fst.getD [])).getD []).length) &&
                              (decide
                                  (((optL (r2.fst.getD [])).getD []).length + (r3.fst.getD []).length ≤ 68719476736) &&
                                ((optL (r2.fst.getD [])).isSome == (optL (r2.fst.getD [])).isSome &&
                                  (appL (optL (r2.fst.getD [])) (r3.fst.getD [])).isSome ==
                                    (appL (optL (r2.fst.getD [])) (r3.fst.getD [])).isSome)))))) =
                      true then
                  if
                      (r3.fst.isSome == r3.fst.isSome &&
                          (decide ((r3.fst.getD []).length ≤ 68719476736) &&
                            (r2.fst.isSome == r2.fst.isSome &&
                              (decide
                                  (0 + ((optL (r3.fst.getD [])).getD []).length =
                                    ((optL (r3.fst.getD [])).getD []).length) &&
                                (decide
                                    (((optL (r3.fst.getD [])).getD []).length + (r2.fst.getD []).length ≤ 68719476736) &&
                                  ((optL (r3.fst.getD [])).isSome == (optL (r3.fst.getD [])).isSome &&
                                    (appL (optL (r3.fst.getD [])) (r2.fst.getD [])).isSome ==
                                      (appL (optL (r3.fst.getD [])) (r2.fst.getD [])).isSome)))))) =
                        true then
                    if
                        ((appL (optL (r2.fst.getD [])) (r3.fst.getD [])).isSome ==
                            (appL (optL (r2.fst.getD [])) (r3.fst.getD [])).isSome) =
                          true then
                      callO
                        (penalty_Points_o0 (appL (optL (r2.fst.getD [])) (r3.fst.getD []))
                          (r4.fst.fst, r4.fst.snd.fst, r4.fst.snd.snd.fst, r4.fst.snd.snd.snd.fst,
                            r4.fst.snd.snd.snd.snd.fst, r4.fst.snd.snd.snd.snd.snd.fst,
                            r4.fst.snd.snd.snd.snd.snd.snd.fst, r4.fst.snd.snd.snd.snd.snd.snd.snd)
                          r5)
                        fun r6 =>
                        if (r2.fst.isSome == r2.fst.isSome) = true then
                          callO
                            (penalty_Points_o0 r2.fst
                              (r4.fst.fst, r4.fst.snd.fst, r4.fst.snd.snd.fst, r4.fst.snd.snd.snd.fst,
                                r4.fst.snd.snd.snd.snd.fst, r4.fst.snd.snd.snd.snd.snd.fst,
                                r4.fst.snd.snd.snd.snd.snd.snd.fst, r4.fst.snd.snd.snd.snd.snd.snd.snd)
                              r5)
                            fun r7 =>
                            if (r3.fst.isSome == r3.fst.isSome) = true then
                              callO
                                (penalty_Points_o0 r3.fst
                                  (r4.fst.fst, r4.fst.snd.fst, r4.fst.snd.snd.fst, r4.fst.snd.snd.snd.fst,
                                    r4.fst.snd.snd.snd.snd.fst, r4.fst.snd.snd.snd.snd.snd.fst,
                                    r4.fst.snd.snd.snd.snd.snd.snd.fst, r4.fst.snd.snd.snd.snd.snd.snd.snd)
                                  r5)
                                fun r8 =>
                                if (r6 == minI 100 (IntKind.i64.wrap (r7 + r8))) = true then
                                  if
                                      ((appL (optL (r3.fst.getD [])) (r2.fst.getD [])).isSome ==
                                          (appL (optL (r3.fst.getD [])) (r2.fst.getD [])).isSome) =
                                        true then
                                    callO
                                      (penalty_Points_o0 (appL (optL (r3.fst.getD [])) (r2.fst.getD []))
                                        (r4.fst.fst, r4.fst.snd.fst, r4.fst.snd.snd.fst, r4.fst.snd.snd.snd.fst,
                                          r4.fst.snd.snd.snd.snd.fst, r4.fst.snd.snd.snd.snd.snd.fst,
                                          r4.fst.snd.snd.snd.snd.snd.snd.fst, r4.fst.snd.snd.snd.snd.snd.snd.snd)
                                        r5)
                                      fun r9 =>
                                      if (r6 == r9) = true then
                                        if decide (r6 ≥ 0) = true then callO bitextlaw17_known fun r10 => some r10
                                        else some false
                                      else some false
                                  else none
                                else some false
                            else none
                        else none
                    else none
                  else none
                else none
          else none
end Go.Fn
/- Plain laws of the penalties: the statements about what applies. -/
namespace Go.Fn
open Go Go.Vs Go.Ve
theorem Points_o0_l0 (l : Option (List Pen)) (e : Ent) (now : Int) : penalty_Points_o0_l0 l e now = penalty_Points_l0 l e now := by
  funext i
  unfold penalty_Points_o0_l0 penalty_Points_l0
  simp only [Nat.zero_add, guard_nlt]
theorem Points_o0 (l : Option (List Pen)) (e : Ent) (now : Int) : penalty_Points_o0 l e now = penalty_Points l e now := by
  unfold penalty_Points_o0 penalty_Points
  rw [Points_o0_l0]
theorem Points16_o0_l0 (l : Option (List Pen)) (e : Ent) (now : Int) : bitextref16_Points_o0_l0 l e now = bitextref16_Points_l0 l e now := by
  funext i
  unfold bitextref16_Points_o0_l0 bitextref16_Points_l0
  simp only [Nat.zero_add, guard_nlt]
theorem Points16_o0 (l : Option (List Pen)) (e : Ent) (now : Int) : bitextref16_Points_o0 l e now = bitextref16_Points l e now := by
  unfold bitextref16_Points_o0 bitextref16_Points
  rw [Points16_o0_l0]
theorem light_ok (l : Option (List Pen)) (hl : (l.getD []).length ≤ 4294967296) : Ok (bitextlaw17_light l) fun _ => True := by
  unfold bitextlaw17_light
  refine Ok.call (R := fun _ => True) (Ok.loop (fun s => 0 ≤ s.2 ∧ s.2 ≤ ((l.getD []).length : Int)) (fun s => (l.getD []).length - s.2.toNat) ⟨by simp, by (try dsimp only); omega⟩ (by unfold fuel; (try dsimp only); omega) ?_) fun r _ => Ok.ret trivial
  rintro ⟨n, i⟩ ⟨h0, h1⟩
  simp only at h0 h1
  obtain ⟨i, rfl⟩ := Int.eq_ofNat_of_zero_le h0
  unfold bitextlaw17_light_l0
  dsimp only
  refine Ok.dec (fun hi => ?_) (fun hi => Ok.ret trivial)
  have hb : (0 : Int) ≤ (i : Int) ∧ (i : Int) < lenI (l.getD []) := ⟨by omega, hi⟩
  rw [lenI_eq] at hi
  refine Ok.pos (by rw [decide_eq_true hb]; rfl) (Ok.ret ?_)
  simp only
  rw [wrap_i64 (n := (i : Int) + 1) (by omega) (by omega)]
  omega
theorem PenOk_of {o : Option (List Pen)} (h : Wf (.sl (.pair (.int .i64) (.pair .str (.pair .str (.pair (.int .i64) (.int .i64)))))) o) (hl : (o.getD []).length ≤ 4294967296) : PenOk o := by
  refine ⟨?_, hl⟩
  cases o with
  | none => intro p hp; cases hp
  | some xs => intro p hp; have := h p hp; exact ⟨this.2.2.2.1, this.2.2.2.2⟩
theorem entry_created {e : Ent × Int} (h0 : 0 ≤ e.1.2.2.2.2.2.2.1) (h1 : e.1.2.2.2.2.2.2.1 < 50) : In64 e.1.2.2.2.2.2.2.1 := ⟨by omega, by omega⟩
theorem Num.start {L : Option (List Int)} (h : ∀ x ∈ L.getD [], In64 x) : Num (L, 0) 0 := ⟨h, by simp, by simp⟩
theorem holds {o : Option Bool} (h : Ok o fun b => b = true) : o = some true := by obtain ⟨b, rfl, rfl⟩ := h; rfl
theorem known_ok : Ok bitextlaw17_known fun b => b = true := Ok.of_eq known_eq rfl
theorem place_ok {x n : Int} (hx : In64 x) (hn : 1 ≤ n) (hn2 : n ≤ 4611686018427387904) : Ok (bitextmake_Place x n) fun r => 0 ≤ r ∧ r < n :=
  Ok.of_eq (place_eq hx hn hn2) ⟨Int.emod_nonneg _ (by omega), Int.emod_lt_of_pos _ (by omega)⟩
theorem PenOk.app {a b : Option (List Pen)} (ha : PenOk a) (hb : PenOk b) (h1 : (a.getD []).length ≤ 8) (h2 : (b.getD []).length ≤ 8) : PenOk (appL (optL (a.getD [])) (b.getD [])) := by
  unfold PenOk
  rw [appL_get, optL_get]
  refine ⟨fun p hp => ?_, by rw [List.length_append]; omega⟩
  rcases List.mem_append.1 hp with h | h
  · exact ha.1 p h
  · exact hb.1 p h
theorem adds_holds (a0 a1 a2 : Option (List Int)) (a3 : Int) (h0 : ∀ x ∈ a0.getD [], In64 x) (h1 : ∀ x ∈ a1.getD [], In64 x) (h2 : ∀ x ∈ a2.getD [], In64 x) (h3 : In64 a3) :
    bitextlaw17_PenaltyAdds a0 a1 a2 a3 = some true := by
  refine holds ?_
  unfold bitextlaw17_PenaltyAdds
  refine Ok.ite (fun _ => Ok.call known_ok fun r hr => Ok.ret hr) fun _ => ?_
  refine Ok.call (Penalties_ok (Num.start h0) (by decide) (by decide) (by decide)) fun p hp => ?_
  refine Ok.call (Penalties_ok (Num.start h1) (by decide) (by decide) (by decide)) fun q hq => ?_
  obtain ⟨p1, p2, _⟩ := hp
  obtain ⟨q1, q2, _⟩ := hq
  simp only [beq_self_eq_true, Bool.and_self, if_true, Bool.true_and, Bool.and_true, Nat.zero_add, decide_true, optL_get, Points_o0]
  refine Ok.call (Entry_ok (Num.start h2) (by decide)) fun e he => ?_
  obtain ⟨e1, e2, _⟩ := he
  refine Ok.call (place_ok h3 (by decide) (by decide)) fun t ht => ?_
  have hT : In64 t := ⟨by omega, by omega⟩
  have hE := entry_created e1 e2
  have n1 : (p.1.getD []).length ≤ 8 := by omega
  have n2 : (q.1.getD []).length ≤ 8 := by omega
  refine Ok.pos (by rw [Bool.and_eq_true]; exact ⟨decide_eq_true (by omega), decide_eq_true (by omega)⟩) (Ok.pos (by rw [Bool.and_eq_true]; exact ⟨decide_eq_true (by omega), decide_eq_true (by omega)⟩) ?_)
  have pts := fun (l : Option (List Pen)) (hl : PenOk l) => Points_eq (l := l) (e := (e.1.1, e.1.2.1, e.1.2.2.1, e.1.2.2.2.1, e.1.2.2.2.2.1, e.1.2.2.2.2.2.1, e.1.2.2.2.2.2.2.1, e.1.2.2.2.2.2.2.2)) hT hE hl
  rw [pts _ (p1.app q1 n1 n2), pts _ p1, pts _ q1, pts _ (q1.app p1 n2 n1)]
  simp only [callO_some, appL_get, optL_get, ptsL_append, minI_eq]
  generalize hx : ptsL _ t (p.1.getD []) = x
  generalize hy : ptsL _ t (q.1.getD []) = y
  have x0 : 0 ≤ x := hx ▸ ptsL_nonneg _ _ _
  have y0 : 0 ≤ y := hy ▸ ptsL_nonneg _ _ _
  rw [wrap_i64 (by omega) (by omega)]
  refine Ok.pos (by rw [beq_iff_eq]; omega) (Ok.pos (by rw [beq_iff_eq]; omega) (Ok.grd (by omega) ?_))
  exact Ok.call known_ok fun r hr => Ok.ret hr
theorem all_l0 {σ ρ : Type} {f : σ → Option (σ ⊕ (ρ ⊕ Unit))} (mk : Nat → σ) (n : Nat) (yes : ∀ i, i < n → f (mk i) = some (.inl (mk (i + 1)))) (stop : f (mk n) = some (.inr (.inr ()))) (hn : n < fuel) : loopR f (mk 0) = some (.inr ()) :=
  Classical.byContradiction fun h => h (by
    have key : ∀ (k i : Nat), i + k = n → ∀ m, k < m → iterN f m (mk i) = some (.inr ()) := by
      intro k
      induction k with
      | zero =>
        intro i hi m hm
        obtain ⟨m, rfl⟩ : ∃ q, m = q + 1 := ⟨m - 1, by omega⟩
        have : i = n := by omega
        subst this
        unfold iterN; rw [stop]
      | succ k ih =>
        intro i hi m hm
        obtain ⟨m, rfl⟩ : ∃ q, m = q + 1 := ⟨m - 1, by omega⟩
        unfold iterN
        rw [yes i (by omega)]
        exact ih (i + 1) (by omega) m (by omega)
    exact key n 0 (by omega) fuel hn)
theorem applies_holds (a0 : Option (List Pen)) (a1 : Ent) (a2 : Int) (a3 a4 : Option (List Int)) (h0 : PenOk a0) (h1 : In64 a1.2.2.2.2.2.2.1) (h2 : In64 a2) (h3 : ∀ x ∈ a3.getD [], In64 x) (h4 : ∀ x ∈ a4.getD [], In64 x) :
    bitextlaw17_PenaltyApplies a0 a1 a2 a3 a4 = some true := by
  refine holds ?_
  unfold bitextlaw17_PenaltyApplies
  refine Ok.call (light_ok a0 h0.2) fun _ _ => ?_
  refine Ok.ite (fun _ => Ok.call known_ok fun r hr => Ok.ret hr) fun _ => ?_
  refine Ok.call (Penalties_ok (Num.start h3) (by decide) (by decide) (by decide)) fun p hp => ?_
  obtain ⟨p1, p2, _⟩ := hp
  simp only [beq_self_eq_true, Bool.and_self, if_true, Points_o0, Points16_o0]
  refine Ok.call (Entry_ok (Num.start h4) (by decide)) fun e he => ?_
  obtain ⟨e1, e2, _⟩ := he
  have hE := entry_created e1 e2
  refine Ok.call (place_ok h2 (by decide) (by decide)) fun t ht => ?_
  have hT : In64 t := ⟨by omega, by omega⟩
  have hl := h0.2
  have l0 := all_l0 (f := bitextlaw17_PenaltyApplies_l0 a0 a1 a2 e t) (fun i => (i : Int)) (a0.getD []).length (fun i hi => by
    have hm := h0.1 _ (List.getElem_mem hi)
    unfold bitextlaw17_PenaltyApplies_l0
    refine (rangeIn hi).trans ?_
    have hb : (0 : Int) ≤ (i : Int) ∧ (i : Int) < lenI (a0.getD []) := by rw [lenI_eq]; omega
    simp only [hb, and_self, decide_true, if_true, getD_at hi]
    rw [Applies_eq (e := (a1.1, a1.2.1, a1.2.2.1, a1.2.2.2.1, a1.2.2.2.2.1, a1.2.2.2.2.2.1, a1.2.2.2.2.2.2.1, a1.2.2.2.2.2.2.2)) h2 h1 (p := ((a0.getD [])[i].1, (a0.getD [])[i].2.1, (a0.getD [])[i].2.2.1, (a0.getD [])[i].2.2.2.1, (a0.getD [])[i].2.2.2.2)) hm.1,
      Applies16_eq (e := (a1.1, a1.2.1, a1.2.2.1, a1.2.2.2.1, a1.2.2.2.2.1, a1.2.2.2.2.2.1, a1.2.2.2.2.2.2.1, a1.2.2.2.2.2.2.2)) h2 h1 (p := ((a0.getD [])[i].1, (a0.getD [])[i].2.1, (a0.getD [])[i].2.2.1, (a0.getD [])[i].2.2.2.1, (a0.getD [])[i].2.2.2.2)) hm.1,
      Applies_eq (e := (e.1.1, e.1.2.1, e.1.2.2.1, e.1.2.2.2.1, e.1.2.2.2.2.1, e.1.2.2.2.2.2.1, e.1.2.2.2.2.2.2.1, e.1.2.2.2.2.2.2.2)) hT hE (p := ((a0.getD [])[i].1, (a0.getD [])[i].2.1, (a0.getD [])[i].2.2.1, (a0.getD [])[i].2.2.2.1, (a0.getD [])[i].2.2.2.2)) hm.1,
      Applies16_eq (e := (e.1.1, e.1.2.1, e.1.2.2.1, e.1.2.2.2.1, e.1.2.2.2.2.1, e.1.2.2.2.2.2.1, e.1.2.2.2.2.2.2.1, e.1.2.2.2.2.2.2.2)) hT hE (p := ((a0.getD [])[i].1, (a0.getD [])[i].2.1, (a0.getD [])[i].2.2.1, (a0.getD [])[i].2.2.2.1, (a0.getD [])[i].2.2.2.2)) hm.1]
    simp only [callO_some]
    rw [wrap_succ hi (by omega)]
    generalize applies _ _ a2 = b
    generalize applies _ _ t = b'
    cases b <;> cases b' <;> rfl) (by unfold bitextlaw17_PenaltyApplies_l0; exact rangeOut) (by unfold fuel; omega)
  rw [show ((0 : Nat) : Int) = 0 from rfl] at l0
  have l1 := all_l0 (f := bitextlaw17_PenaltyApplies_l1 p e t) (fun i => (i : Int)) (p.1.getD []).length (fun i hi => by
    have hm := p1.1 _ (List.getElem_mem hi)
    unfold bitextlaw17_PenaltyApplies_l1
    refine (rangeIn hi).trans ?_
    have hb : (0 : Int) ≤ (i : Int) ∧ (i : Int) < lenI (p.1.getD []) := by rw [lenI_eq]; omega
    have hc : nlt (i : Int).toNat (p.1.getD []).length = true := (nlt_iff _ _).2 (by omega)
    simp only [Nat.zero_add, hc, hb, and_self, decide_true, if_true, getD_at hi]
    rw [Applies_eq (e := (e.1.1, e.1.2.1, e.1.2.2.1, e.1.2.2.2.1, e.1.2.2.2.2.1, e.1.2.2.2.2.2.1, e.1.2.2.2.2.2.2.1, e.1.2.2.2.2.2.2.2)) hT hE (p := ((p.1.getD [])[i].1, (p.1.getD [])[i].2.1, (p.1.getD [])[i].2.2.1, (p.1.getD [])[i].2.2.2.1, (p.1.getD [])[i].2.2.2.2)) hm.1,
      Applies16_eq (e := (e.1.1, e.1.2.1, e.1.2.2.1, e.1.2.2.2.1, e.1.2.2.2.2.1, e.1.2.2.2.2.2.1, e.1.2.2.2.2.2.2.1, e.1.2.2.2.2.2.2.2)) hT hE (p := ((p.1.getD [])[i].1, (p.1.getD [])[i].2.1, (p.1.getD [])[i].2.2.1, (p.1.getD [])[i].2.2.2.1, (p.1.getD [])[i].2.2.2.2)) hm.1]
    simp only [callO_some]
    rw [wrap_succ hi (by omega)]
    generalize applies _ _ t = b'
    cases b' <;> rfl) (by unfold bitextlaw17_PenaltyApplies_l1; exact rangeOut) (by unfold fuel; omega)
  rw [show ((0 : Nat) : Int) = 0 from rfl] at l1
  rw [l0, callO_some, sumO_inr, l1, callO_some, sumO_inr]
  rw [Points_eq (e := (a1.1, a1.2.1, a1.2.2.1, a1.2.2.2.1, a1.2.2.2.2.1, a1.2.2.2.2.2.1, a1.2.2.2.2.2.2.1, a1.2.2.2.2.2.2.2)) h2 h1 h0, Points16_eq (e := (a1.1, a1.2.1, a1.2.2.1, a1.2.2.2.1, a1.2.2.2.2.1, a1.2.2.2.2.2.1, a1.2.2.2.2.2.2.1, a1.2.2.2.2.2.2.2)) h2 h1 h0,
    Points_eq (e := (e.1.1, e.1.2.1, e.1.2.2.1, e.1.2.2.2.1, e.1.2.2.2.2.1, e.1.2.2.2.2.2.1, e.1.2.2.2.2.2.2.1, e.1.2.2.2.2.2.2.2)) hT hE p1, Points16_eq (e := (e.1.1, e.1.2.1, e.1.2.2.1, e.1.2.2.2.1, e.1.2.2.2.2.1, e.1.2.2.2.2.2.1, e.1.2.2.2.2.2.2.1, e.1.2.2.2.2.2.2.2)) hT hE p1]
  simp only [callO_some, beq_self_eq_true, if_true]
  exact Ok.call known_ok fun r hr => Ok.ret hr
def anyP (e : Ent) (t : Int) (l : List Pen) : Bool := l.any fun p => decide (p.2.2.2.2 > 0) && applies p e t
theorem ptsL_pos (e : Ent) (t : Int) : ∀ l : List Pen, decide (0 < ptsL e t l) = anyP e t l
  | [] => rfl
  | p :: r => by
    have h := ptsL_pos e t r
    have h1 := pts1_nonneg e t p
    have h2 := ptsL_nonneg e t r
    simp only [ptsL, anyP, List.any_cons]
    rw [show (r.any fun p => decide (p.2.2.2.2 > 0) && applies p e t) = anyP e t r from rfl, ← h]
    unfold pts1 at h1 ⊢
    by_cases c1 : applies p e t = true <;> by_cases c2 : p.2.2.2.2 > 0 <;> by_cases c3 : 0 < ptsL e t r <;> simp [c1, c2, c3] <;> omega
theorem ptsL_mono (e : Ent) {t u : Int} (h : t ≤ u) : ∀ l : List Pen, ptsL e t l ≤ ptsL e u l
  | [] => Int.le_refl _
  | p :: r => by
    have ih := ptsL_mono e h r
    simp only [ptsL]
    have : pts1 e t p ≤ pts1 e u p := by
      unfold pts1
      have ha : applies p e t = true → applies p e u = true := by
        unfold applies
        simp only [Bool.and_eq_true, Bool.or_eq_true, decide_eq_true_iff]
        rintro ⟨h1, h2⟩
        exact ⟨h1, by omega⟩
      by_cases c : applies p e t = true
      · rw [if_pos c, if_pos (ha c)]; omega
      · rw [if_neg c]; split <;> omega
    omega
theorem matters_holds (a0 a1 : Option (List Int)) (a2 a3 : Int) (h0 : ∀ x ∈ a0.getD [], In64 x) (h1 : ∀ x ∈ a1.getD [], In64 x) (h2 : In64 a2) (h3 : In64 a3) :
    bitextlaw17_PenaltyMatters a0 a1 a2 a3 = some true := by
  refine holds ?_
  unfold bitextlaw17_PenaltyMatters
  refine Ok.ite (fun _ => Ok.call known_ok fun r hr => Ok.ret hr) fun _ => ?_
  refine Ok.call (Penalties_ok (Num.start h0) (by decide) (by decide) (by decide)) fun p hp => ?_
  obtain ⟨p1, p2, _⟩ := hp
  simp only [beq_self_eq_true, if_true, Points_o0]
  refine Ok.call (Entry_ok (Num.start h1) (by decide)) fun e he => ?_
  obtain ⟨e1, e2, _⟩ := he
  have hE := entry_created e1 e2
  refine Ok.call (place_ok h2 (by decide) (by decide)) fun t ht => ?_
  have hT : In64 t := ⟨by omega, by omega⟩
  have hL := loopR_fold (f := bitextlaw17_PenaltyMatters_l0 p e t) (fun b q => some (.inl (b || (decide (q.2.2.2.2 > 0) && applies q (e.1.1, e.1.2.1, e.1.2.2.1, e.1.2.2.2.1, e.1.2.2.2.2.1, e.1.2.2.2.2.2.1, e.1.2.2.2.2.2.2.1, e.1.2.2.2.2.2.2.2) t)))) (fun b => some b) (fun b i => (b, (i : Int))) (p.1.getD []) (fun b i hi => by
    have hm := p1.1 _ (List.getElem_mem hi)
    unfold bitextlaw17_PenaltyMatters_l0
    refine (rangeIn1 hi).trans ?_
    have hb : (0 : Int) ≤ (i : Int) ∧ (i : Int) < lenI (p.1.getD []) := by rw [lenI_eq]; omega
    have hc : nlt (i : Int).toNat (p.1.getD []).length = true := (nlt_iff _ _).2 (by omega)
    cases b with
    | true => simp only [if_true, Bool.true_or]; rw [wrap_succ hi (by omega)]
    | false =>
      simp only [Bool.false_eq_true, if_false, Nat.zero_add, hc, hb, and_self, decide_true, if_true, getD_at hi]
      rw [Applies_eq (e := (e.1.1, e.1.2.1, e.1.2.2.1, e.1.2.2.2.1, e.1.2.2.2.2.1, e.1.2.2.2.2.2.1, e.1.2.2.2.2.2.2.1, e.1.2.2.2.2.2.2.2)) hT hE (p := ((p.1.getD [])[i].1, (p.1.getD [])[i].2.1, (p.1.getD [])[i].2.2.1, (p.1.getD [])[i].2.2.2.1, (p.1.getD [])[i].2.2.2.2)) hm.1]
      simp only [callO_some, Bool.false_or]
      rw [wrap_succ hi (by omega)]
      by_cases c : (p.1.getD [])[i].2.2.2.2 > 0
      · simp only [c, decide_true, if_true, Bool.true_and]
      · simp only [c, decide_false, Bool.false_eq_true, if_false, Bool.false_and]) (fun b => by unfold bitextlaw17_PenaltyMatters_l0; exact rangeOut) (by unfold fuel; omega) false
  have hF : ∀ (l : List Pen) (b : Bool), foldO (fun (b : Bool) (q : Pen) => (some (.inl (b || (decide (q.2.2.2.2 > 0) && applies q (e.1.1, e.1.2.1, e.1.2.2.1, e.1.2.2.2.1, e.1.2.2.2.2.1, e.1.2.2.2.2.2.1, e.1.2.2.2.2.2.2.1, e.1.2.2.2.2.2.2.2) t))) : Option (Bool ⊕ Bool))) (fun b => some b) l b = some (b || anyP (e.1.1, e.1.2.1, e.1.2.2.1, e.1.2.2.2.1, e.1.2.2.2.2.1, e.1.2.2.2.2.2.1, e.1.2.2.2.2.2.2.1, e.1.2.2.2.2.2.2.2) t l) := by
    intro l
    induction l with
    | nil => intro b; simp [foldO, anyP]
    | cons q l ih => intro b; simp only [foldO]; rw [ih]; simp [anyP, Bool.or_assoc]
  rw [hF, Bool.false_or] at hL
  rw [show ((0 : Nat) : Int) = 0 from rfl] at hL
  rw [hL, callO_some]
  rw [Points_eq (e := (e.1.1, e.1.2.1, e.1.2.2.1, e.1.2.2.2.1, e.1.2.2.2.2.1, e.1.2.2.2.2.2.1, e.1.2.2.2.2.2.2.1, e.1.2.2.2.2.2.2.2)) hT hE p1, callO_some]
  have m0 := ptsL_nonneg (e.1.1, e.1.2.1, e.1.2.2.1, e.1.2.2.2.1, e.1.2.2.2.2.1, e.1.2.2.2.2.2.1, e.1.2.2.2.2.2.2.1, e.1.2.2.2.2.2.2.2) t (p.1.getD [])
  refine Ok.pos ?_ ?_
  · rw [← ptsL_pos, beq_iff_eq]
    congr 1
    rw [eq_iff_iff]
    omega
  · refine Ok.call (place_ok h3 (by decide) (by decide)) fun u hu => ?_
    have hT2 : In64 (t + u) := ⟨by omega, by omega⟩
    rw [wrap_i64 (by omega) (by omega), Points_eq (e := (e.1.1, e.1.2.1, e.1.2.2.1, e.1.2.2.2.1, e.1.2.2.2.2.1, e.1.2.2.2.2.2.1, e.1.2.2.2.2.2.2.1, e.1.2.2.2.2.2.2.2)) hT2 hE p1, callO_some]
    have mm := ptsL_mono (e.1.1, e.1.2.1, e.1.2.2.1, e.1.2.2.2.1, e.1.2.2.2.2.1, e.1.2.2.2.2.2.1, e.1.2.2.2.2.2.2.1, e.1.2.2.2.2.2.2.2) (show t ≤ t + u by omega) (p.1.getD [])
    exact Ok.grd (by omega) (Ok.call known_ok fun r hr => Ok.ret hr)
end Go.Fn
