/- The statement PenaltyValidatesUptoSaid of the given program is proved here: for every input whose bulk is at most the bound of its row, the law returns true and changes nothing. Part 5 of 6. -/
import Derived.KernelRfl
import Derived.Test.YtakofkfemgoloaaV4
/- math/bits.Sub64, without a borrow -/
namespace Go.Fn
open Go Go.Vs Go.Ve
def bits_Sub64 (x y b : Int) : Option (Int × Int) :=
  if 0 ≤ x ∧ 0 ≤ y ∧ y ≤ 18446744073709551616 ∧ b = 0 then some ((x + 18446744073709551616 - y) % 18446744073709551616, if x < y then 1 else 0) else none
end Go.Fn
/- bitext/penalty.widen -/
namespace Go.Fn
open Go Go.Vs Go.Ve
set_option linter.unusedVariables false
def penalty_widen : Int → Option (Int × Int) :=
  fun n => some (n.fdiv 9223372036854775808, IntKind.u64.wrap n)
end Go.Fn
/- bitext/penalty.aged -/
namespace Go.Fn
open Go Go.Vs Go.Ve
set_option linter.unusedVariables false
def penalty_aged : Int → Int → Int → Option Bool :=
  fun now created older =>
    callO (penalty_widen now) fun r0 =>
      callO (penalty_widen created) fun r1 =>
        callO (penalty_widen older) fun r2 =>
          callO (bits_Sub64 r0.snd r1.snd 0) fun r3 =>
            some
              (decide (IntKind.i64.wrap (IntKind.i64.wrap (r0.fst - r1.fst) - IntKind.i64.wrap r3.snd) > r2.fst) ||
                IntKind.i64.wrap (IntKind.i64.wrap (r0.fst - r1.fst) - IntKind.i64.wrap r3.snd) == r2.fst &&
                  decide (r3.fst ≥ r2.snd))
end Go.Fn
/- bitext/penalty.Applies -/
namespace Go.Fn
open Go Go.Vs Go.Ve
set_option linter.unusedVariables false
def penalty_Applies : Int × List UInt8 × List UInt8 × Int × Int →
    Option (List (Int × List UInt8 × Int)) ×
        Option (List (Int × List UInt8 × Int)) × List UInt8 × List UInt8 × List UInt8 × List UInt8 × Int × Int →
      Int → Option Bool :=
  fun p e now =>
    if (p.fst != 0 && p.fst != e.snd.snd.snd.snd.snd.snd.snd) = true then some false
    else
      if
          (if (!decide (p.snd.fst = [])) = true then
              !decide (p.snd.fst = e.snd.snd.snd.snd.fst) ||
                !decide (p.snd.snd.fst = []) && !decide (p.snd.snd.fst = e.snd.snd.snd.snd.snd.fst)
            else !decide (p.snd.snd.fst = []) && !decide (p.snd.snd.fst = e.snd.snd.snd.snd.snd.fst)) =
            true then
        some false
      else
        if decide (p.snd.snd.snd.fst ≤ 0) = true then some true
        else callO (penalty_aged now e.snd.snd.snd.snd.snd.snd.fst p.snd.snd.snd.fst) fun r0 => some r0
end Go.Fn
/- bitext/penalty.Points -/
namespace Go.Fn
open Go Go.Vs Go.Ve
set_option linter.unusedVariables false
def penalty_Points_l0 : Option (List (Int × List UInt8 × List UInt8 × Int × Int)) →
    Option (List (Int × List UInt8 × Int)) ×
        Option (List (Int × List UInt8 × Int)) × List UInt8 × List UInt8 × List UInt8 × List UInt8 × Int × Int →
      Int → Int × Int → Option (Int × Int ⊕ Int) :=
  fun l e now s0 =>
    if decide (s0.snd < lenI (l.getD [])) = true then
      if decide (0 ≤ s0.snd ∧ s0.snd < lenI (l.getD [])) = true then
        if decide (((l.getD []).getD s0.snd.toNat (0, [], [], 0, 0)).snd.snd.snd.snd > 0) = true then
          callO
            (penalty_Applies
              (((l.getD []).getD s0.snd.toNat (0, [], [], 0, 0)).fst,
                ((l.getD []).getD s0.snd.toNat (0, [], [], 0, 0)).snd.fst,
                ((l.getD []).getD s0.snd.toNat (0, [], [], 0, 0)).snd.snd.fst,
                ((l.getD []).getD s0.snd.toNat (0, [], [], 0, 0)).snd.snd.snd.fst,
                ((l.getD []).getD s0.snd.toNat (0, [], [], 0, 0)).snd.snd.snd.snd)
              (e.fst, e.snd.fst, e.snd.snd.fst, e.snd.snd.snd.fst, e.snd.snd.snd.snd.fst, e.snd.snd.snd.snd.snd.fst,
                e.snd.snd.snd.snd.snd.snd.fst, e.snd.snd.snd.snd.snd.snd.snd)
              now)
            fun r1 =>
            some
              (Sum.inl
                (if r1 = true then
                    minI
                      (IntKind.i64.wrap
                        (s0.fst + minI ((l.getD []).getD s0.snd.toNat (0, [], [], 0, 0)).snd.snd.snd.snd 100))
                      100
                  else s0.fst,
                  IntKind.i64.wrap (s0.snd + 1)))
        else some (Sum.inl (s0.fst, IntKind.i64.wrap (s0.snd + 1)))
      else none
    else some (Sum.inr s0.fst)
def penalty_Points : Option (List (Int × List UInt8 × List UInt8 × Int × Int)) →
    Option (List (Int × List UInt8 × Int)) ×
        Option (List (Int × List UInt8 × Int)) × List UInt8 × List UInt8 × List UInt8 × List UInt8 × Int × Int →
      Int → Option Int :=
  fun l e now => callO (loopR (penalty_Points_l0 l e now) (0, 0)) fun r2 => some r2
end Go.Fn
/- bitext/bitextlaw17.known -/
namespace Go.Fn
open Go Go.Vs Go.Ve
set_option linter.unusedVariables false
def bitextlaw17_known : Option Bool :=
  callO (penalty_Applies (3, [], [], 10, 60) (none, none, [], [], [], [], 5, 3) 15) fun r0 =>
    if r0 = true then
      callO (penalty_Applies (3, [], [], 10, 60) (none, none, [], [], [], [], 5, 3) 14) fun r1 =>
        if (!r1) = true then
          callO
            (penalty_Points (some ((3, [], [], 10, 60) :: (3, [], [], 10, 60) :: List.replicate 0 (0, [], [], 0, 0)))
              (none, none, [], [], [], [], 5, 3) 15)
            fun r2 => some (r2 == 100)
        else some false
    else some false
end Go.Fn
/- bitext/bitextlaw17.light -/
namespace Go.Fn
open Go Go.Vs Go.Ve
set_option linter.unusedVariables false
def bitextlaw17_light_l0 : Option (List (Int × List UInt8 × List UInt8 × Int × Int)) → Int × Int → Option (Int × Int ⊕ Int) :=
  fun l s0 =>
    if decide (s0.snd < lenI (l.getD [])) = true then
      if (decide (0 ≤ s0.snd ∧ s0.snd < lenI (l.getD [])) && decide (0 ≤ s0.snd ∧ s0.snd < lenI (l.getD []))) = true then
        some
          (Sum.inl
            (IntKind.i64.wrap
                (s0.fst +
                  IntKind.i64.wrap
                    (IntKind.i64.wrap (1 + lenI ((l.getD []).getD s0.snd.toNat (0, [], [], 0, 0)).snd.fst) +
                      lenI ((l.getD []).getD s0.snd.toNat (0, [], [], 0, 0)).snd.snd.fst)),
              IntKind.i64.wrap (s0.snd + 1)))
      else none
    else some (Sum.inr s0.fst)
def bitextlaw17_light : Option (List (Int × List UInt8 × List UInt8 × Int × Int)) → Option Bool :=
  fun l => callO (loopR (bitextlaw17_light_l0 l) (0, 0)) fun r1 => some (decide (r1 ≤ 300))
end Go.Fn
/- bitext/bitextmake.Place -/
namespace Go.Fn
open Go Go.Vs Go.Ve
set_option linter.unusedVariables false
def bitextmake_Place : Int → Int → Option Int :=
  fun x n =>
    if decide (n ≠ 0) = true then
      some (if decide (x.tmod n < 0) = true then IntKind.i64.wrap (x.tmod n + n) else x.tmod n)
    else none
end Go.Fn
/- (*bitext/bitextmake.Numbers).Next -/
namespace Go.Fn
open Go Go.Vs Go.Ve
set_option linter.unusedVariables false
def bitextmake_Numbers_Next : Int → Option (List Int) × Int → Option (Int × Int) :=
  fun n s =>
    if (!decide (s.snd < lenI (s.fst.getD [])) || decide (0 ≤ s.snd ∧ s.snd < lenI (s.fst.getD []))) = true then
      callO
        (bitextmake_Place (if decide (s.snd < lenI (s.fst.getD [])) = true then (s.fst.getD []).getD s.snd.toNat 0 else 0)
          n)
        fun r0 => some (r0, IntKind.i64.wrap (s.snd + 1))
    else none
end Go.Fn
/- bitext/bitextmake.Penalties -/
namespace Go.Fn
open Go Go.Vs Go.Ve
set_option linter.unusedVariables false
def bitextmake_Penalties_l0 : Option (List Int) × Int →
    Option (List (Int × List UInt8 × List UInt8 × Int × Int)) × Int × Int →
      Option
        (Option (List (Int × List UInt8 × List UInt8 × Int × Int)) × Int × Int ⊕
          Option (List (Int × List UInt8 × List UInt8 × Int × Int)) × Int) :=
  fun s s1 =>
    if decide (s1.snd.fst > 0) = true then
      callO (bitextmake_Numbers_Next 4 (s.fst, s1.snd.snd)) fun r2 =>
        callO (bitextmake_Numbers_Next 3 (s.fst, r2.snd)) fun r3 =>
          if decide (0 ≤ r3.fst ∧ r3.fst < 3) = true then
            if nlt (0 + r3.fst.toNat) 3 = true then
              callO (bitextmake_Numbers_Next 3 (s.fst, r3.snd)) fun r4 =>
                if decide (0 ≤ r4.fst ∧ r4.fst < 3) = true then
                  if nlt (0 + r4.fst.toNat) 3 = true then
                    callO (bitextmake_Numbers_Next 3 (s.fst, r4.snd)) fun r5 =>
                      callO (bitextmake_Numbers_Next 30 (s.fst, r5.snd)) fun r6 =>
                        callO (bitextmake_Numbers_Next 12 (s.fst, r6.snd)) fun r7 =>
                          if s1.fst.isSome = true then
                            callO s1.fst fun r8 =>
                              if decide (0 + (s1.fst.getD []).length = r8.length) = true then
                                if
                                    decide
                                        ((s1.fst.getD []).length +
                                            [(r2.fst,
                                                  ([] :: [] :: [97, 110, 110] :: List.replicate 0 []).getD
                                                    (0 + r3.fst.toNat) [],
                                                  ([] :: [] :: [113] :: List.replicate 0 []).getD (0 + r4.fst.toNat) [],
                                                  IntKind.i64.wrap (r5.fst * r6.fst), r7.fst)].length ≤
                                          68719476736) =
                                      true then
                                  callO s1.fst fun r9 =>
                                    some
                                      (Sum.inl
                                        (some
                                            (s1.fst.getD [] ++
                                              [(r2.fst,
                                                  ([] :: [] :: [97, 110, 110] :: List.replicate 0 []).getD
                                                    (0 + r3.fst.toNat) [],
                                                  ([] :: [] :: [113] :: List.replicate 0 []).getD (0 + r4.fst.toNat) [],
                                                  IntKind.i64.wrap (r5.fst * r6.fst), r7.fst)]),
                                          IntKind.i64.wrap (s1.snd.fst - 1), r7.snd))
                                else none
                              else none
                          else
                            if
                                decide
                                    ([(r2.fst,
                                            ([] :: [] :: [97, 110, 110] :: List.replicate 0 []).getD (0 + r3.fst.toNat)
                                              [],
                                            ([] :: [] :: [113] :: List.replicate 0 []).getD (0 + r4.fst.toNat) [],
                                            IntKind.i64.wrap (r5.fst * r6.fst), r7.fst)].length ≤
                                      68719476736) =
                                  true then
                              some
                                (Sum.inl
                                  (some
                                      [(r2.fst,
                                          ([] :: [] :: [97, 110, 110] :: List.replicate 0 []).getD (0 + r3.fst.toNat) [],
                                          ([] :: [] :: [113] :: List.replicate 0 []).getD (0 + r4.fst.toNat) [],
                                          IntKind.i64.wrap (r5.fst * r6.fst), r7.fst)],
                                    IntKind.i64.wrap (s1.snd.fst - 1), r7.snd))
                            else none
                  else none
                else none
            else none
          else none
    else some (Sum.inr (s1.fst, s1.snd.snd))
def bitextmake_Penalties : Int → Option (List Int) × Int → Option (Option (List (Int × List UInt8 × List UInt8 × Int × Int)) × Int) :=
  fun n s =>
    callO (bitextmake_Numbers_Next (IntKind.i64.wrap (n + 1)) (s.fst, s.snd)) fun r0 =>
      callO (loopR (bitextmake_Penalties_l0 s) (none, r0.fst, r0.snd)) fun r10 =>
        if r10.fst.isSome = true then callO r10.fst fun r11 => some (some (r10.fst.getD []), r10.snd)
        else some (none, r10.snd)
end Go.Fn
/- bitext/bitextref1.IsName -/
namespace Go.Fn
open Go Go.Vs Go.Ve
set_option linter.unusedVariables false
def bitextref1_IsName_l0 : List UInt8 → Int → Option (Int ⊕ Bool ⊕ Unit) :=
  fun s s0 =>
    if decide (s0 < lenI s) = true then
      if (decide (0 ≤ s0) && nlt s0.toNat s.length) = true then
        if
            (if decide (byteI (s.getD s0.toNat 0) ≥ 97) = true then
                decide (byteI (s.getD s0.toNat 0) ≤ 122) ||
                  decide (s0 > 0) &&
                    if decide (byteI (s.getD s0.toNat 0) ≥ 48) = true then
                      decide (byteI (s.getD s0.toNat 0) ≤ 57) || byteI (s.getD s0.toNat 0) == 45
                    else byteI (s.getD s0.toNat 0) == 45
              else
                decide (s0 > 0) &&
                  if decide (byteI (s.getD s0.toNat 0) ≥ 48) = true then
                    decide (byteI (s.getD s0.toNat 0) ≤ 57) || byteI (s.getD s0.toNat 0) == 45
                  else byteI (s.getD s0.toNat 0) == 45) =
              true then
          some (Sum.inl (IntKind.i64.wrap (s0 + 1)))
        else some (Sum.inr (Sum.inl false))
      else none
    else some (Sum.inr (Sum.inr ()))
def bitextref1_IsName : List UInt8 → Option Bool :=
  fun s =>
    if (decide (lenI s < 1) || decide (lenI s > 24)) = true then some false
    else callO (loopR (bitextref1_IsName_l0 s) 0) fun r1 => sumO r1 (fun r2 => some r2) fun r3 => some true
end Go.Fn
/- bitext/bitextref16.named -/
namespace Go.Fn
open Go Go.Vs Go.Ve
set_option linter.unusedVariables false
def bitextref16_named : List UInt8 → Option Bool :=
  fun s => if decide (s = []) = true then some true else callO (bitextref1_IsName s) fun r0 => some r0
end Go.Fn
/- bitext/bitextref16.ValidatePenalties -/
namespace Go.Fn
open Go Go.Vs Go.Ve
set_option linter.unusedVariables false
def bitextref16_ValidatePenalties_l0 : Option (List (Int × List UInt8 × List UInt8 × Int × Int)) → Int → Option (Int ⊕ Int ⊕ Unit) :=
  fun l s0 =>
    if decide (s0 < lenI (l.getD [])) = true then
      if decide (0 ≤ s0 ∧ s0 < lenI (l.getD [])) = true then
        if
            (decide (((l.getD []).getD s0.toNat (0, [], [], 0, 0)).fst < 0) ||
                (decide (((l.getD []).getD s0.toNat (0, [], [], 0, 0)).fst > 3) ||
                  (decide (((l.getD []).getD s0.toNat (0, [], [], 0, 0)).snd.snd.snd.fst < 0) ||
                    (decide (((l.getD []).getD s0.toNat (0, [], [], 0, 0)).snd.snd.snd.fst > 1073741824) ||
                      (decide (((l.getD []).getD s0.toNat (0, [], [], 0, 0)).snd.snd.snd.snd < 0) ||
                        decide (((l.getD []).getD s0.toNat (0, [], [], 0, 0)).snd.snd.snd.snd > 100)))))) =
              true then
          some (Sum.inr (Sum.inl 1))
        else
          callO (bitextref16_named ((l.getD []).getD s0.toNat (0, [], [], 0, 0)).snd.fst) fun r1 =>
            if (!r1) = true then some (Sum.inr (Sum.inl 4))
            else
              callO (bitextref16_named ((l.getD []).getD s0.toNat (0, [], [], 0, 0)).snd.snd.fst) fun r2 =>
                if (!r2) = true then some (Sum.inr (Sum.inl 4)) else some (Sum.inl (IntKind.i64.wrap (s0 + 1)))
      else none
    else some (Sum.inr (Sum.inr ()))
def bitextref16_ValidatePenalties : Option (List (Int × List UInt8 × List UInt8 × Int × Int)) → Option Int :=
  fun l =>
    if decide (lenI (l.getD []) > 16) = true then some 3
    else callO (loopR (bitextref16_ValidatePenalties_l0 l) 0) fun r3 => sumO r3 (fun r4 => some r4) fun r5 => some 0
end Go.Fn
/- bitext/bitextref16.ValidatePenalties -/
namespace Go.Fn
open Go Go.Vs Go.Ve
set_option linter.unusedVariables false
def bitextref16_ValidatePenalties_v2_l0 : Option (List (Int × List UInt8 × List UInt8 × Int × Int)) → Int → Option (Int ⊕ Int ⊕ Unit) :=
  fun l s0 =>
    if decide (s0 < lenI (l.getD [])) = true then
      if (decide (0 ≤ s0 ∧ s0 < lenI (l.getD [])) && nlt (0 + s0.toNat) (l.getD []).length) = true then
        if
            (decide (((l.getD []).getD (0 + s0.toNat) (0, [], [], 0, 0)).fst < 0) ||
                (decide (((l.getD []).getD (0 + s0.toNat) (0, [], [], 0, 0)).fst > 3) ||
                  (decide (((l.getD []).getD (0 + s0.toNat) (0, [], [], 0, 0)).snd.snd.snd.fst < 0) ||
                    (decide (((l.getD []).getD (0 + s0.toNat) (0, [], [], 0, 0)).snd.snd.snd.fst > 1073741824) ||
                      (decide (((l.getD []).getD (0 + s0.toNat) (0, [], [], 0, 0)).snd.snd.snd.snd < 0) ||
                        decide (((l.getD []).getD (0 + s0.toNat) (0, [], [], 0, 0)).snd.snd.snd.snd > 100)))))) =
              true then
          some (Sum.inr (Sum.inl 1))
        else
          callO (bitextref16_named ((l.getD []).getD (0 + s0.toNat) (0, [], [], 0, 0)).snd.fst) fun r1 =>
            if (!r1) = true then some (Sum.inr (Sum.inl 4))
            else
              callO (bitextref16_named ((l.getD []).getD (0 + s0.toNat) (0, [], [], 0, 0)).snd.snd.fst) fun r2 =>
                if (!r2) = true then some (Sum.inr (Sum.inl 4)) else some (Sum.inl (IntKind.i64.wrap (s0 + 1)))
      else none
    else some (Sum.inr (Sum.inr ()))
def bitextref16_ValidatePenalties_v2 : Option (List (Int × List UInt8 × List UInt8 × Int × Int)) → Option Int :=
  fun l =>
    if decide (lenI (l.getD []) > 16) = true then some 3
    else callO (loopR (bitextref16_ValidatePenalties_v2_l0 l) 0) fun r3 => sumO r3 (fun r4 => some r4) fun r5 => some 0
end Go.Fn
/- bitext/class.IsName -/
namespace Go.Fn
open Go Go.Vs Go.Ve
set_option linter.unusedVariables false
def class_IsName_l0 : List UInt8 → Int → Option (Int ⊕ Bool ⊕ Unit) :=
  fun s s0 =>
    if decide (s0 < lenI s) = true then
      if (decide (0 ≤ s0) && nlt s0.toNat s.length) = true then
        if
            (if decide (byteI (s.getD s0.toNat 0) ≥ 97) = true then
                !decide (byteI (s.getD s0.toNat 0) ≤ 122) &&
                  if decide (byteI (s.getD s0.toNat 0) ≥ 48) = true then
                    !decide (byteI (s.getD s0.toNat 0) ≤ 57) && !byteI (s.getD s0.toNat 0) == 45
                  else !byteI (s.getD s0.toNat 0) == 45
              else
                if decide (byteI (s.getD s0.toNat 0) ≥ 48) = true then
                  !decide (byteI (s.getD s0.toNat 0) ≤ 57) && !byteI (s.getD s0.toNat 0) == 45
                else !byteI (s.getD s0.toNat 0) == 45) =
              true then
          some (Sum.inr (Sum.inl false))
        else some (Sum.inl (IntKind.i64.wrap (s0 + 1)))
      else none
    else some (Sum.inr (Sum.inr ()))
def class_IsName : List UInt8 → Option Bool :=
  fun s =>
    if
        (decide (lenI s < 1) ||
            (decide (lenI s > 24) ||
              true && (nlt 0 s.length && (decide (byteI (s.getD 0 0) < 97) || true && nlt 0 s.length)))) =
          true then
      if
          (decide (lenI s < 1) ||
              (decide (lenI s > 24) || (decide (byteI (s.getD 0 0) < 97) || decide (byteI (s.getD 0 0) > 122)))) =
            true then
        some false
      else callO (loopR (class_IsName_l0 s) 1) fun r1 => sumO r1 (fun r2 => some r2) fun r3 => some true
    else none
end Go.Fn
/- bitext/penalty.Validate -/
namespace Go.Fn
open Go Go.Vs Go.Ve
set_option linter.unusedVariables false
def penalty_Validate_l0 : Option (List (Int × List UInt8 × List UInt8 × Int × Int)) → Int → Option (Int ⊕ Int ⊕ Unit) :=
  fun l s0 =>
    if decide (s0 < lenI (l.getD [])) = true then
      if decide (0 ≤ s0 ∧ s0 < lenI (l.getD [])) = true then
        if
            (decide (((l.getD []).getD s0.toNat (0, [], [], 0, 0)).fst < 0) ||
                (decide (((l.getD []).getD s0.toNat (0, [], [], 0, 0)).fst > 3) ||
                  (decide (((l.getD []).getD s0.toNat (0, [], [], 0, 0)).snd.snd.snd.fst < 0) ||
                    (decide (((l.getD []).getD s0.toNat (0, [], [], 0, 0)).snd.snd.snd.fst > 1073741824) ||
                      (decide (((l.getD []).getD s0.toNat (0, [], [], 0, 0)).snd.snd.snd.snd < 0) ||
                        decide (((l.getD []).getD s0.toNat (0, [], [], 0, 0)).snd.snd.snd.snd > 100)))))) =
              true then
          some (Sum.inr (Sum.inl 1))
        else
          if (!decide (((l.getD []).getD s0.toNat (0, [], [], 0, 0)).snd.fst = [])) = true then
            callO (class_IsName ((l.getD []).getD s0.toNat (0, [], [], 0, 0)).snd.fst) fun r1 =>
              if (!r1) = true then some (Sum.inr (Sum.inl 4))
              else
                if (!decide (((l.getD []).getD s0.toNat (0, [], [], 0, 0)).snd.snd.fst = [])) = true then
                  callO (class_IsName ((l.getD []).getD s0.toNat (0, [], [], 0, 0)).snd.snd.fst) fun r2 =>
                    if (!r2) = true then some (Sum.inr (Sum.inl 4)) else some (Sum.inl (IntKind.i64.wrap (s0 + 1)))
                else some (Sum.inl (IntKind.i64.wrap (s0 + 1)))
          else
            if (!decide (((l.getD []).getD s0.toNat (0, [], [], 0, 0)).snd.snd.fst = [])) = true then
              callO (class_IsName ((l.getD []).getD s0.toNat (0, [], [], 0, 0)).snd.snd.fst) fun r3 =>
                if (!r3) = true then some (Sum.inr (Sum.inl 4)) else some (Sum.inl (IntKind.i64.wrap (s0 + 1)))
            else some (Sum.inl (IntKind.i64.wrap (s0 + 1)))
      else none
    else some (Sum.inr (Sum.inr ()))
def penalty_Validate : Option (List (Int × List UInt8 × List UInt8 × Int × Int)) → Option Int :=
  fun l =>
    if decide (lenI (l.getD []) > 16) = true then some 3
    else callO (loopR (penalty_Validate_l0 l) 0) fun r4 => sumO r4 (fun r5 => some r5) fun r6 => some 0
end Go.Fn
/- bitext/penalty.Validate -/
namespace Go.Fn
open Go Go.Vs Go.Ve
set_option linter.unusedVariables false
def penalty_Validate_v2_l0 : Option (List (Int × List UInt8 × List UInt8 × Int × Int)) → Int → Option (Int ⊕ Int ⊕ Unit) :=
  fun l s0 =>
    if decide (s0 < lenI (l.getD [])) = true then
      if (decide (0 ≤ s0 ∧ s0 < lenI (l.getD [])) && nlt (0 + s0.toNat) (l.getD []).length) = true then
        if
            (decide (((l.getD []).getD (0 + s0.toNat) (0, [], [], 0, 0)).fst < 0) ||
                (decide (((l.getD []).getD (0 + s0.toNat) (0, [], [], 0, 0)).fst > 3) ||
                  (decide (((l.getD []).getD (0 + s0.toNat) (0, [], [], 0, 0)).snd.snd.snd.fst < 0) ||
                    (decide (((l.getD []).getD (0 + s0.toNat) (0, [], [], 0, 0)).snd.snd.snd.fst > 1073741824) ||
                      (decide (((l.getD []).getD (0 + s0.toNat) (0, [], [], 0, 0)).snd.snd.snd.snd < 0) ||
                        decide (((l.getD []).getD (0 + s0.toNat) (0, [], [], 0, 0)).snd.snd.snd.snd > 100)))))) =
              true then
          some (Sum.inr (Sum.inl 1))
        else
          if (!decide (((l.getD []).getD (0 + s0.toNat) (0, [], [], 0, 0)).snd.fst = [])) = true then
            callO (class_IsName ((l.getD []).getD (0 + s0.toNat) (0, [], [], 0, 0)).snd.fst) fun r1 =>
              if (!r1) = true then some (Sum.inr (Sum.inl 4))
              else
                if (!decide (((l.getD []).getD (0 + s0.toNat) (0, [], [], 0, 0)).snd.snd.fst = [])) = true then
                  callO (class_IsName ((l.getD []).getD (0 + s0.toNat) (0, [], [], 0, 0)).snd.snd.fst) fun r2 =>
                    if (!r2) = true then some (Sum.inr (Sum.inl 4)) else some (Sum.inl (IntKind.i64.wrap (s0 + 1)))
                else some (Sum.inl (IntKind.i64.wrap (s0 + 1)))
          else
            if (!decide (((l.getD []).getD (0 + s0.toNat) (0, [], [], 0, 0)).snd.snd.fst = [])) = true then
              callO (class_IsName ((l.getD []).getD (0 + s0.toNat) (0, [], [], 0, 0)).snd.snd.fst) fun r3 =>
                if (!r3) = true then some (Sum.inr (Sum.inl 4)) else some (Sum.inl (IntKind.i64.wrap (s0 + 1)))
            else some (Sum.inl (IntKind.i64.wrap (s0 + 1)))
      else none
    else some (Sum.inr (Sum.inr ()))
def penalty_Validate_v2 : Option (List (Int × List UInt8 × List UInt8 × Int × Int)) → Option Int :=
  fun l =>
    if decide (lenI (l.getD []) > 16) = true then some 3
    else callO (loopR (penalty_Validate_v2_l0 l) 0) fun r4 => sumO r4 (fun r5 => some r5) fun r6 => some 0
end Go.Fn
/- bitext/bitextlaw17.PenaltyValidates -/
namespace Go.Fn
open Go Go.Vs Go.Ve
set_option linter.unusedVariables false
def bitextlaw17_PenaltyValidates : Option (List (Int × List UInt8 × List UInt8 × Int × Int)) →
    Option (List Int) → Int → Int × List UInt8 × List UInt8 × Int × Int → Option Bool :=
  fun a0 a1 a2 a3 =>
    callO (bitextlaw17_light a0) fun r0 =>
      if
          (!r0 ||
              (decide (lenI (a1.getD []) > 100) ||
                decide (IntKind.i64.wrap (lenI a3.snd.fst + lenI a3.snd.snd.fst) > 100))) =
            true then
        callO bitextlaw17_known fun r1 => some r1
      else
        callO (bitextmake_Penalties 18 (a1, 0)) fun r2 =>
          if r2.fst.isSome = true then
            callO r2.fst fun r3 =>
              if decide ((r2.fst.getD []).length ≤ 68719476736) = true then
                if (optL (r2.fst.getD [])).isSome = true then
                  callO (optL (r2.fst.getD [])) fun r4 =>
                    if decide (lenI ((optL (r2.fst.getD [])).getD []) > 0) = true then
                      callO (bitextmake_Place a2 (Int.ofNat ((optL (r2.fst.getD [])).getD []).length)) fun r5 =>
                        if
                            (decide (0 ≤ r5 ∧ r5 < lenI ((optL (r2.fst.getD [])).getD [])) &&
                                nlt (0 + r5.toNat) ((optL (r2.fst.getD [])).getD []).length) =
                              true then
                          callO (penalty_Validate a0) fun r6 =>
                            callO (bitextref16_ValidatePenalties a0) fun r7 =>
                              if (r6 == r7) = true then
                                callO (penalty_Validate_v2 (some (r2.fst.getD []))) fun r8 =>
                                  callO (bitextref16_ValidatePenalties_v2 (some (r2.fst.getD []))) fun r9 =>
                                    if (r8 == r9) = true then
                                      callO
                                        (penalty_Validate_v2
                                          (some
                                            (((optL (r2.fst.getD [])).getD []).set (0 + r5.toNat)
                                              (a3.fst, a3.snd.fst, a3.snd.snd.fst, a3.snd.snd.snd.fst,
                                                a3.snd.snd.snd.snd))))
                                        fun r10 =>
                                        callO
                                          (bitextref16_ValidatePenalties_v2
                                            (some
                                              (((optL (r2.fst.getD [])).getD []).set (0 + r5.toNat)
                                                (a3.fst, a3.snd.fst, a3.snd.snd.fst, a3.snd.snd.snd.fst,
                                                  a3.snd.snd.snd.snd))))
                                          fun r11 =>
                                          if (r10 == r11) = true then callO bitextlaw17_known fun r12 => some r12
                                          else some false
                                    else some false
                              else some false
                        else none
                    else
                      callO (penalty_Validate a0) fun r13 =>
                        callO (bitextref16_ValidatePenalties a0) fun r14 =>
                          if (r13 == r14) = true then
                            callO (penalty_Validate_v2 (some (r2.fst.getD []))) fun r15 =>
                              callO (bitextref16_ValidatePenalties_v2 (some (r2.fst.getD []))) fun r16 =>
                                if (r15 == r16) = true then
                                  callO (penalty_Validate_v2 (some ((optL (r2.fst.getD [])).getD []))) fun r17 =>
                                    callO (bitextref16_ValidatePenalties_v2 (some ((optL (r2.fst.getD [])).getD [])))
                                      fun r18 =>
                                      if (r17 == r18) = true then callO bitextlaw17_known fun r19 => some r19
                                      else some false
                                else some false
                          else some false
                else
                  callO (penalty_Validate a0) fun r20 =>
                    callO (bitextref16_ValidatePenalties a0) fun r21 =>
                      if (r20 == r21) = true then
                        callO (penalty_Validate_v2 (some (r2.fst.getD []))) fun r22 =>
                          callO (bitextref16_ValidatePenalties_v2 (some (r2.fst.getD []))) fun r23 =>
                            if (r22 == r23) = true then
                              callO (penalty_Validate_v2 none) fun r24 =>
                                callO (bitextref16_ValidatePenalties_v2 none) fun r25 =>
                                  if (r24 == r25) = true then callO bitextlaw17_known fun r26 => some r26 else some false
                            else some false
                      else some false
              else none
          else
            callO (penalty_Validate a0) fun r27 =>
              callO (bitextref16_ValidatePenalties a0) fun r28 =>
                if (r27 == r28) = true then
                  callO (penalty_Validate_v2 none) fun r29 =>
                    callO (bitextref16_ValidatePenalties_v2 none) fun r30 =>
                      if (r29 == r30) = true then
                        callO (penalty_Validate_v2 none) fun r31 =>
                          callO (bitextref16_ValidatePenalties_v2 none) fun r32 =>
                            if (r31 == r32) = true then callO bitextlaw17_known fun r33 => some r33 else some false
                      else some false
                else some false
end Go.Fn
/- bitext/bitextlaw17.PenaltyAges -/
namespace Go.Fn
open Go Go.Vs Go.Ve
set_option linter.unusedVariables false
def bitextlaw17_PenaltyAges : Int → Int → Option Bool :=
  fun a0 a1 =>
    callO (bitextmake_Place a1 1073741824) fun r0 =>
      callO (bitextmake_Place a0 1073741824) fun r1 =>
        callO
          (penalty_Applies (0, [], [], IntKind.i64.wrap (1 + r0), 0) (none, none, [], [], [], [], r1, 0)
            (IntKind.i64.wrap (r1 + IntKind.i64.wrap (1 + r0))))
          fun r2 =>
          if (!r2) = true then some false
          else
            callO
              (penalty_Applies (0, [], [], IntKind.i64.wrap (1 + r0), 0) (none, none, [], [], [], [], r1, 0)
                (IntKind.i64.wrap (IntKind.i64.wrap (r1 + IntKind.i64.wrap (1 + r0)) - 1)))
              fun r3 =>
              if r3 = true then some false
              else
                callO
                  (penalty_Applies (0, [], [], IntKind.i64.wrap (1 + r0), 0) (none, none, [], [], [], [], r1, 0)
                    (-9223372036854775808))
                  fun r4 =>
                  if r4 = true then some false
                  else
                    callO
                      (penalty_Applies (0, [], [], IntKind.i64.wrap (1 + r0), 0) (none, none, [], [], [], [], r1, 0)
                        9223372036854775807)
                      fun r5 =>
                      if (!r5) = true then some false
                      else
                        callO
                          (penalty_Applies (0, [], [], IntKind.i64.wrap (1 + r0), 0)
                            (none, none, [], [], [], [], -9223372036854775808, 0) 0)
                          fun r6 =>
                          if (!r6) = true then some false
                          else
                            callO
                              (penalty_Applies (0, [], [], IntKind.i64.wrap (1 + r0), 0)
                                (none, none, [], [], [], [], -9223372036854775808, 0) 9223372036854775807)
                              fun r7 =>
                              if (!r7) = true then some false
                              else
                                callO
                                  (penalty_Applies (0, [], [], IntKind.i64.wrap (1 + r0), 0)
                                    (none, none, [], [], [], [], -9223372036854775808, 0) (-9223372036854775808))
                                  fun r8 =>
                                  if r8 = true then some false
                                  else
                                    callO
                                      (penalty_Applies (0, [], [], IntKind.i64.wrap (1 + r0), 0)
                                        (none, none, [], [], [], [], 9223372036854775807, 0) 0)
                                      fun r9 =>
                                      if (!r9) = true then
                                        callO
                                          (penalty_Applies (0, [], [], IntKind.i64.wrap (1 + r0), 0)
                                            (none, none, [], [], [], [], 9223372036854775807, 0) 9223372036854775807)
                                          fun r10 =>
                                          if (!r10) = true then
                                            callO
                                              (penalty_Applies (0, [], [], 0, 0)
                                                (none, none, [], [], [], [], 9223372036854775807, 0)
                                                (-9223372036854775808))
                                              fun r11 =>
                                              if r11 = true then callO bitextlaw17_known fun r12 => some r12
                                              else some false
                                          else some false
                                      else some false
end Go.Fn
/- Plain laws of the penalties: ages. -/
namespace Go.Fn
open Go Go.Vs Go.Ve
def In64 (n : Int) : Prop := -9223372036854775808 ≤ n ∧ n ≤ 9223372036854775807
theorem Wf_ints {o : Option (List Int)} (h : Wf (.sl (.int .i64)) o) : ∀ x ∈ o.getD [], In64 x := by
  cases o with
  | none => intro x hx; cases hx
  | some xs => exact h
theorem fdiv63 {n : Int} (h : In64 n) : n.fdiv 9223372036854775808 = if n < 0 then -1 else 0 := by
  rw [Int.fdiv_eq_ediv_of_nonneg _ (by decide)]
  unfold In64 at h
  split <;> omega
theorem wrap_u64 {n : Int} (h : In64 n) : IntKind.u64.wrap n = if n < 0 then n + 18446744073709551616 else n := by
  unfold In64 at h
  simp only [IntKind.wrap, IntKind.bits, IntKind.signed]
  simp
  split <;> omega
theorem aged_eq {now created older : Int} (h1 : In64 now) (h2 : In64 created) (h3 : In64 older) : penalty_aged now created older = some (decide (older ≤ now - created)) := by
  simp only [penalty_aged, penalty_widen, callO_some, fdiv63 h1, fdiv63 h2, fdiv63 h3, wrap_u64 h1, wrap_u64 h2, wrap_u64 h3]
  unfold In64 at *
  have hs : ∀ x y : Int, 0 ≤ x → 0 ≤ y → y ≤ 18446744073709551616 → bits_Sub64 x y 0 = some ((x + 18446744073709551616 - y) % 18446744073709551616, if x < y then 1 else 0) := by
    intro x y a b c
    unfold bits_Sub64
    rw [if_pos ⟨a, b, c, rfl⟩]
  rw [hs _ _ (by split <;> omega) (by split <;> omega) (by split <;> omega)]
  simp only [callO_some]
  congr 1
  have hb : ∀ (c : Prop) [Decidable c], IntKind.i64.wrap (if c then (1 : Int) else 0) = if c then 1 else 0 := by intro c _; split <;> rfl
  rw [hb]
  generalize ha : (if now < 0 then now + 18446744073709551616 else now) = a
  generalize hc : (if created < 0 then created + 18446744073709551616 else created) = c
  rw [wrap_i64 (n := (if now < 0 then -1 else 0) - if created < 0 then -1 else 0) (by split <;> split <;> omega) (by split <;> split <;> omega)]
  rw [wrap_i64 (by split <;> split <;> split <;> omega) (by split <;> split <;> split <;> omega)]
  rw [Bool.eq_iff_iff]
  simp only [Bool.or_eq_true, Bool.and_eq_true, decide_eq_true_eq, beq_iff_eq]
  split at ha <;> split at hc <;> split <;> split <;> omega
theorem place_eq {x n : Int} (hx : In64 x) (hn : 1 ≤ n) (hn2 : n ≤ 4611686018427387904) : bitextmake_Place x n = some (x % n) := by
  unfold In64 at hx
  unfold bitextmake_Place
  rw [if_pos (by simp; omega)]
  congr 1
  have h0 := Int.emod_nonneg x (show n ≠ 0 by omega)
  have h1 := Int.emod_lt_of_pos x (show 0 < n by omega)
  rcases Int.lt_or_le x 0 with h | h
  · have e : x.tmod n = if n ∣ x then 0 else x % n - n := by
      rw [Int.tmod_eq_emod]
      split <;> rename_i hd
      · rcases hd with hd | hd
        · omega
        · rw [if_pos hd]; have := Int.emod_eq_zero_of_dvd hd; omega
      · rw [if_neg (fun hd' => hd (.inr hd'))]
        omega
    rw [e]
    split <;> rename_i hd
    · simp [Int.emod_eq_zero_of_dvd hd]
    · rw [if_pos (by simp; omega), wrap_i64 (by omega) (by omega)]; omega
  · rw [Int.tmod_eq_emod_of_nonneg h, if_neg (by simp; omega)]
theorem known_eq : bitextlaw17_known = some true := by kernel_rfl
theorem applies_old {older created pts now : Int} {src : Option (List (Int × List UInt8 × Int)) × Option (List (Int × List UInt8 × Int)) × List UInt8 × List UInt8 × List UInt8 × List UInt8} {org : Int} (h1 : In64 now) (h2 : In64 created) (h3 : In64 older) :
    penalty_Applies (0, [], [], older, pts) (src.1, src.2.1, src.2.2.1, src.2.2.2.1, src.2.2.2.2.1, src.2.2.2.2.2, created, org) now = some (decide (older ≤ 0 ∨ older ≤ now - created)) := by
  unfold penalty_Applies
  simp only [aged_eq h1 h2 h3, callO_some]
  by_cases h : older ≤ 0 <;> simp [h]
theorem ages_holds (a b : Int) (ha : In64 a) (hb : In64 b) : bitextlaw17_PenaltyAges a b = some true := by
  unfold bitextlaw17_PenaltyAges
  rw [place_eq hb (by decide) (by decide)]
  have hr := Int.emod_nonneg b (show (1073741824 : Int) ≠ 0 by decide)
  have hr' := Int.emod_lt_of_pos b (show (0 : Int) < 1073741824 by decide)
  have hq := Int.emod_nonneg a (show (1073741824 : Int) ≠ 0 by decide)
  have hq' := Int.emod_lt_of_pos a (show (0 : Int) < 1073741824 by decide)
  rw [place_eq ha (by decide) (by decide)]
  simp only [callO_some]
  generalize b % 1073741824 = r at *
  generalize a % 1073741824 = q at *
  have h0 : In64 (1 + r) := by unfold In64; omega
  have h2 : In64 q := by unfold In64; omega
  have ap := fun (older created pts now org : Int) h1 h2 h3 => applies_old (older := older) (created := created) (pts := pts) (now := now) (src := (none, none, [], [], [], [])) (org := org) h1 h2 h3
  simp only at ap
  rw [wrap_i64 h0.1 h0.2, wrap_i64 (n := q + (1 + r)) (by omega) (by omega), wrap_i64 (n := q + (1 + r) - 1) (by omega) (by omega)]
  rw [ap _ _ _ _ _ (by unfold In64; omega) h2 h0, callO_some, decide_eq_true (by omega : 1 + r ≤ 0 ∨ 1 + r ≤ q + (1 + r) - q)]
  rw [ap _ _ _ _ _ (by unfold In64; omega) h2 h0, callO_some, decide_eq_false (by omega : ¬ (1 + r ≤ 0 ∨ 1 + r ≤ q + (1 + r) - 1 - q))]
  rw [ap _ _ _ _ _ (by unfold In64; omega) h2 h0, callO_some, decide_eq_false (by omega : ¬ (1 + r ≤ 0 ∨ 1 + r ≤ -9223372036854775808 - q))]
  rw [ap _ _ _ _ _ (by unfold In64; omega) h2 h0, callO_some, decide_eq_true (by omega : (1 + r ≤ 0 ∨ 1 + r ≤ 9223372036854775807 - q))]
  rw [ap _ _ _ _ _ (by unfold In64; omega) (by unfold In64; omega) h0, callO_some, decide_eq_true (by omega : (1 + r ≤ 0 ∨ 1 + r ≤ 0 - -9223372036854775808))]
  rw [ap _ _ _ _ _ (by unfold In64; omega) (by unfold In64; omega) h0, callO_some, decide_eq_true (by omega : (1 + r ≤ 0 ∨ 1 + r ≤ 9223372036854775807 - -9223372036854775808))]
  rw [ap _ _ _ _ _ (by unfold In64; omega) (by unfold In64; omega) h0, callO_some, decide_eq_false (by omega : ¬ (1 + r ≤ 0 ∨ 1 + r ≤ -9223372036854775808 - -9223372036854775808))]
  rw [ap _ _ _ _ _ (by unfold In64; omega) (by unfold In64; omega) h0, callO_some, decide_eq_false (by omega : ¬ (1 + r ≤ 0 ∨ 1 + r ≤ 0 - 9223372036854775807))]
  rw [ap _ _ _ _ _ (by unfold In64; omega) (by unfold In64; omega) h0, callO_some, decide_eq_false (by omega : ¬ (1 + r ≤ 0 ∨ 1 + r ≤ 9223372036854775807 - 9223372036854775807))]
  rw [ap _ _ _ _ _ (by unfold In64; omega) (by unfold In64; omega) (by unfold In64; omega), callO_some]
  simp [known_eq]
end Go.Fn
/- bitext/bitextref16.old -/
namespace Go.Fn
open Go Go.Vs Go.Ve
set_option linter.unusedVariables false
def bitextref16_old : Int → Int → Int → Option Bool :=
  fun now created older =>
    some
      (decide (older ≤ 0) ||
        decide (now ≥ IntKind.i64.wrap (-9223372036854775808 + older)) &&
          decide (created ≤ IntKind.i64.wrap (now - older)))
end Go.Fn
/- bitext/bitextref16.Applies -/
namespace Go.Fn
open Go Go.Vs Go.Ve
set_option linter.unusedVariables false
def bitextref16_Applies : Int × List UInt8 × List UInt8 × Int × Int →
    Option (List (Int × List UInt8 × Int)) ×
        Option (List (Int × List UInt8 × Int)) × List UInt8 × List UInt8 × List UInt8 × List UInt8 × Int × Int →
      Int → Option Bool :=
  fun p e now =>
    if (p.fst == 0) = true then
      if decide (p.snd.fst = []) = true then
        if decide (p.snd.snd.fst = []) = true then
          callO (bitextref16_old now e.snd.snd.snd.snd.snd.snd.fst p.snd.snd.snd.fst) fun r0 => some r0
        else
          if decide (p.snd.snd.fst = e.snd.snd.snd.snd.snd.fst) = true then
            callO (bitextref16_old now e.snd.snd.snd.snd.snd.snd.fst p.snd.snd.snd.fst) fun r1 => some r1
          else some false
      else
        if decide (p.snd.fst = e.snd.snd.snd.snd.fst) = true then
          if decide (p.snd.snd.fst = []) = true then
            callO (bitextref16_old now e.snd.snd.snd.snd.snd.snd.fst p.snd.snd.snd.fst) fun r2 => some r2
          else
            if decide (p.snd.snd.fst = e.snd.snd.snd.snd.snd.fst) = true then
              callO (bitextref16_old now e.snd.snd.snd.snd.snd.snd.fst p.snd.snd.snd.fst) fun r3 => some r3
            else some false
        else some false
    else
      if (p.fst == e.snd.snd.snd.snd.snd.snd.snd) = true then
        if decide (p.snd.fst = []) = true then
          if decide (p.snd.snd.fst = []) = true then
            callO (bitextref16_old now e.snd.snd.snd.snd.snd.snd.fst p.snd.snd.snd.fst) fun r4 => some r4
          else
            if decide (p.snd.snd.fst = e.snd.snd.snd.snd.snd.fst) = true then
              callO (bitextref16_old now e.snd.snd.snd.snd.snd.snd.fst p.snd.snd.snd.fst) fun r5 => some r5
            else some false
        else
          if decide (p.snd.fst = e.snd.snd.snd.snd.fst) = true then
            if decide (p.snd.snd.fst = []) = true then
              callO (bitextref16_old now e.snd.snd.snd.snd.snd.snd.fst p.snd.snd.snd.fst) fun r6 => some r6
            else
              if decide (p.snd.snd.fst = e.snd.snd.snd.snd.snd.fst) = true then
                callO (bitextref16_old now e.snd.snd.snd.snd.snd.snd.fst p.snd.snd.snd.fst) fun r7 => some r7
              else some false
          else some false
      else some false
end Go.Fn
/- bitext/bitextref16.Points -/
namespace Go.Fn
open Go Go.Vs Go.Ve
set_option linter.unusedVariables false
def bitextref16_Points_l0 : Option (List (Int × List UInt8 × List UInt8 × Int × Int)) →
    Option (List (Int × List UInt8 × Int)) ×
        Option (List (Int × List UInt8 × Int)) × List UInt8 × List UInt8 × List UInt8 × List UInt8 × Int × Int →
      Int → Int × Int → Option (Int × Int ⊕ Int) :=
  fun l e now s0 =>
    if decide (s0.snd < lenI (l.getD [])) = true then
      if decide (0 ≤ s0.snd ∧ s0.snd < lenI (l.getD [])) = true then
        callO
          (bitextref16_Applies
            (((l.getD []).getD s0.snd.toNat (0, [], [], 0, 0)).fst,
              ((l.getD []).getD s0.snd.toNat (0, [], [], 0, 0)).snd.fst,
              ((l.getD []).getD s0.snd.toNat (0, [], [], 0, 0)).snd.snd.fst,
              ((l.getD []).getD s0.snd.toNat (0, [], [], 0, 0)).snd.snd.snd.fst,
              ((l.getD []).getD s0.snd.toNat (0, [], [], 0, 0)).snd.snd.snd.snd)
            (e.fst, e.snd.fst, e.snd.snd.fst, e.snd.snd.snd.fst, e.snd.snd.snd.snd.fst, e.snd.snd.snd.snd.snd.fst,
              e.snd.snd.snd.snd.snd.snd.fst, e.snd.snd.snd.snd.snd.snd.snd)
            now)
          fun r1 =>
          some
            (Sum.inl
              (if r1 = true then
                  minI 100
                    (IntKind.i64.wrap
                      (s0.fst + minI 100 (maxI 0 ((l.getD []).getD s0.snd.toNat (0, [], [], 0, 0)).snd.snd.snd.snd)))
                else s0.fst,
                IntKind.i64.wrap (s0.snd + 1)))
      else none
    else some (Sum.inr s0.fst)
def bitextref16_Points : Option (List (Int × List UInt8 × List UInt8 × Int × Int)) →
    Option (List (Int × List UInt8 × Int)) ×
        Option (List (Int × List UInt8 × Int)) × List UInt8 × List UInt8 × List UInt8 × List UInt8 × Int × Int →
      Int → Option Int :=
  fun l e now => callO (loopR (bitextref16_Points_l0 l e now) (0, 0)) fun r2 => some r2
end Go.Fn
/- Plain laws of the penalties: what Applies and Points give. -/
namespace Go.Fn
open Go Go.Vs Go.Ve
abbrev Pen := Int × List UInt8 × List UInt8 × Int × Int
abbrev Ent := Option (List (Int × List UInt8 × Int)) × Option (List (Int × List UInt8 × Int)) × List UInt8 × List UInt8 × List UInt8 × List UInt8 × Int × Int
def applies (p : Pen) (e : Ent) (now : Int) : Bool :=
  (p.1 == 0 || p.1 == e.2.2.2.2.2.2.2) && (decide (p.2.1 = []) || decide (p.2.1 = e.2.2.2.2.1)) && (decide (p.2.2.1 = []) || decide (p.2.2.1 = e.2.2.2.2.2.1)) && (decide (p.2.2.2.1 ≤ 0) || decide (p.2.2.2.1 ≤ now - e.2.2.2.2.2.2.1))
theorem Applies_eq {p : Pen} {e : Ent} {now : Int} (h1 : In64 now) (h2 : In64 e.2.2.2.2.2.2.1) (h3 : In64 p.2.2.2.1) : penalty_Applies p e now = some (applies p e now) := by
  obtain ⟨o, a, b, old, pts⟩ := p
  obtain ⟨s, t, pr, nx, au, pj, cr, org⟩ := e
  simp only at h2 h3
  unfold penalty_Applies applies
  simp only [aged_eq h1 h2 h3, callO_some]
  by_cases c1 : o = 0 <;> by_cases c2 : o = org <;> by_cases c3 : a = [] <;> by_cases c4 : a = au <;> by_cases c5 : b = [] <;> by_cases c6 : b = pj <;> by_cases c7 : old ≤ 0 <;> simp [c1, c2, c3, c4, c5, c6, c7]
theorem old_eq {now created older : Int} (h1 : In64 now) (h2 : In64 created) (h3 : In64 older) : bitextref16_old now created older = some (decide (older ≤ 0) || decide (older ≤ now - created)) := by
  unfold bitextref16_old
  unfold In64 at *
  by_cases c : older ≤ 0
  · simp [c]
  · rw [wrap_i64 (n := -9223372036854775808 + older) (by omega) (by omega)]
    by_cases c2 : now ≥ -9223372036854775808 + older
    · rw [wrap_i64 (n := now - older) (by omega) (by omega)]
      simp [c, c2]
      omega
    · simp [c, c2]
      omega
theorem Applies16_eq {p : Pen} {e : Ent} {now : Int} (h1 : In64 now) (h2 : In64 e.2.2.2.2.2.2.1) (h3 : In64 p.2.2.2.1) : bitextref16_Applies p e now = some (applies p e now) := by
  obtain ⟨o, a, b, old, pts⟩ := p
  obtain ⟨s, t, pr, nx, au, pj, cr, org⟩ := e
  simp only at h2 h3
  unfold bitextref16_Applies applies
  simp only [old_eq h1 h2 h3, callO_some]
  by_cases c1 : o = 0 <;> by_cases c2 : o = org <;> by_cases c3 : a = [] <;> by_cases c4 : a = au <;> by_cases c5 : b = [] <;> by_cases c6 : b = pj <;> simp [c1, c2, c3, c4, c5, c6]
/-- the points that a penalty adds -/
def pts1 (e : Ent) (now : Int) (p : Pen) : Int := if applies p e now then max 0 (min p.2.2.2.2 100) else 0
def ptsL (e : Ent) (now : Int) : List Pen → Int
  | [] => 0
  | p :: r => pts1 e now p + ptsL e now r
theorem pts1_nonneg (e : Ent) (now : Int) (p : Pen) : 0 ≤ pts1 e now p := by unfold pts1; split <;> omega
theorem ptsL_nonneg (e : Ent) (now : Int) : ∀ l, 0 ≤ ptsL e now l
  | [] => by simp [ptsL]
  | p :: r => by have := ptsL_nonneg e now r; have := pts1_nonneg e now p; simp only [ptsL]; omega
theorem ptsL_append (e : Ent) (now : Int) : ∀ l m, ptsL e now (l ++ m) = ptsL e now l + ptsL e now m
  | [], m => by simp [ptsL]
  | p :: r, m => by simp only [List.cons_append, ptsL, ptsL_append e now r m]; omega
def PenOk (l : Option (List Pen)) : Prop := (∀ p ∈ l.getD [], In64 p.2.2.2.1 ∧ In64 p.2.2.2.2) ∧ (l.getD []).length ≤ 4294967296
theorem foldO_pts {e : Ent} {now : Int} {g : Int → Pen → Option (Int ⊕ Int)} : ∀ (l : List Pen) (n : Int), (∀ p ∈ l, ∀ n, 0 ≤ n → n ≤ 100 → g n p = some (.inl (min 100 (n + pts1 e now p)))) → 0 ≤ n → n ≤ 100 → foldO g (fun n => some n) l n = some (min 100 (n + ptsL e now l))
  | [], n, _, h0, h1 => by simp only [foldO, ptsL]; congr 1; omega
  | p :: r, n, h, h0, h1 => by
    rw [foldO, h p (List.mem_cons_self ..) n h0 h1]
    simp only
    have := pts1_nonneg e now p
    rw [foldO_pts r _ (fun q hq => h q (List.mem_cons_of_mem _ hq)) (by omega) (by omega)]
    have := ptsL_nonneg e now r
    simp only [ptsL]
    congr 1
    omega
theorem minI_eq (a b : Int) : minI a b = min a b := by unfold minI; split <;> omega
theorem maxI_eq (a b : Int) : maxI a b = max a b := by unfold maxI; split <;> omega
theorem Points_eq {l : Option (List Pen)} {e : Ent} {now : Int} (h1 : In64 now) (h2 : In64 e.2.2.2.2.2.2.1) (hl : PenOk l) : penalty_Points l e now = some (min 100 (ptsL e now (l.getD []))) := by
  unfold penalty_Points
  have key := loopR_fold (f := penalty_Points_l0 l e now) (fun n p => some (.inl (if p.2.2.2.2 > 0 then (if applies p e now then min (IntKind.i64.wrap (n + min p.2.2.2.2 100)) 100 else n) else n))) (fun n => some n) (fun n i => (n, (i : Int))) (l.getD []) ?_ ?_ ?_ 0
  · rw [show ((0 : Int), (0 : Int)) = (fun (n : Int) (i : Nat) => (n, (i : Int))) 0 0 from rfl, key]
    rw [foldO_pts (e := e) (now := now)]
    · simp only [callO_some, Int.zero_add]
    · intro p hp n h0 h1
      congr 2
      unfold pts1
      by_cases c1 : p.2.2.2.2 > 0 <;> by_cases c2 : applies p e now
      · rw [if_pos c1, if_pos c2, if_pos c2, wrap_i64 (by omega) (by omega)]; omega
      · rw [if_pos c1, if_neg c2, if_neg c2]; omega
      · rw [if_neg c1, if_pos c2]; omega
      · rw [if_neg c1, if_neg c2]; omega
    · omega
    · omega
  · intro n i hi
    have hm := hl.1 _ (List.getElem_mem hi)
    unfold penalty_Points_l0
    refine (rangeIn hi).trans ?_
    simp only [getD_at hi]
    rw [Applies_eq (e := e) h1 h2 (p := ((l.getD [])[i].1, (l.getD [])[i].2.1, (l.getD [])[i].2.2.1, (l.getD [])[i].2.2.2.1, (l.getD [])[i].2.2.2.2)) hm.1]
    rw [wrap_succ hi (Nat.le_trans hl.2 (by decide))]
    simp only [callO_some, minI_eq]
    by_cases c1 : (l.getD [])[i].2.2.2.2 > 0
    · simp only [c1, decide_true, if_true]
    · simp only [c1, decide_false, if_false]; rfl
  · intro n
    unfold penalty_Points_l0
    exact rangeOut
  · exact Nat.lt_of_le_of_lt hl.2 (by decide)
theorem Points16_eq {l : Option (List Pen)} {e : Ent} {now : Int} (h1 : In64 now) (h2 : In64 e.2.2.2.2.2.2.1) (hl : PenOk l) : bitextref16_Points l e now = some (min 100 (ptsL e now (l.getD []))) := by
  unfold bitextref16_Points
  have key := loopR_fold (f := bitextref16_Points_l0 l e now) (fun n p => some (.inl (if applies p e now then min 100 (IntKind.i64.wrap (n + min 100 (max 0 p.2.2.2.2))) else n))) (fun n => some n) (fun n i => (n, (i : Int))) (l.getD []) ?_ ?_ ?_ 0
  · rw [show ((0 : Int), (0 : Int)) = (fun (n : Int) (i : Nat) => (n, (i : Int))) 0 0 from rfl, key]
    rw [foldO_pts (e := e) (now := now)]
    · simp only [callO_some, Int.zero_add]
    · intro p hp n h0 h1
      congr 2
      unfold pts1
      by_cases c2 : applies p e now
      · rw [if_pos c2, if_pos c2, wrap_i64 (by omega) (by omega)]; omega
      · rw [if_neg c2, if_neg c2]; omega
    · omega
    · omega
  · intro n i hi
    have hm := hl.1 _ (List.getElem_mem hi)
    unfold bitextref16_Points_l0
    refine (rangeIn hi).trans ?_
    simp only [getD_at hi]
    rw [Applies16_eq (e := e) h1 h2 (p := ((l.getD [])[i].1, (l.getD [])[i].2.1, (l.getD [])[i].2.2.1, (l.getD [])[i].2.2.2.1, (l.getD [])[i].2.2.2.2)) hm.1]
    rw [wrap_succ hi (Nat.le_trans hl.2 (by decide))]
    simp only [callO_some, minI_eq, maxI_eq]
  · intro n
    unfold bitextref16_Points_l0
    exact rangeOut
  · exact Nat.lt_of_le_of_lt hl.2 (by decide)
end Go.Fn
/- bitext/bitextmake.word -/
namespace Go.Fn
open Go Go.Vs Go.Ve
set_option linter.unusedVariables false
def bitextmake_word : Option (List Int) × Int → Option (List UInt8 × Int) :=
  fun s =>
    callO (bitextmake_Numbers_Next 24 (s.fst, s.snd)) fun r0 =>
      if (decide (0 ≤ r0.fst ∧ r0.fst < 24) && nlt (0 + r0.fst.toNat) 24) = true then
        some
          ([[114, 101, 100], [99, 97, 114], [82, 101, 100], [97], [99, 97, 114, 115], [49, 44, 53], [50, 50],
                  [100, 111, 110, 39, 116], [46], [33], [32], [32, 32], [60], [38], [123], [34], [92], [120, 45, 121],
                  [10], [61], [125], [62], [9], [98]].getD
              (0 + r0.fst.toNat) [],
            r0.snd)
      else none
end Go.Fn
/- bitext/bitextmake.Line -/
namespace Go.Fn
open Go Go.Vs Go.Ve
set_option linter.unusedVariables false
def bitextmake_Line_l0 : Option (List Int) × Int → List UInt8 × Int × Int → Option (List UInt8 × Int × Int ⊕ List UInt8 × Int) :=
  fun s s1 =>
    if decide (s1.snd.fst > 0) = true then
      callO (bitextmake_word (s.fst, s1.snd.snd)) fun r2 =>
        if (!decide (s1.fst = [])) = true then
          callO (bitextmake_Numbers_Next 3 (s.fst, r2.snd)) fun r3 =>
            if
                ((!decide (r3.fst > 0) || decide (s1.fst.length + 1 ≤ 1152921504606846976)) &&
                    decide
                      ((if decide (r3.fst > 0) = true then s1.fst ++ [32] else s1.fst).length + r2.fst.length ≤
                        1152921504606846976)) =
                  true then
              some
                (Sum.inl
                  ((if decide (r3.fst > 0) = true then s1.fst ++ [32] else s1.fst) ++ r2.fst,
                    IntKind.i64.wrap (s1.snd.fst - 1), r3.snd))
            else none
        else
          if decide (s1.fst.length + r2.fst.length ≤ 1152921504606846976) = true then
            some (Sum.inl (s1.fst ++ r2.fst, IntKind.i64.wrap (s1.snd.fst - 1), r2.snd))
          else none
    else some (Sum.inr (s1.fst, s1.snd.snd))
def bitextmake_Line : Int → Option (List Int) × Int → Option (List UInt8 × Int) :=
  fun n s =>
    callO (bitextmake_Numbers_Next (IntKind.i64.wrap (n + 1)) (s.fst, s.snd)) fun r0 =>
      callO (loopR (bitextmake_Line_l0 s) ([], r0.fst, r0.snd)) fun r4 => some (r4.fst, r4.snd)
end Go.Fn
/- Plain laws of the makers of inputs: numbers, words, lines, penalties. -/
namespace Go.Fn
open Go Go.Vs Go.Ve
/-- numbers that are left, of which c are used -/
def Num (s : Option (List Int) × Int) (c : Int) : Prop := (∀ x ∈ s.1.getD [], In64 x) ∧ 0 ≤ s.2 ∧ s.2 ≤ c
theorem Num.le {s : Option (List Int) × Int} {c d : Int} (h : Num s c) (hd : c ≤ d) : Num s d := ⟨h.1, h.2.1, by have := h.2.2; omega⟩
theorem Num.at {L : Option (List Int)} {k c k' c' : Int} (h : Num (L, k) c) (h0 : 0 ≤ k') (h1 : k' ≤ c') : Num (L, k') c' := ⟨h.1, h0, h1⟩
theorem Next_ok {L : Option (List Int)} {k c n : Int} (h : Num (L, k) c) (hc : c ≤ 1099511627776) (hn : 1 ≤ n) (hn2 : n ≤ 4611686018427387904) :
    Ok (bitextmake_Numbers_Next n (L, k)) fun r => 0 ≤ r.1 ∧ r.1 < n ∧ Num (L, r.2) (c + 1) := by
  obtain ⟨h1, h2, h3⟩ := h
  simp only at h1 h2 h3
  unfold bitextmake_Numbers_Next
  show Ok (if (!decide (k < lenI (L.getD [])) || decide (0 ≤ k ∧ k < lenI (L.getD []))) = true then callO (bitextmake_Place (if decide (k < lenI (L.getD [])) = true then (L.getD []).getD k.toNat 0 else 0) n) (fun r0 => some (r0, IntKind.i64.wrap (k + 1))) else none) _
  have hl : lenI (L.getD []) = ((L.getD []).length : Int) := rfl
  refine Ok.pos ?_ ?_
  · rw [Bool.or_eq_true, Bool.not_eq_true', decide_eq_false_iff_not, decide_eq_true_iff]
    omega
  · have hx : In64 (if decide (k < lenI (L.getD [])) = true then (L.getD []).getD k.toNat 0 else 0) := by
      split
      · rename_i hk
        have hk := of_decide_eq_true hk
        have hlt : k.toNat < (L.getD []).length := by omega
        rw [List.getD_eq_getElem?_getD, List.getElem?_eq_getElem hlt]
        exact h1 _ (List.getElem_mem hlt)
      · unfold In64; omega
    rw [place_eq hx hn hn2, callO_some]
    refine Ok.ret ⟨Int.emod_nonneg _ (show n ≠ 0 by omega), Int.emod_lt_of_pos _ (show 0 < n by omega), ?_⟩
    rw [wrap_i64 (by omega) (by omega)]
    exact ⟨h1, by simp only; omega, by simp only; omega⟩
/-- a text taken out of a table -/
theorem table_ok {ws : List (List UInt8)} {x n : Int} (Q : List UInt8 → Prop) (h0 : 0 ≤ x) (h1 : x < n) (hn : n = ws.length) (h : ∀ w ∈ ws, Q w) : Q (ws.getD (0 + x.toNat) []) := by
  have : 0 + x.toNat < ws.length := by omega
  rw [List.getD_eq_getElem?_getD, List.getElem?_eq_getElem this]
  exact h _ (List.getElem_mem this)
theorem word_ok {L : Option (List Int)} {k c : Int} (h : Num (L, k) c) (hc : c ≤ 1099511627776) : Ok (bitextmake_word (L, k)) fun r => r.1.length ≤ 5 ∧ Num (L, r.2) (c + 1) := by
  unfold bitextmake_word
  refine Ok.call (Next_ok h hc (by decide) (by decide)) fun r hr => ?_
  obtain ⟨h0, h1, h2⟩ := hr
  refine Ok.pos ?_ (Ok.ret ⟨?_, h2⟩)
  · rw [Bool.and_eq_true, decide_eq_true_iff, nlt_iff]; omega
  · exact table_ok (fun w => w.length ≤ 5) h0 h1 (by decide) (by decide)
theorem Line_ok {L : Option (List Int)} {k c n : Int} (h : Num (L, k) c) (hc : c ≤ 549755813888) (hn : 0 ≤ n) (hn2 : n ≤ 1048576) :
    Ok (bitextmake_Line n (L, k)) fun r => (r.1.length : Int) ≤ 6 * n ∧ Num (L, r.2) (c + 1 + 2 * n) := by
  unfold bitextmake_Line
  rw [wrap_i64 (by omega) (by omega)]
  refine Ok.call (Next_ok h (by omega) (by omega) (by omega)) fun r hr => ?_
  obtain ⟨h0, h1, h2⟩ := hr
  refine Ok.call (Ok.loop (fun s => 0 ≤ s.2.1 ∧ s.2.1 ≤ n ∧ (s.1.length : Int) ≤ 6 * (n - s.2.1) ∧ Num (L, s.2.2) (c + 1 + 2 * (n - s.2.1))) (fun s => s.2.1.toNat)
    (R := fun r => (r.1.length : Int) ≤ 6 * n ∧ Num (L, r.2) (c + 1 + 2 * n)) ⟨h0, by (try dsimp only); omega, by simp only [List.length_nil]; omega, h2.le (by (try dsimp only); omega)⟩ (by unfold fuel; (try dsimp only); omega) ?_) ?_
  · rintro ⟨t, i, k'⟩ ⟨g0, g1, g2, g3⟩
    simp only at g0 g1 g2 g3
    unfold bitextmake_Line_l0
    dsimp only
    refine Ok.dec (fun hi => ?_) (fun hi => ?_)
    · refine Ok.call (word_ok g3 (by omega)) fun w hw => ?_
      obtain ⟨w1, w2⟩ := hw
      refine Ok.ite (fun _ => ?_) fun _ => ?_
      · refine Ok.call (Next_ok w2 (by omega) (by decide) (by decide)) fun q hq => ?_
        obtain ⟨q0, q1, q2⟩ := hq
        refine Ok.pos ?_ (Ok.ret ⟨⟨?_, ?_, ?_, ?_⟩, ?_⟩)
        · rw [Bool.and_eq_true, Bool.or_eq_true, decide_eq_true_iff, decide_eq_true_iff]
          refine ⟨.inr ?_, ?_⟩
          · (try dsimp only); omega
          · split
            · simp only [List.length_append, List.length_cons, List.length_nil]; omega
            · omega
        · rw [wrap_i64 (by omega) (by omega)]; (try dsimp only); omega
        · rw [wrap_i64 (by omega) (by omega)]; (try dsimp only); omega
        · rw [wrap_i64 (by omega) (by omega)]
          (try dsimp only)
          simp only [List.length_append]
          split
          · simp only [List.length_append, List.length_cons, List.length_nil]; omega
          · omega
        · rw [wrap_i64 (by omega) (by omega)]; exact q2.le (by (try dsimp only); omega)
        · rw [wrap_i64 (by omega) (by omega)]; (try dsimp only); omega
      · refine Ok.grd (by (try dsimp only); omega) (Ok.ret ⟨⟨?_, ?_, ?_, ?_⟩, ?_⟩)
        · rw [wrap_i64 (by omega) (by omega)]; (try dsimp only); omega
        · rw [wrap_i64 (by omega) (by omega)]; (try dsimp only); omega
        · rw [wrap_i64 (by omega) (by omega)]; (try dsimp only); simp only [List.length_append]; omega
        · rw [wrap_i64 (by omega) (by omega)]; exact w2.le (by (try dsimp only); omega)
        · rw [wrap_i64 (by omega) (by omega)]; (try dsimp only); omega
    · exact Ok.ret ⟨by (try dsimp only); omega, g3.le (by omega)⟩
  · intro r hr
    exact Ok.ret hr
theorem in64_of {x a b : Int} (h0 : a ≤ x) (h1 : x ≤ b) (ha : -9223372036854775808 ≤ a) (hb : b ≤ 9223372036854775807) : In64 x := ⟨by omega, by omega⟩
theorem Penalties_ok {L : Option (List Int)} {k c n : Int} (h : Num (L, k) c) (hc : c ≤ 549755813888) (hn : 0 ≤ n) (hn2 : n ≤ 1048576) :
    Ok (bitextmake_Penalties n (L, k)) fun r => PenOk r.1 ∧ ((r.1.getD []).length : Int) ≤ n ∧ Num (L, r.2) (c + 1 + 6 * n) := by
  unfold bitextmake_Penalties
  rw [wrap_i64 (by omega) (by omega)]
  refine Ok.call (Next_ok h (by omega) (by omega) (by omega)) fun r hr => ?_
  obtain ⟨h0, h1, h2⟩ := hr
  refine Ok.call (Ok.loop (fun s => 0 ≤ s.2.1 ∧ s.2.1 ≤ n ∧ ((s.1.getD []).length : Int) ≤ n - s.2.1 ∧ (∀ p ∈ s.1.getD [], In64 p.2.2.2.1 ∧ In64 p.2.2.2.2) ∧ Num (L, s.2.2) (c + 1 + 6 * (n - s.2.1))) (fun s => s.2.1.toNat)
    (R := fun r => ((r.1.getD []).length : Int) ≤ n ∧ (∀ p ∈ r.1.getD [], In64 p.2.2.2.1 ∧ In64 p.2.2.2.2) ∧ Num (L, r.2) (c + 1 + 6 * n)) ⟨h0, by (try dsimp only); omega, by simp only [Option.getD_none, List.length_nil]; omega, by simp, h2.le (by (try dsimp only); omega)⟩ (by unfold fuel; (try dsimp only); omega) ?_) ?_
  · rintro ⟨t, i, k'⟩ ⟨g0, g1, g2, g3, g4⟩
    simp only at g0 g1 g2 g3 g4
    unfold bitextmake_Penalties_l0
    dsimp only
    refine Ok.dec (fun hi => ?_) (fun hi => ?_)
    · refine Ok.call (Next_ok g4 (by omega) (by decide) (by decide)) fun a ha => ?_
      refine Ok.call (Next_ok ha.2.2 (by omega) (by decide) (by decide)) fun b hb => ?_
      refine Ok.grd ⟨hb.1, hb.2.1⟩ (Ok.pos ((nlt_iff _ _).2 (by have := hb.1; have := hb.2.1; omega)) ?_)
      refine Ok.call (Next_ok hb.2.2 (by omega) (by decide) (by decide)) fun d hd => ?_
      refine Ok.grd ⟨hd.1, hd.2.1⟩ (Ok.pos ((nlt_iff _ _).2 (by have := hd.1; have := hd.2.1; omega)) ?_)
      refine Ok.call (Next_ok hd.2.2 (by omega) (by decide) (by decide)) fun e he => ?_
      refine Ok.call (Next_ok he.2.2 (by omega) (by decide) (by decide)) fun f hf => ?_
      refine Ok.call (Next_ok hf.2.2 (by omega) (by decide) (by decide)) fun g hg => ?_
      have hm : In64 (IntKind.i64.wrap (e.1 * f.1)) := by
        have b1 : 0 ≤ e.1 * f.1 := Int.mul_nonneg he.1 hf.1
        have b2 : e.1 * f.1 ≤ 3 * 30 := Int.mul_le_mul (by have := he.2.1; omega) (by have := hf.2.1; omega) hf.1 (by decide)
        generalize e.1 * f.1 = m at b1 b2 ⊢
        rw [wrap_i64 (by omega) (by omega)]; unfold In64; omega
      have hg' : In64 g.1 := by have := hg.1; have := hg.2.1; unfold In64; omega
      refine Ok.app (fun xs hx => ?_) (fun hx => ?_) Iff.rfl
      · subst hx
        simp only [Option.getD_some] at g2 g3
        simp only [callO_some, Option.getD_some]
        refine Ok.grd (by omega) (Ok.grd (by simp only [List.length_cons, List.length_nil]; omega) (Ok.ret ⟨⟨?_, ?_, ?_, ?_, ?_⟩, ?_⟩))
        · rw [wrap_i64 (n := i - 1) (by omega) (by omega)]; (try dsimp only); omega
        · rw [wrap_i64 (n := i - 1) (by omega) (by omega)]; (try dsimp only); omega
        · rw [wrap_i64 (n := i - 1) (by omega) (by omega)]; (try dsimp only); simp only [Option.getD_some, List.length_append, List.length_cons, List.length_nil]; omega
        · intro p hp
          simp only [Option.getD_some, List.mem_append, List.mem_cons, List.not_mem_nil, or_false] at hp
          rcases hp with hp | rfl
          · exact g3 p hp
          · exact ⟨hm, hg'⟩
        · rw [wrap_i64 (n := i - 1) (by omega) (by omega)]; exact hg.2.2.le (by (try dsimp only); omega)
        · rw [wrap_i64 (n := i - 1) (by omega) (by omega)]; (try dsimp only); omega
      · subst hx
        simp only [Option.getD_none, List.length_nil] at g2
        refine Ok.grd (by simp only [List.length_cons, List.length_nil]; omega) (Ok.ret ⟨⟨?_, ?_, ?_, ?_, ?_⟩, ?_⟩)
        · rw [wrap_i64 (n := i - 1) (by omega) (by omega)]; (try dsimp only); omega
        · rw [wrap_i64 (n := i - 1) (by omega) (by omega)]; (try dsimp only); omega
        · rw [wrap_i64 (n := i - 1) (by omega) (by omega)]; (try dsimp only); simp only [Option.getD_some, List.length_cons, List.length_nil]; omega
        · intro p hp
          simp only [Option.getD_some, List.mem_cons, List.not_mem_nil, or_false] at hp
          subst hp
          exact ⟨hm, hg'⟩
        · rw [wrap_i64 (n := i - 1) (by omega) (by omega)]; exact hg.2.2.le (by (try dsimp only); omega)
        · rw [wrap_i64 (n := i - 1) (by omega) (by omega)]; (try dsimp only); omega
    · exact Ok.ret ⟨by simp only at *; omega, g3, g4.le (by omega)⟩
  · rintro ⟨o, k'⟩ hr
    simp only at hr
    refine Ok.app (fun xs hx => ?_) (fun hx => ?_) Iff.rfl
    · simp only at hx
      subst hx
      simp only [Option.getD_some] at hr
      refine Ok.ret ⟨⟨hr.2.1, ?_⟩, hr.1, hr.2.2⟩
      simp only [Option.getD_some]; omega
    · simp only at hx
      subst hx
      simp only [Option.getD_none, List.length_nil] at hr
      refine Ok.ret ⟨⟨by simp, by simp⟩, by simp; omega, hr.2.2⟩
end Go.Fn
/- Plain laws of the penalties: names, and which lists are valid. -/
namespace Go.Fn
open Go Go.Vs Go.Ve
def okAt (s : List UInt8) (i : Nat) : Prop := (97 ≤ byteI (s.getD i 0) ∧ byteI (s.getD i 0) ≤ 122) ∨ (0 < i ∧ ((48 ≤ byteI (s.getD i 0) ∧ byteI (s.getD i 0) ≤ 57) ∨ byteI (s.getD i 0) = 45))
instance (s : List UInt8) (i : Nat) : Decidable (okAt s i) := by unfold okAt; infer_instance
def NameP (s : List UInt8) : Prop := 1 ≤ s.length ∧ s.length ≤ 24 ∧ ∀ i, i < s.length → okAt s i
instance (s : List UInt8) : Decidable (NameP s) := by unfold NameP; infer_instance
theorem IsName1_eq (s : List UInt8) : bitextref1_IsName s = some (decide (NameP s)) := by
  unfold bitextref1_IsName
  by_cases hl : s.length < 1 ∨ s.length > 24
  · rw [if_pos (by rw [Bool.or_eq_true, decide_eq_true_iff, decide_eq_true_iff]; have := lenI_eq s; omega), decide_eq_false (by unfold NameP; omega)]
  · rw [if_neg (by rw [Bool.or_eq_true, decide_eq_true_iff, decide_eq_true_iff]; have := lenI_eq s; omega)]
    have key := loopR_all (f := bitextref1_IsName_l0 s) (fun i => (i : Int)) s.length (okAt s) (.inl false) (.inr ()) ?_ ?_ ?_ (by unfold fuel; omega)
    · by_cases h : ∀ i, i < s.length → okAt s i
      · have e := key.1 h
        rw [show ((0 : Nat) : Int) = 0 from rfl] at e
        rw [e, decide_eq_true (show NameP s from ⟨by omega, by omega, h⟩)]; rfl
      · have e := key.2 h
        rw [show ((0 : Nat) : Int) = 0 from rfl] at e
        rw [e, decide_eq_false (fun (hn : NameP s) => h hn.2.2)]; rfl
    all_goals intros
    all_goals unfold bitextref1_IsName_l0
    · rename_i i hi hp
      refine (rangeIn1 hi).trans ?_
      rw [if_pos (by rw [Bool.and_eq_true, decide_eq_true_iff, nlt_iff]; omega), Int.toNat_natCast, wrap_succ hi (by omega), if_pos]
      unfold okAt at hp
      generalize byteI (s.getD i 0) = c at hp ⊢
      by_cases c1 : 97 ≤ c <;> by_cases c2 : c ≤ 122 <;> by_cases c3 : 0 < i <;> by_cases c4 : 48 ≤ c <;> by_cases c5 : c ≤ 57 <;> by_cases c6 : c = 45 <;> simp_all <;> omega
    · rename_i i hi hp
      refine (rangeIn1 hi).trans ?_
      rw [if_pos (by rw [Bool.and_eq_true, decide_eq_true_iff, nlt_iff]; omega), Int.toNat_natCast, if_neg]
      unfold okAt at hp
      generalize byteI (s.getD i 0) = c at hp ⊢
      by_cases c1 : 97 ≤ c <;> by_cases c2 : c ≤ 122 <;> by_cases c3 : 0 < i <;> by_cases c4 : 48 ≤ c <;> by_cases c5 : c ≤ 57 <;> by_cases c6 : c = 45 <;> simp_all <;> omega
    · exact rangeOut
theorem IsName_eq (s : List UInt8) : class_IsName s = some (decide (NameP s)) := by
  unfold class_IsName
  rw [if_pos (by
    rcases Nat.lt_or_ge s.length 1 with h | h
    · rw [Bool.or_eq_true, decide_eq_true_iff]; left; have := lenI_eq s; omega
    · have : nlt 0 s.length = true := (nlt_iff _ _).2 h
      simp [this])]
  by_cases hl : s.length < 1 ∨ s.length > 24
  · rw [if_pos (by rw [Bool.or_eq_true, Bool.or_eq_true, decide_eq_true_iff, decide_eq_true_iff]; have := lenI_eq s; omega), decide_eq_false (by unfold NameP; omega)]
  · by_cases hf : byteI (s.getD 0 0) < 97 ∨ byteI (s.getD 0 0) > 122
    · rw [if_pos (by rw [Bool.or_eq_true, Bool.or_eq_true, Bool.or_eq_true, decide_eq_true_iff, decide_eq_true_iff, decide_eq_true_iff, decide_eq_true_iff]; omega), decide_eq_false]
      intro hn
      have := hn.2.2 0 (by omega)
      unfold okAt at this
      omega
    · rw [if_neg (by rw [Bool.or_eq_true, Bool.or_eq_true, Bool.or_eq_true, decide_eq_true_iff, decide_eq_true_iff, decide_eq_true_iff, decide_eq_true_iff]; have := lenI_eq s; omega)]
      have key := loopR_all (f := class_IsName_l0 s) (fun i => ((i + 1 : Nat) : Int)) (s.length - 1) (fun i => okAt s (i + 1)) (.inl false) (.inr ()) ?_ ?_ ?_ (by unfold fuel; omega)
      · have hz : okAt s 0 := by unfold okAt; omega
        by_cases h : ∀ i, i < s.length - 1 → okAt s (i + 1)
        · have e := key.1 h
          rw [show ((0 + 1 : Nat) : Int) = 1 from rfl] at e
          rw [e, decide_eq_true]; rfl
          refine ⟨by omega, by omega, fun i hi => ?_⟩
          cases i with
          | zero => exact hz
          | succ i => exact h i (by omega)
        · have e := key.2 h
          rw [show ((0 + 1 : Nat) : Int) = 1 from rfl] at e
          rw [e, decide_eq_false]; rfl
          exact fun hn => h fun i hi => hn.2.2 (i + 1) (by omega)
      all_goals intros
      all_goals unfold class_IsName_l0
      · rename_i i hi hp
        have hi' : i + 1 < s.length := by omega
        refine (rangeIn1 hi').trans ?_
        rw [if_pos (by rw [Bool.and_eq_true, decide_eq_true_iff, nlt_iff]; omega), Int.toNat_natCast, wrap_succ hi' (by omega), if_neg]
        unfold okAt at hp
        generalize byteI (s.getD (i + 1) 0) = c at hp ⊢
        by_cases c1 : 97 ≤ c <;> by_cases c2 : c ≤ 122 <;> by_cases c4 : 48 ≤ c <;> by_cases c5 : c ≤ 57 <;> by_cases c6 : c = 45 <;> simp_all <;> omega
      · rename_i i hi hp
        have hi' : i + 1 < s.length := by omega
        refine (rangeIn1 hi').trans ?_
        rw [if_pos (by rw [Bool.and_eq_true, decide_eq_true_iff, nlt_iff]; omega), Int.toNat_natCast, if_pos]
        unfold okAt at hp
        generalize byteI (s.getD (i + 1) 0) = c at hp ⊢
        by_cases c1 : 97 ≤ c <;> by_cases c2 : c ≤ 122 <;> by_cases c4 : 48 ≤ c <;> by_cases c5 : c ≤ 57 <;> by_cases c6 : c = 45 <;> simp_all <;> omega
      · rw [show s.length - 1 + 1 = s.length by omega]; exact rangeOut
end Go.Fn
/- Plain laws of the penalties: which lists are valid, and what the statement gives. -/
namespace Go.Fn
open Go Go.Vs Go.Ve
def errP (p : Pen) : Option Int :=
  if p.1 < 0 ∨ p.1 > 3 ∨ p.2.2.2.1 < 0 ∨ p.2.2.2.1 > 1073741824 ∨ p.2.2.2.2 < 0 ∨ p.2.2.2.2 > 100 then some 1
  else if p.2.1 ≠ [] ∧ ¬ NameP p.2.1 then some 4
  else if p.2.2.1 ≠ [] ∧ ¬ NameP p.2.2.1 then some 4
  else none
def gV (_ : Unit) (p : Pen) : Option (Unit ⊕ (Int ⊕ Unit)) := match errP p with
  | none => some (.inl ())
  | some r => some (.inr (.inl r))
def validL (l : List Pen) : Option Int :=
  if l.length > 16 then some 3 else callO (foldO gV (fun _ => some (.inr ())) l ()) fun r => sumO r (fun x => some x) fun _ => some 0
theorem validL_total (l : List Pen) : ∃ r, validL l = some r := by
  unfold validL
  split
  · exact ⟨_, rfl⟩
  · obtain ⟨r, e⟩ := foldO_total (g := gV) (fin := fun _ => some (.inr ())) (fun b a => by unfold gV; split <;> rfl) (fun _ => rfl) l ()
    rw [e]
    cases r <;> exact ⟨_, rfl⟩
theorem bad_iff (a b c d e f : Prop) [Decidable a] [Decidable b] [Decidable c] [Decidable d] [Decidable e] [Decidable f] : (decide a || (decide b || (decide c || (decide d || (decide e || decide f))))) = true ↔ a ∨ b ∨ c ∨ d ∨ e ∨ f := by
  simp only [Bool.or_eq_true, decide_eq_true_iff]
theorem Validate_step (p : Pen) (j : Int) :
    (if (decide (p.1 < 0) || (decide (p.1 > 3) || (decide (p.2.2.2.1 < 0) || (decide (p.2.2.2.1 > 1073741824) || (decide (p.2.2.2.2 < 0) || decide (p.2.2.2.2 > 100)))))) = true then (some (Sum.inr (Sum.inl 1)) : Option (Int ⊕ Int ⊕ Unit))
      else if (!decide (p.2.1 = [])) = true then
        callO (class_IsName p.2.1) fun r1 =>
          if (!r1) = true then some (Sum.inr (Sum.inl 4))
          else if (!decide (p.2.2.1 = [])) = true then callO (class_IsName p.2.2.1) fun r2 => if (!r2) = true then some (Sum.inr (Sum.inl 4)) else some (Sum.inl j)
          else some (Sum.inl j)
      else if (!decide (p.2.2.1 = [])) = true then callO (class_IsName p.2.2.1) fun r3 => if (!r3) = true then some (Sum.inr (Sum.inl 4)) else some (Sum.inl j)
      else some (Sum.inl j)) =
    (match gV () p with | some (.inl _) => some (.inl j) | some (.inr r) => some (.inr r) | none => none : Option (Int ⊕ Int ⊕ Unit)) := by
  unfold gV errP
  simp only [bad_iff, IsName_eq, callO_some]
  by_cases c1 : p.1 < 0 ∨ p.1 > 3 ∨ p.2.2.2.1 < 0 ∨ p.2.2.2.1 > 1073741824 ∨ p.2.2.2.2 < 0 ∨ p.2.2.2.2 > 100
  · rw [if_pos c1, if_pos c1]
  · rw [if_neg c1, if_neg c1]
    by_cases c2 : p.2.1 = [] <;> by_cases c3 : NameP p.2.1 <;> by_cases c4 : p.2.2.1 = [] <;> by_cases c5 : NameP p.2.2.1 <;> simp [c2, c3, c4, c5]
theorem Validate16_step (p : Pen) (j : Int) :
    (if (decide (p.1 < 0) || (decide (p.1 > 3) || (decide (p.2.2.2.1 < 0) || (decide (p.2.2.2.1 > 1073741824) || (decide (p.2.2.2.2 < 0) || decide (p.2.2.2.2 > 100)))))) = true then (some (Sum.inr (Sum.inl 1)) : Option (Int ⊕ Int ⊕ Unit))
      else callO (bitextref16_named p.2.1) fun r1 =>
        if (!r1) = true then some (Sum.inr (Sum.inl 4))
        else callO (bitextref16_named p.2.2.1) fun r2 => if (!r2) = true then some (Sum.inr (Sum.inl 4)) else some (Sum.inl j)) =
    (match gV () p with | some (.inl _) => some (.inl j) | some (.inr r) => some (.inr r) | none => none : Option (Int ⊕ Int ⊕ Unit)) := by
  unfold gV errP
  simp only [bad_iff, bitextref16_named, IsName1_eq, callO_some]
  by_cases c1 : p.1 < 0 ∨ p.1 > 3 ∨ p.2.2.2.1 < 0 ∨ p.2.2.2.1 > 1073741824 ∨ p.2.2.2.2 < 0 ∨ p.2.2.2.2 > 100
  · rw [if_pos c1, if_pos c1]
  · rw [if_neg c1, if_neg c1]
    by_cases c2 : p.2.1 = [] <;> by_cases c3 : NameP p.2.1 <;> by_cases c4 : p.2.2.1 = [] <;> by_cases c5 : NameP p.2.2.1 <;> simp [c2, c3, c4, c5]
theorem gV_some (p : Pen) (j : Int) : (match gV () p with | some (.inl _) => some (.inl j) | some (.inr r) => some (.inr r) | none => none : Option (Int ⊕ Int ⊕ Unit)) = (match gV () p with | some (.inl _) => some (.inl j) | some (.inr r) => some (.inr r) | none => none) := rfl
theorem small {α : Type} {l : List α} (h : ¬ lenI l > 16) : l.length ≤ 16 := by have := lenI_eq l; omega
theorem Validate_eq (l : Option (List Pen)) : penalty_Validate l = validL (l.getD []) := by
  unfold penalty_Validate validL
  by_cases hl : lenI (l.getD []) > 16
  · rw [if_pos (decide_eq_true hl), if_pos (by have := lenI_eq (l.getD []); omega)]
  · rw [if_neg (by rw [decide_eq_true_iff]; exact hl), if_neg (by have := lenI_eq (l.getD []); omega)]
    have key := loopR_fold (f := penalty_Validate_l0 l) gV (fun _ => some (.inr ())) (fun _ i => (i : Int)) (l.getD []) (fun b i hi => ?_) (fun b => ?_) (by have := small hl; unfold fuel; omega) ()
    · rw [show (0 : Int) = ((0 : Nat) : Int) from rfl, key]
    · unfold penalty_Validate_l0
      refine (rangeIn hi).trans ?_
      simp only [getD_at hi]
      rw [wrap_succ hi (by have := small hl; omega)]
      exact (Validate_step (l.getD [])[i] ((i + 1 : Nat) : Int)).trans (by unfold gV; cases errP (l.getD [])[i] <;> rfl)
    · unfold penalty_Validate_l0
      exact rangeOut
theorem Validate16_eq (l : Option (List Pen)) : bitextref16_ValidatePenalties l = validL (l.getD []) := by
  unfold bitextref16_ValidatePenalties validL
  by_cases hl : lenI (l.getD []) > 16
  · rw [if_pos (decide_eq_true hl), if_pos (by have := lenI_eq (l.getD []); omega)]
  · rw [if_neg (by rw [decide_eq_true_iff]; exact hl), if_neg (by have := lenI_eq (l.getD []); omega)]
    have key := loopR_fold (f := bitextref16_ValidatePenalties_l0 l) gV (fun _ => some (.inr ())) (fun _ i => (i : Int)) (l.getD []) (fun b i hi => ?_) (fun b => ?_) (by have := small hl; unfold fuel; omega) ()
    · rw [show (0 : Int) = ((0 : Nat) : Int) from rfl, key]
    · unfold bitextref16_ValidatePenalties_l0
      refine (rangeIn hi).trans ?_
      simp only [getD_at hi]
      rw [wrap_succ hi (by have := small hl; omega)]
      exact (Validate16_step (l.getD [])[i] ((i + 1 : Nat) : Int)).trans (by unfold gV; cases errP (l.getD [])[i] <;> rfl)
    · unfold bitextref16_ValidatePenalties_l0
      exact rangeOut
theorem Validate_v2_l0 (l : Option (List Pen)) : penalty_Validate_v2_l0 l = penalty_Validate_l0 l := by
  funext i
  unfold penalty_Validate_v2_l0 penalty_Validate_l0
  simp only [Nat.zero_add, guard_nlt]
theorem Validate_v2 (l : Option (List Pen)) : penalty_Validate_v2 l = validL (l.getD []) := by
  rw [← Validate_eq]
  unfold penalty_Validate_v2 penalty_Validate
  rw [Validate_v2_l0]
theorem Validate16_v2_l0 (l : Option (List Pen)) : bitextref16_ValidatePenalties_v2_l0 l = bitextref16_ValidatePenalties_l0 l := by
  funext i
  unfold bitextref16_ValidatePenalties_v2_l0 bitextref16_ValidatePenalties_l0
  simp only [Nat.zero_add, guard_nlt]
theorem Validate16_v2 (l : Option (List Pen)) : bitextref16_ValidatePenalties_v2 l = validL (l.getD []) := by
  rw [← Validate16_eq]
  unfold bitextref16_ValidatePenalties_v2 bitextref16_ValidatePenalties
  rw [Validate16_v2_l0]
theorem light_total (l : Option (List Pen)) (hl : (l.getD []).length ≤ 4294967296) : ∃ b, bitextlaw17_light l = some b := by
  unfold bitextlaw17_light
  have key := loopR_fold (f := bitextlaw17_light_l0 l) (fun n p => some (.inl (IntKind.i64.wrap (n + IntKind.i64.wrap (IntKind.i64.wrap (1 + lenI p.2.1) + lenI p.2.2.1))))) (fun n => some n) (fun n i => (n, (i : Int))) (l.getD []) (fun b i hi => ?_) (fun b => ?_) (Nat.lt_of_le_of_lt hl (by decide)) 0
  · rw [show ((0 : Int), (0 : Int)) = (fun (n : Int) (i : Nat) => (n, (i : Int))) 0 0 from rfl, key]
    obtain ⟨r, e⟩ := foldO_total (g := fun (n : Int) (p : Pen) => (some (.inl (IntKind.i64.wrap (n + IntKind.i64.wrap (IntKind.i64.wrap (1 + lenI p.2.1) + lenI p.2.2.1)))) : Option (Int ⊕ Int))) (fin := fun n => some n) (fun _ _ => rfl) (fun _ => rfl) (l.getD []) 0
    rw [e]
    exact ⟨_, rfl⟩
  · unfold bitextlaw17_light_l0
    refine (rangeIn1 hi).trans ?_
    have : (0 : Int) ≤ (i : Int) ∧ (i : Int) < lenI (l.getD []) := by have := lenI_eq (l.getD []); omega
    rw [if_pos (by rw [decide_eq_true this]; rfl)]
    simp only [getD_at hi]
    rw [wrap_succ hi (Nat.le_trans hl (by decide))]
  · unfold bitextlaw17_light_l0
    exact rangeOut
theorem optL_getD {α : Type} (l : List α) : (optL l).getD [] = l := by cases l <;> rfl
theorem optL_isSome {α : Type} (l : List α) : (optL l).isSome = !decide (l.length = 0) := by cases l <;> simp [optL]
theorem callO_ok {α β : Type} {o : Option α} {k : α → Option β} {y : β} (h : ∃ x, o = some x) (hk : ∀ x, o = some x → k x = some y) : callO o k = some y := by
  obtain ⟨x, e⟩ := h
  rw [e]
  exact hk x e
theorem pair_eq {α : Type} (l : List Pen) {A B : Option α} : (callO (validL l) fun r => callO (validL l) fun r' => if (r == r') = true then A else B) = A := by
  obtain ⟨r, e⟩ := validL_total l
  simp [e]
theorem validates_holds (a0 : Option (List Pen)) (a1 : Option (List Int)) (a2 : Int) (a3 : Pen) (h0 : (a0.getD []).length ≤ 4294967296) (h1 : ∀ x ∈ a1.getD [], In64 x) (h2 : In64 a2) :
    bitextlaw17_PenaltyValidates a0 a1 a2 a3 = some true := by
  unfold bitextlaw17_PenaltyValidates
  simp only [Validate_eq, Validate16_eq, Validate_v2, Validate16_v2, pair_eq, known_eq, callO_some]
  obtain ⟨b, hb⟩ := light_total a0 h0
  rw [hb, callO_some]
  split
  · rfl
  · obtain ⟨r, e, hr, hlen, _⟩ := Penalties_ok (L := a1) (k := 0) (c := 0) (n := 18) ⟨h1, by simp, by simp⟩ (by decide) (by decide) (by decide)
    rw [e, callO_some]
    cases ho : r.1 with
    | none => simp [optL]
    | some xs =>
      rw [ho] at hlen hr
      simp only [Option.getD_some] at hlen
      simp only [Option.isSome_some, if_true, callO_some, Option.getD_some, optL_getD]
      rw [if_pos (decide_eq_true (by omega : xs.length ≤ 68719476736))]
      cases xs with
      | nil => simp [optL]
      | cons x xs =>
        have hpos : lenI (x :: xs) > 0 := by rw [lenI_eq, List.length_cons]; omega
        have hl : lenI (x :: xs) = ((x :: xs).length : Int) := rfl
        simp only [optL, Option.isSome_some, if_true, callO_some, Option.getD_some]
        rw [if_pos (decide_eq_true hpos), place_eq h2 (by simp only [Int.ofNat_eq_natCast]; omega) (by simp only [Int.ofNat_eq_natCast]; omega), callO_some]
        have g0 := Int.emod_nonneg a2 (show Int.ofNat (x :: xs).length ≠ 0 by simp only [Int.ofNat_eq_natCast]; omega)
        have g1 := Int.emod_lt_of_pos a2 (show 0 < Int.ofNat (x :: xs).length by simp only [Int.ofNat_eq_natCast]; omega)
        have g2 : 0 ≤ a2 % Int.ofNat (x :: xs).length ∧ a2 % Int.ofNat (x :: xs).length < lenI (x :: xs) := ⟨g0, g1⟩
        rw [if_pos (by rw [Nat.zero_add, guard_nlt]; exact decide_eq_true g2)]
end Go.Fn
