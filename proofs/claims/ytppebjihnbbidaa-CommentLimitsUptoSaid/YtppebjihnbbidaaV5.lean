/- The statement CommentLimitsUptoSaid of the given program is proved here: for every input whose bulk is at most the bound of its row, the law returns true and changes nothing. Part 5 of 6. -/
import Derived.KernelRfl
import Derived.Test.YtppebjihnbbidaaV4
/- bitext/bitextref3.SameInts -/
namespace Go.Fn
open Go Go.Vs Go.Ve
set_option linter.unusedVariables false
def bitextref3_SameInts_l0 : Option (List Int) → Option (List Int) → Int → Option (Int ⊕ Bool ⊕ Unit) :=
  fun a b s1 =>
    if decide (s1 < lenI (a.getD [])) = true then
      if (decide (0 ≤ s1 ∧ s1 < lenI (a.getD [])) && decide (0 ≤ s1 ∧ s1 < lenI (b.getD []))) = true then
        if ((a.getD []).getD s1.toNat 0 != (b.getD []).getD s1.toNat 0) = true then some (Sum.inr (Sum.inl false))
        else some (Sum.inl (IntKind.i64.wrap (s1 + 1)))
      else none
    else some (Sum.inr (Sum.inr ()))
def bitextref3_SameInts : Option (List Int) → Option (List Int) → Option Bool :=
  fun a b =>
    if (lenI (a.getD []) != lenI (b.getD [])) = true then some false
    else callO (loopR (bitextref3_SameInts_l0 a b) 0) fun r1 => sumO r1 (fun r2 => some r2) fun r3 => some true
end Go.Fn
/- bitext/class.IsName -/
namespace Go.Fn
open Go Go.Vs Go.Ve
set_option linter.unusedVariables false
def class_IsName_l0 : List UInt8 → Int → Option (Int ⊕ Bool ⊕ Unit) :=
  fun s s1 =>
    if decide (s1 < lenI s) = true then
      if (decide (0 ≤ s1) && nlt s1.toNat s.length) = true then
        if
            (if decide (byteI (s.getD s1.toNat 0) ≥ 97) = true then
                !decide (byteI (s.getD s1.toNat 0) ≤ 122) &&
                  if decide (byteI (s.getD s1.toNat 0) ≥ 48) = true then
                    !decide (byteI (s.getD s1.toNat 0) ≤ 57) && !byteI (s.getD s1.toNat 0) == 45
                  else !byteI (s.getD s1.toNat 0) == 45
              else
                if decide (byteI (s.getD s1.toNat 0) ≥ 48) = true then
                  !decide (byteI (s.getD s1.toNat 0) ≤ 57) && !byteI (s.getD s1.toNat 0) == 45
                else !byteI (s.getD s1.toNat 0) == 45) =
              true then
          some (Sum.inr (Sum.inl false))
        else some (Sum.inl (IntKind.i64.wrap (s1 + 1)))
      else none
    else some (Sum.inr (Sum.inr ()))
def class_IsName : List UInt8 → Option Bool :=
  fun s =>
    if
        (decide (lenI s < 1) ||
            (decide (lenI s > 24) ||
              true && (nlt 0 s.length && (decide (byteI (s.getD 0 0) < 97) || true && nlt 0 s.length)))) =
          true then
      if
          (decide (lenI s < 1) ||
              (decide (lenI s > 24) || (decide (byteI (s.getD 0 0) < 97) || decide (byteI (s.getD 0 0) > 122)))) =
            true then
        some false
      else callO (loopR (class_IsName_l0 s) 1) fun r1 => sumO r1 (fun r2 => some r2) fun r3 => some true
    else none
end Go.Fn
/- bitext/comment.written -/
namespace Go.Fn
open Go Go.Vs Go.Ve
set_option linter.unusedVariables false
def comment_written_l0 : List UInt8 → Int → Option (Int ⊕ Bool ⊕ Unit) :=
  fun s s1 =>
    if decide (s1 < lenI s) = true then
      if
          (decide (0 ≤ s1) &&
              (nlt s1.toNat s.length &&
                (decide (byteI (s.getD s1.toNat 0) < 32) || decide (0 ≤ s1) && nlt s1.toNat s.length))) =
            true then
        if (decide (byteI (s.getD s1.toNat 0) < 32) || byteI (s.getD s1.toNat 0) == 127) = true then
          some (Sum.inr (Sum.inl false))
        else some (Sum.inl (IntKind.i64.wrap (s1 + 1)))
      else none
    else some (Sum.inr (Sum.inr ()))
def comment_written : List UInt8 → Option Bool :=
  fun s =>
    callO (loopR (comment_written_l0 s) 0) fun r1 =>
      sumO r1 (fun r2 => some r2) fun r3 => some (!decide (s = []) && decide (lenI s ≤ 500))
end Go.Fn
/- bitext/comment.Validate -/
namespace Go.Fn
open Go Go.Vs Go.Ve
set_option linter.unusedVariables false
def comment_Validate_l0 : Option (List (Int × Int × Int × List UInt8 × List UInt8 × Int × Bool)) → Int → Option (Int ⊕ Int ⊕ Unit) :=
  fun a0 s1 =>
    if decide (s1 < lenI (a0.getD [])) = true then
      if decide (0 ≤ s1 ∧ s1 < lenI (a0.getD [])) = true then
        if (((a0.getD []).getD s1.toNat (0, 0, 0, [], [], 0, false)).fst != IntKind.i64.wrap (s1 + 1)) = true then
          some (Sum.inr (Sum.inl 1))
        else
          if decide (((a0.getD []).getD s1.toNat (0, 0, 0, [], [], 0, false)).snd.fst < 1) = true then
            some (Sum.inr (Sum.inl 1))
          else
            if decide (((a0.getD []).getD s1.toNat (0, 0, 0, [], [], 0, false)).snd.snd.fst < 0) = true then
              some (Sum.inr (Sum.inl 1))
            else
              if decide (((a0.getD []).getD s1.toNat (0, 0, 0, [], [], 0, false)).snd.snd.fst > s1) = true then
                some (Sum.inr (Sum.inl 1))
              else
                if
                    decide (((a0.getD []).getD s1.toNat (0, 0, 0, [], [], 0, false)).snd.snd.snd.snd.snd.fst < 0) =
                      true then
                  some (Sum.inr (Sum.inl 1))
                else
                  if
                      decide
                          (((a0.getD []).getD s1.toNat (0, 0, 0, [], [], 0, false)).snd.snd.snd.snd.snd.fst >
                            1073741824) =
                        true then
                    some (Sum.inr (Sum.inl 1))
                  else
                    callO (comment_written ((a0.getD []).getD s1.toNat (0, 0, 0, [], [], 0, false)).snd.snd.snd.snd.fst)
                      fun r1 =>
                      if (!r1) = true then some (Sum.inr (Sum.inl 1))
                      else
                        callO (class_IsName ((a0.getD []).getD s1.toNat (0, 0, 0, [], [], 0, false)).snd.snd.snd.fst)
                          fun r2 =>
                          if (!r2) = true then some (Sum.inr (Sum.inl 4))
                          else
                            if
                                (!((a0.getD []).getD s1.toNat (0, 0, 0, [], [], 0, false)).snd.snd.fst != 0 ||
                                    decide
                                      (0 ≤
                                          IntKind.i64.wrap
                                            (((a0.getD []).getD s1.toNat (0, 0, 0, [], [], 0, false)).snd.snd.fst - 1) ∧
                                        IntKind.i64.wrap
                                            (((a0.getD []).getD s1.toNat (0, 0, 0, [], [], 0, false)).snd.snd.fst - 1) <
                                          lenI (a0.getD []))) =
                                  true then
                              if
                                  (((a0.getD []).getD s1.toNat (0, 0, 0, [], [], 0, false)).snd.snd.fst != 0 &&
                                      (((a0.getD []).getD
                                                (IntKind.i64.wrap
                                                    (((a0.getD []).getD s1.toNat
                                                              (0, 0, 0, [], [], 0, false)).snd.snd.fst -
                                                      1)).toNat
                                                (0, 0, 0, [], [], 0, false)).snd.fst !=
                                          ((a0.getD []).getD s1.toNat (0, 0, 0, [], [], 0, false)).snd.fst ||
                                        ((a0.getD []).getD s1.toNat
                                                      (0, 0, 0, [], [], 0, false)).snd.snd.snd.snd.snd.snd)) =
                                    true then
                                some (Sum.inr (Sum.inl 11))
                              else some (Sum.inl (IntKind.i64.wrap (s1 + 1)))
                            else none
      else none
    else some (Sum.inr (Sum.inr ()))
def comment_Validate : Option (List (Int × Int × Int × List UInt8 × List UInt8 × Int × Bool)) → Option Int :=
  fun a0 =>
    if decide (lenI (a0.getD []) > 512) = true then some 3
    else callO (loopR (comment_Validate_l0 a0) 0) fun r1 => sumO r1 (fun r2 => some r2) fun r3 => some 0
end Go.Fn
/- bitext/comment.root -/
namespace Go.Fn
open Go Go.Vs Go.Ve
set_option linter.unusedVariables false
def comment_root_l0 : Option (List (Int × Int × Int × List UInt8 × List UInt8 × Int × Bool)) → Int → Option (Int ⊕ Int) :=
  fun l s1 =>
    if decide (0 ≤ IntKind.i64.wrap (s1 - 1) ∧ IntKind.i64.wrap (s1 - 1) < lenI (l.getD [])) = true then
      if (((l.getD []).getD (IntKind.i64.wrap (s1 - 1)).toNat (0, 0, 0, [], [], 0, false)).snd.snd.fst == 0) = true then
        some (Sum.inr s1)
      else some (Sum.inl ((l.getD []).getD (IntKind.i64.wrap (s1 - 1)).toNat (0, 0, 0, [], [], 0, false)).snd.snd.fst)
    else none
def comment_root : Option (List (Int × Int × Int × List UInt8 × List UInt8 × Int × Bool)) → Int → Option Int :=
  fun l id => callO (loopR (comment_root_l0 l) id) fun r1 => some r1
end Go.Fn
/- slices.Clone[[]bitext/api.Note,bitext/api.Note] -/
namespace Go.Fn
open Go Go.Vs Go.Ve
set_option linter.unusedVariables false
def slices_Clone_api_Note : Option (List (Int × Int × Int × List UInt8 × List UInt8 × Int × Bool)) →
    Option (Option (List (Int × Int × Int × List UInt8 × List UInt8 × Int × Bool))) :=
  fun s =>
    if (!s.isSome) = true then some none
    else if (true && decide (0 + (s.getD []).length ≤ 68719476736)) = true then some (some ([] ++ s.getD [])) else none
end Go.Fn
/- bitext/comment.Add -/
namespace Go.Fn
open Go Go.Vs Go.Ve
set_option linter.unusedVariables false
def comment_Add : Option (List (Int × Int × Int × List UInt8 × List UInt8 × Int × Bool)) →
    Int →
      Int →
        List UInt8 →
          List UInt8 → Int → Option (Option (List (Int × Int × Int × List UInt8 × List UInt8 × Int × Bool)) × Int) :=
  fun a0 a1 a2 a3 a4 a5 =>
    callO (comment_Validate a0) fun r1 =>
      if (r1 != 0) = true then some (none, r1)
      else
        if (lenI (a0.getD []) == 512) = true then some (none, 3)
        else
          if decide (a1 < 1) = true then some (none, 1)
          else
            if decide (a5 < 0) = true then some (none, 1)
            else
              if decide (a5 > 1073741824) = true then some (none, 1)
              else
                callO (comment_written a4) fun r2 =>
                  if (!r2) = true then some (none, 1)
                  else
                    callO (class_IsName a3) fun r3 =>
                      if (!r3) = true then some (none, 4)
                      else
                        if (a2 != 0) = true then
                          if (decide (a2 < 0) || decide (a2 > lenI (a0.getD []))) = true then some (none, 6)
                          else
                            if
                                decide (0 ≤ IntKind.i64.wrap (a2 - 1) ∧ IntKind.i64.wrap (a2 - 1) < lenI (a0.getD [])) =
                                  true then
                              if
                                  (((a0.getD []).getD (IntKind.i64.wrap (a2 - 1)).toNat
                                            (0, 0, 0, [], [], 0, false)).snd.fst !=
                                      a1) =
                                    true then
                                some (none, 11)
                              else
                                callO (comment_root a0 a2) fun r4 =>
                                  if
                                      decide
                                          (0 ≤ IntKind.i64.wrap (r4 - 1) ∧
                                            IntKind.i64.wrap (r4 - 1) < lenI (a0.getD [])) =
                                        true then
                                    if
                                        ((a0.getD []).getD (IntKind.i64.wrap (r4 - 1)).toNat
                                                        (0, 0, 0, [], [], 0, false)).snd.snd.snd.snd.snd.snd =
                                          true then
                                      some (none, 8)
                                    else
                                      callO (slices_Clone_api_Note a0) fun r5 =>
                                        if
                                            (decide (0 + (r5.getD []).length = (r5.getD []).length) &&
                                                (decide
                                                    ((r5.getD []).length +
                                                        [(IntKind.i64.wrap (lenI (a0.getD []) + 1), a1, a2, a3, a4, a5,
                                                              false)].length ≤
                                                      68719476736) &&
                                                  r5.isSome == r5.isSome)) =
                                              true then
                                          some
                                            (some
                                                (r5.getD [] ++
                                                  [(IntKind.i64.wrap (lenI (a0.getD []) + 1), a1, a2, a3, a4, a5,
                                                      false)]),
                                              0)
                                        else none
                                  else none
                            else none
                        else
                          callO (slices_Clone_api_Note a0) fun r6 =>
                            if
                                (decide (0 + (r6.getD []).length = (r6.getD []).length) &&
                                    (decide
                                        ((r6.getD []).length +
                                            [(IntKind.i64.wrap (lenI (a0.getD []) + 1), a1, a2, a3, a4, a5,
                                                  false)].length ≤
                                          68719476736) &&
                                      r6.isSome == r6.isSome)) =
                                  true then
                              some
                                (some
                                    (r6.getD [] ++
                                      [(IntKind.i64.wrap (lenI (a0.getD []) + 1), a1, a2, a3, a4, a5, false)]),
                                  0)
                            else none
end Go.Fn
/- bitext/comment.Validate -/
namespace Go.Fn
open Go Go.Vs Go.Ve
set_option linter.unusedVariables false
def comment_Validate_o0_l0 : Option (List (Int × Int × Int × List UInt8 × List UInt8 × Int × Bool)) → Int → Option (Int ⊕ Int ⊕ Unit) :=
  fun a0 s1 =>
    if decide (s1 < lenI (a0.getD [])) = true then
      if (decide (0 ≤ s1 ∧ s1 < lenI (a0.getD [])) && nlt (0 + s1.toNat) (a0.getD []).length) = true then
        if (((a0.getD []).getD (0 + s1.toNat) (0, 0, 0, [], [], 0, false)).fst != IntKind.i64.wrap (s1 + 1)) = true then
          some (Sum.inr (Sum.inl 1))
        else
          if decide (((a0.getD []).getD (0 + s1.toNat) (0, 0, 0, [], [], 0, false)).snd.fst < 1) = true then
            some (Sum.inr (Sum.inl 1))
          else
            if decide (((a0.getD []).getD (0 + s1.toNat) (0, 0, 0, [], [], 0, false)).snd.snd.fst < 0) = true then
              some (Sum.inr (Sum.inl 1))
            else
              if decide (((a0.getD []).getD (0 + s1.toNat) (0, 0, 0, [], [], 0, false)).snd.snd.fst > s1) = true then
                some (Sum.inr (Sum.inl 1))
              else
                if
                    decide (((a0.getD []).getD (0 + s1.toNat) (0, 0, 0, [], [], 0, false)).snd.snd.snd.snd.snd.fst < 0) =
                      true then
                  some (Sum.inr (Sum.inl 1))
                else
                  if
                      decide
                          (((a0.getD []).getD (0 + s1.toNat) (0, 0, 0, [], [], 0, false)).snd.snd.snd.snd.snd.fst >
                            1073741824) =
                        true then
                    some (Sum.inr (Sum.inl 1))
                  else
                    callO
                      (comment_written ((a0.getD []).getD (0 + s1.toNat) (0, 0, 0, [], [], 0, false)).snd.snd.snd.snd.fst)
                      fun r1 =>
                      if (!r1) = true then some (Sum.inr (Sum.inl 1))
                      else
                        callO
                          (class_IsName ((a0.getD []).getD (0 + s1.toNat) (0, 0, 0, [], [], 0, false)).snd.snd.snd.fst)
                          fun r2 =>
                          if (!r2) = true then some (Sum.inr (Sum.inl 4))
                          else
                            if
                                (!((a0.getD []).getD (0 + s1.toNat) (0, 0, 0, [], [], 0, false)).snd.snd.fst != 0 ||
                                    decide
                                        (0 ≤
                                            IntKind.i64.wrap
                                              (((a0.getD []).getD (0 + s1.toNat)
                                                        (0, 0, 0, [], [], 0, false)).snd.snd.fst -
                                                1) ∧
                                          IntKind.i64.wrap
                                              (((a0.getD []).getD (0 + s1.toNat)
                                                        (0, 0, 0, [], [], 0, false)).snd.snd.fst -
                                                1) <
                                            lenI (a0.getD [])) &&
                                      nlt
                                        (0 +
                                          (IntKind.i64.wrap
                                              (((a0.getD []).getD (0 + s1.toNat)
                                                        (0, 0, 0, [], [], 0, false)).snd.snd.fst -
                                                1)).toNat)
                                        (a0.getD []).length) =
                                  true then
                              if
                                  (((a0.getD []).getD (0 + s1.toNat) (0, 0, 0, [], [], 0, false)).snd.snd.fst != 0 &&
                                      (((a0.getD []).getD
                                                (0 +
                                                  (IntKind.i64.wrap
                                                      (((a0.getD []).getD (0 + s1.toNat)
                                                                (0, 0, 0, [], [], 0, false)).snd.snd.fst -
                                                        1)).toNat)
                                                (0, 0, 0, [], [], 0, false)).snd.fst !=
                                          ((a0.getD []).getD (0 + s1.toNat) (0, 0, 0, [], [], 0, false)).snd.fst ||
                                        ((a0.getD []).getD (0 + s1.toNat)
                                                      (0, 0, 0, [], [], 0, false)).snd.snd.snd.snd.snd.snd)) =
                                    true then
                                some (Sum.inr (Sum.inl 11))
                              else some (Sum.inl (IntKind.i64.wrap (s1 + 1)))
                            else none
      else none
    else some (Sum.inr (Sum.inr ()))
def comment_Validate_o0 : Option (List (Int × Int × Int × List UInt8 × List UInt8 × Int × Bool)) → Option Int :=
  fun a0 =>
    if decide (lenI (a0.getD []) > 512) = true then some 3
    else callO (loopR (comment_Validate_o0_l0 a0) 0) fun r1 => sumO r1 (fun r2 => some r2) fun r3 => some 0
end Go.Fn
/- bitext/comment.root -/
namespace Go.Fn
open Go Go.Vs Go.Ve
set_option linter.unusedVariables false
def comment_root_o0_l0 : Option (List (Int × Int × Int × List UInt8 × List UInt8 × Int × Bool)) → Int → Option (Int ⊕ Int) :=
  fun l s1 =>
    if
        (decide (0 ≤ IntKind.i64.wrap (s1 - 1) ∧ IntKind.i64.wrap (s1 - 1) < lenI (l.getD [])) &&
            nlt (0 + (IntKind.i64.wrap (s1 - 1)).toNat) (l.getD []).length) =
          true then
      if
          (((l.getD []).getD (0 + (IntKind.i64.wrap (s1 - 1)).toNat) (0, 0, 0, [], [], 0, false)).snd.snd.fst == 0) =
            true then
        some (Sum.inr s1)
      else
        some (Sum.inl ((l.getD []).getD (0 + (IntKind.i64.wrap (s1 - 1)).toNat) (0, 0, 0, [], [], 0, false)).snd.snd.fst)
    else none
def comment_root_o0 : Option (List (Int × Int × Int × List UInt8 × List UInt8 × Int × Bool)) → Int → Option Int :=
  fun l id => callO (loopR (comment_root_o0_l0 l) id) fun r1 => some r1
end Go.Fn
/- slices.Clone[[]bitext/api.Note,bitext/api.Note] -/
namespace Go.Fn
open Go Go.Vs Go.Ve
set_option linter.unusedVariables false
def slices_Clone_api_Note_o0 : Option (List (Int × Int × Int × List UInt8 × List UInt8 × Int × Bool)) →
    Option (Option (List (Int × Int × Int × List UInt8 × List UInt8 × Int × Bool))) :=
  fun s =>
    if (!s.isSome) = true then some none
    else
      if (s.isSome == s.isSome && (true && decide (0 + (s.getD []).length ≤ 68719476736))) = true then
        some (some ([] ++ s.getD []))
      else none
end Go.Fn
/- bitext/comment.Add -/
namespace Go.Fn
open Go Go.Vs Go.Ve
set_option linter.unusedVariables false
def comment_Add_o0 : Option (List (Int × Int × Int × List UInt8 × List UInt8 × Int × Bool)) →
    Int →
      Int →
        List UInt8 →
          List UInt8 → Int → Option (Option (List (Int × Int × Int × List UInt8 × List UInt8 × Int × Bool)) × Int) :=
  fun a0 a1 a2 a3 a4 a5 =>
    if (a0.isSome == a0.isSome) = true then
      callO (comment_Validate_o0 a0) fun r1 =>
        if (r1 != 0) = true then some (none, r1)
        else
          if (lenI (a0.getD []) == 512) = true then some (none, 3)
          else
            if decide (a1 < 1) = true then some (none, 1)
            else
              if decide (a5 < 0) = true then some (none, 1)
              else
                if decide (a5 > 1073741824) = true then some (none, 1)
                else
                  callO (comment_written a4) fun r2 =>
                    if (!r2) = true then some (none, 1)
                    else
                      callO (class_IsName a3) fun r3 =>
                        if (!r3) = true then some (none, 4)
                        else
                          if (a2 != 0) = true then
                            if (decide (a2 < 0) || decide (a2 > lenI (a0.getD []))) = true then some (none, 6)
                            else
                              if
                                  (decide
                                        (0 ≤ IntKind.i64.wrap (a2 - 1) ∧ IntKind.i64.wrap (a2 - 1) < lenI (a0.getD [])) &&
                                      nlt (0 + (IntKind.i64.wrap (a2 - 1)).toNat) (a0.getD []).length) =
                                    true then
                                if
                                    (((a0.getD []).getD (0 + (IntKind.i64.wrap (a2 - 1)).toNat)
                                              (0, 0, 0, [], [], 0, false)).snd.fst !=
                                        a1) =
                                      true then
                                  some (none, 11)
                                else
                                  if (a0.isSome == a0.isSome) = true then
                                    callO (comment_root_o0 a0 a2) fun r4 =>
                                      if
                                          (decide
                                                (0 ≤ IntKind.i64.wrap (r4 - 1) ∧
                                                  IntKind.i64.wrap (r4 - 1) < lenI (a0.getD [])) &&
                                              nlt (0 + (IntKind.i64.wrap (r4 - 1)).toNat) (a0.getD []).length) =
                                            true then
                                        if
                                            ((a0.getD []).getD (0 + (IntKind.i64.wrap (r4 - 1)).toNat)
                                                            (0, 0, 0, [], [], 0, false)).snd.snd.snd.snd.snd.snd =
                                              true then
                                          some (none, 8)
                                        else
                                          if (a0.isSome == a0.isSome) = true then
                                            callO (slices_Clone_api_Note_o0 a0) fun r5 =>
                                              if
                                                  (decide (0 + (r5.getD []).length = (r5.getD []).length) &&
                                                      (decide
                                                          ((r5.getD []).length +
                                                              [(IntKind.i64.wrap (lenI (a0.getD []) + 1), a1, a2, a3, a4,
                                                                    a5, false)].length ≤
                                                            68719476736) &&
                                                        r5.isSome == r5.isSome)) =
                                                    true then
                                                some
                                                  (some
                                                      (r5.getD [] ++
                                                        [(IntKind.i64.wrap (lenI (a0.getD []) + 1), a1, a2, a3, a4, a5,
                                                            false)]),
                                                    0)
                                              else none
                                          else none
                                      else none
                                  else none
                              else none
                          else
                            if (a0.isSome == a0.isSome) = true then
                              callO (slices_Clone_api_Note_o0 a0) fun r6 =>
                                if
                                    (decide (0 + (r6.getD []).length = (r6.getD []).length) &&
                                        (decide
                                            ((r6.getD []).length +
                                                [(IntKind.i64.wrap (lenI (a0.getD []) + 1), a1, a2, a3, a4, a5,
                                                      false)].length ≤
                                              68719476736) &&
                                          r6.isSome == r6.isSome)) =
                                      true then
                                  some
                                    (some
                                        (r6.getD [] ++
                                          [(IntKind.i64.wrap (lenI (a0.getD []) + 1), a1, a2, a3, a4, a5, false)]),
                                      0)
                                else none
                            else none
    else none
end Go.Fn
/- bitext/comment.Close -/
namespace Go.Fn
open Go Go.Vs Go.Ve
set_option linter.unusedVariables false
def comment_Close_o0 : Option (List (Int × Int × Int × List UInt8 × List UInt8 × Int × Bool)) →
    Int → Option (Option (List (Int × Int × Int × List UInt8 × List UInt8 × Int × Bool)) × Int) :=
  fun l id =>
    if (l.isSome == l.isSome) = true then
      callO (comment_Validate_o0 l) fun r1 =>
        if (r1 != 0) = true then some (none, r1)
        else
          if (decide (id < 1) || decide (id > lenI (l.getD []))) = true then some (none, 6)
          else
            if (l.isSome == l.isSome) = true then
              callO (comment_root_o0 l id) fun r2 =>
                if
                    (decide (0 ≤ IntKind.i64.wrap (r2 - 1) ∧ IntKind.i64.wrap (r2 - 1) < lenI (l.getD [])) &&
                        nlt (0 + (IntKind.i64.wrap (r2 - 1)).toNat) (l.getD []).length) =
                      true then
                  if
                      ((l.getD []).getD (0 + (IntKind.i64.wrap (r2 - 1)).toNat)
                                      (0, 0, 0, [], [], 0, false)).snd.snd.snd.snd.snd.snd =
                        true then
                    some (none, 8)
                  else
                    if (l.isSome == l.isSome) = true then
                      callO (slices_Clone_api_Note_o0 l) fun r3 =>
                        if (r3.isSome == r3.isSome) = true then
                          if
                              (decide (0 ≤ IntKind.i64.wrap (r2 - 1) ∧ IntKind.i64.wrap (r2 - 1) < lenI (r3.getD [])) &&
                                  nlt (0 + (IntKind.i64.wrap (r2 - 1)).toNat) (r3.getD []).length) =
                                true then
                            some
                              (some
                                  ((r3.getD []).set (0 + (IntKind.i64.wrap (r2 - 1)).toNat)
                                    (((r3.getD []).getD (0 + (IntKind.i64.wrap (r2 - 1)).toNat)
                                          (0, 0, 0, [], [], 0, false)).fst,
                                      ((r3.getD []).getD (0 + (IntKind.i64.wrap (r2 - 1)).toNat)
                                            (0, 0, 0, [], [], 0, false)).snd.fst,
                                      ((r3.getD []).getD (0 + (IntKind.i64.wrap (r2 - 1)).toNat)
                                              (0, 0, 0, [], [], 0, false)).snd.snd.fst,
                                      ((r3.getD []).getD (0 + (IntKind.i64.wrap (r2 - 1)).toNat)
                                                (0, 0, 0, [], [], 0, false)).snd.snd.snd.fst,
                                      ((r3.getD []).getD (0 + (IntKind.i64.wrap (r2 - 1)).toNat)
                                                  (0, 0, 0, [], [], 0, false)).snd.snd.snd.snd.fst,
                                      ((r3.getD []).getD (0 + (IntKind.i64.wrap (r2 - 1)).toNat)
                                                    (0, 0, 0, [], [], 0, false)).snd.snd.snd.snd.snd.fst,
                                      true)),
                                0)
                          else none
                        else none
                    else none
                else none
            else none
    else none
end Go.Fn
/- bitext/comment.Open -/
namespace Go.Fn
open Go Go.Vs Go.Ve
set_option linter.unusedVariables false
def comment_Open_o0_l0 : Option (List (Int × Int × Int × List UInt8 × List UInt8 × Int × Bool)) →
    Int → Option (List Int) × Int → Option (Option (List Int) × Int ⊕ Option (List Int)) :=
  fun l segment s1 =>
    if decide (s1.snd < lenI (l.getD [])) = true then
      if
          (decide (0 ≤ s1.snd ∧ s1.snd < lenI (l.getD [])) && nlt (0 + s1.snd.toNat) (l.getD []).length &&
              (!(((l.getD []).getD (0 + s1.snd.toNat) (0, 0, 0, [], [], 0, false)).snd.fst == segment &&
                    (((l.getD []).getD (0 + s1.snd.toNat) (0, 0, 0, [], [], 0, false)).snd.snd.fst == 0 &&
                      !((l.getD []).getD (0 + s1.snd.toNat) (0, 0, 0, [], [], 0, false)).snd.snd.snd.snd.snd.snd)) ||
                decide (0 + (s1.fst.getD []).length = (s1.fst.getD []).length) &&
                  (decide
                      ((s1.fst.getD []).length +
                          [((l.getD []).getD (0 + s1.snd.toNat) (0, 0, 0, [], [], 0, false)).fst].length ≤
                        68719476736) &&
                    s1.fst.isSome == s1.fst.isSome))) =
            true then
        some
          (Sum.inl
            (if
                  (((l.getD []).getD (0 + s1.snd.toNat) (0, 0, 0, [], [], 0, false)).snd.fst == segment &&
                      (((l.getD []).getD (0 + s1.snd.toNat) (0, 0, 0, [], [], 0, false)).snd.snd.fst == 0 &&
                        !((l.getD []).getD (0 + s1.snd.toNat) (0, 0, 0, [], [], 0, false)).snd.snd.snd.snd.snd.snd)) =
                    true then
                some (s1.fst.getD [] ++ [((l.getD []).getD (0 + s1.snd.toNat) (0, 0, 0, [], [], 0, false)).fst])
              else s1.fst,
              IntKind.i64.wrap (s1.snd + 1)))
      else none
    else some (Sum.inr s1.fst)
def comment_Open_o0 : Option (List (Int × Int × Int × List UInt8 × List UInt8 × Int × Bool)) → Int → Option (Option (List Int)) :=
  fun l segment =>
    if (l.isSome == l.isSome) = true then
      callO (comment_Validate_o0 l) fun r1 =>
        if (r1 != 0) = true then some none
        else
          callO (loopR (comment_Open_o0_l0 l segment) (none, 0)) fun r2 =>
            if (r2.isSome == r2.isSome) = true then if (r2.isSome == r2.isSome) = true then some r2 else none else none
    else none
end Go.Fn
/- bitext/comment.Thread -/
namespace Go.Fn
open Go Go.Vs Go.Ve
set_option linter.unusedVariables false
def comment_Thread_o0_l0 : Option (List (Int × Int × Int × List UInt8 × List UInt8 × Int × Bool)) →
    Int → Option (List Int) × Int → Option (Option (List Int) × Int ⊕ Option (List Int)) :=
  fun l id s1 =>
    if decide (s1.snd < lenI (l.getD [])) = true then
      if (decide (0 ≤ s1.snd ∧ s1.snd < lenI (l.getD [])) && nlt (0 + s1.snd.toNat) (l.getD []).length) = true then
        if (l.isSome == l.isSome) = true then
          callO (comment_root_o0 l ((l.getD []).getD (0 + s1.snd.toNat) (0, 0, 0, [], [], 0, false)).fst) fun r1 =>
            if (l.isSome == l.isSome) = true then
              callO (comment_root_o0 l id) fun r2 =>
                if
                    (!r1 == r2 ||
                        decide (0 + (s1.fst.getD []).length = (s1.fst.getD []).length) &&
                          (decide
                              ((s1.fst.getD []).length +
                                  [((l.getD []).getD (0 + s1.snd.toNat) (0, 0, 0, [], [], 0, false)).fst].length ≤
                                68719476736) &&
                            s1.fst.isSome == s1.fst.isSome)) =
                      true then
                  some
                    (Sum.inl
                      (if (r1 == r2) = true then
                          some (s1.fst.getD [] ++ [((l.getD []).getD (0 + s1.snd.toNat) (0, 0, 0, [], [], 0, false)).fst])
                        else s1.fst,
                        IntKind.i64.wrap (s1.snd + 1)))
                else none
            else none
        else none
      else none
    else some (Sum.inr s1.fst)
def comment_Thread_o0 : Option (List (Int × Int × Int × List UInt8 × List UInt8 × Int × Bool)) → Int → Option (Option (List Int)) :=
  fun l id =>
    if (l.isSome == l.isSome) = true then
      callO (comment_Validate_o0 l) fun r1 =>
        if (r1 != 0 || (decide (id < 1) || decide (id > lenI (l.getD [])))) = true then some none
        else
          callO (loopR (comment_Thread_o0_l0 l id) (none, 0)) fun r2 =>
            if (r2.isSome == r2.isSome) = true then if (r2.isSome == r2.isSome) = true then some r2 else none
            else none
    else none
end Go.Fn
/- bitext/bitextlaw31.known -/
namespace Go.Fn
open Go Go.Vs Go.Ve
set_option linter.unusedVariables false
def bitextlaw31_known : Option Bool :=
  callO (comment_Add none 4 0 [97, 110, 110] [119, 104, 121, 63] 1) fun r1 =>
    if (r1.fst.isSome == r1.fst.isSome && (r1.fst.isSome == r1.fst.isSome && r1.fst.isSome == r1.fst.isSome)) = true then
      if (r1.fst.isSome == r1.fst.isSome) = true then
        callO (comment_Add_o0 r1.fst 4 1 [98, 111, 98] [115, 111] 2) fun r2 =>
          if
              (r2.fst.isSome == r2.fst.isSome && (r2.fst.isSome == r2.fst.isSome && r2.fst.isSome == r2.fst.isSome)) =
                true then
            if (r2.fst.isSome == r2.fst.isSome) = true then
              callO (comment_Add_o0 r2.fst 4 2 [97, 110, 110] [111, 107] 3) fun r3 =>
                if
                    (r3.fst.isSome == r3.fst.isSome &&
                        (r3.fst.isSome == r3.fst.isSome && r3.fst.isSome == r3.fst.isSome)) =
                      true then
                  if (r3.fst.isSome == r3.fst.isSome) = true then
                    callO (comment_Close_o0 r3.fst 3) fun r4 =>
                      if
                          (r4.fst.isSome == r4.fst.isSome &&
                              (r4.fst.isSome == r4.fst.isSome && r4.fst.isSome == r4.fst.isSome)) =
                            true then
                        if (r4.fst.isSome == r4.fst.isSome) = true then
                          callO (comment_Add_o0 r4.fst 4 1 [98, 111, 98] [110, 111] 4) fun r5 =>
                            if
                                (r5.fst.isSome == r5.fst.isSome &&
                                    (r5.fst.isSome == r5.fst.isSome && r5.fst.isSome == r5.fst.isSome)) =
                                  true then
                              if (r1.snd == 0) = true then
                                if (r2.snd == 0) = true then
                                  if (r3.snd == 0) = true then
                                    if (r4.snd == 0) = true then
                                      if (r5.snd == 8) = true then
                                        if (r3.fst.isSome == r3.fst.isSome) = true then
                                          callO (comment_Thread_o0 r3.fst 2) fun r6 =>
                                            if (r6.isSome == r6.isSome) = true then
                                              callO (bitextref3_SameInts r6 (some [1, 2, 3])) fun r7 =>
                                                if r7 = true then
                                                  if (r3.fst.isSome == r3.fst.isSome) = true then
                                                    callO (comment_Open_o0 r3.fst 4) fun r8 =>
                                                      if (r8.isSome == r8.isSome) = true then
                                                        callO (bitextref3_SameInts r8 (some [1])) fun r9 =>
                                                          if r9 = true then
                                                            if (r4.fst.isSome == r4.fst.isSome) = true then
                                                              callO (comment_Open_o0 r4.fst 4) fun r10 =>
                                                                some (lenI (r10.getD []) == 0)
                                                            else none
                                                          else some false
                                                      else none
                                                  else none
                                                else some false
                                            else none
                                        else none
                                      else some false
                                    else some false
                                  else some false
                                else some false
                              else some false
                            else none
                        else none
                      else none
                  else none
                else none
            else none
          else none
      else none
    else none
end Go.Fn
/- bitext/bitextmake.Place -/
namespace Go.Fn
open Go Go.Vs Go.Ve
set_option linter.unusedVariables false
def bitextmake_Place : Int → Int → Option Int :=
  fun x n =>
    if decide (n ≠ 0) = true then
      some (if decide (x.tmod n < 0) = true then IntKind.i64.wrap (x.tmod n + n) else x.tmod n)
    else none
end Go.Fn
/- bitext/bitextref1.IsName -/
namespace Go.Fn
open Go Go.Vs Go.Ve
set_option linter.unusedVariables false
def bitextref1_IsName_l0 : List UInt8 → Int → Option (Int ⊕ Bool ⊕ Unit) :=
  fun s s1 =>
    if decide (s1 < lenI s) = true then
      if (decide (0 ≤ s1) && nlt s1.toNat s.length) = true then
        if
            (if decide (byteI (s.getD s1.toNat 0) ≥ 97) = true then
                decide (byteI (s.getD s1.toNat 0) ≤ 122) ||
                  decide (s1 > 0) &&
                    if decide (byteI (s.getD s1.toNat 0) ≥ 48) = true then
                      decide (byteI (s.getD s1.toNat 0) ≤ 57) || byteI (s.getD s1.toNat 0) == 45
                    else byteI (s.getD s1.toNat 0) == 45
              else
                decide (s1 > 0) &&
                  if decide (byteI (s.getD s1.toNat 0) ≥ 48) = true then
                    decide (byteI (s.getD s1.toNat 0) ≤ 57) || byteI (s.getD s1.toNat 0) == 45
                  else byteI (s.getD s1.toNat 0) == 45) =
              true then
          some (Sum.inl (IntKind.i64.wrap (s1 + 1)))
        else some (Sum.inr (Sum.inl false))
      else none
    else some (Sum.inr (Sum.inr ()))
def bitextref1_IsName : List UInt8 → Option Bool :=
  fun s =>
    if (decide (lenI s < 1) || decide (lenI s > 24)) = true then some false
    else callO (loopR (bitextref1_IsName_l0 s) 0) fun r1 => sumO r1 (fun r2 => some r2) fun r3 => some true
end Go.Fn
/- bitext/bitextref28.text -/
namespace Go.Fn
open Go Go.Vs Go.Ve
set_option linter.unusedVariables false
def bitextref28_text_l0 : List UInt8 → Int → Option (Int ⊕ Bool ⊕ Unit) :=
  fun s s1 =>
    if decide (s1 < lenI s) = true then
      if
          (decide (0 ≤ s1) &&
              (nlt s1.toNat s.length &&
                (decide (byteI (s.getD s1.toNat 0) < 32) || decide (0 ≤ s1) && nlt s1.toNat s.length))) =
            true then
        if (decide (byteI (s.getD s1.toNat 0) < 32) || byteI (s.getD s1.toNat 0) == 127) = true then
          some (Sum.inr (Sum.inl false))
        else some (Sum.inl (IntKind.i64.wrap (s1 + 1)))
      else none
    else some (Sum.inr (Sum.inr ()))
def bitextref28_text : List UInt8 → Option Bool :=
  fun s =>
    callO (loopR (bitextref28_text_l0 s) 0) fun r1 =>
      sumO r1 (fun r2 => some r2) fun r3 => some (!decide (s = []) && decide (lenI s ≤ 500))
end Go.Fn
/- bitext/bitextref28.ValidateNotes -/
namespace Go.Fn
open Go Go.Vs Go.Ve
set_option linter.unusedVariables false
def bitextref28_ValidateNotes_l0 : Option (List (Int × Int × Int × List UInt8 × List UInt8 × Int × Bool)) → Int → Option (Int ⊕ Int ⊕ Unit) :=
  fun a0 s1 =>
    if decide (s1 < lenI (a0.getD [])) = true then
      if decide (0 ≤ s1 ∧ s1 < lenI (a0.getD [])) = true then
        if (((a0.getD []).getD s1.toNat (0, 0, 0, [], [], 0, false)).fst != IntKind.i64.wrap (s1 + 1)) = true then
          some (Sum.inr (Sum.inl 1))
        else
          if decide (((a0.getD []).getD s1.toNat (0, 0, 0, [], [], 0, false)).snd.fst < 1) = true then
            some (Sum.inr (Sum.inl 1))
          else
            if decide (((a0.getD []).getD s1.toNat (0, 0, 0, [], [], 0, false)).snd.snd.fst < 0) = true then
              some (Sum.inr (Sum.inl 1))
            else
              if
                  decide
                      (((a0.getD []).getD s1.toNat (0, 0, 0, [], [], 0, false)).snd.snd.fst ≥
                        ((a0.getD []).getD s1.toNat (0, 0, 0, [], [], 0, false)).fst) =
                    true then
                some (Sum.inr (Sum.inl 1))
              else
                if
                    decide (((a0.getD []).getD s1.toNat (0, 0, 0, [], [], 0, false)).snd.snd.snd.snd.snd.fst < 0) =
                      true then
                  some (Sum.inr (Sum.inl 1))
                else
                  if
                      decide
                          (((a0.getD []).getD s1.toNat (0, 0, 0, [], [], 0, false)).snd.snd.snd.snd.snd.fst >
                            1073741824) =
                        true then
                    some (Sum.inr (Sum.inl 1))
                  else
                    callO (bitextref28_text ((a0.getD []).getD s1.toNat (0, 0, 0, [], [], 0, false)).snd.snd.snd.snd.fst)
                      fun r1 =>
                      if (!r1) = true then some (Sum.inr (Sum.inl 1))
                      else
                        callO (bitextref1_IsName ((a0.getD []).getD s1.toNat (0, 0, 0, [], [], 0, false)).snd.snd.snd.fst)
                          fun r2 =>
                          if (!r2) = true then some (Sum.inr (Sum.inl 4))
                          else
                            if
                                (!decide (((a0.getD []).getD s1.toNat (0, 0, 0, [], [], 0, false)).snd.snd.fst > 0) ||
                                    decide
                                      (0 ≤
                                          IntKind.i64.wrap
                                            (((a0.getD []).getD s1.toNat (0, 0, 0, [], [], 0, false)).snd.snd.fst - 1) ∧
                                        IntKind.i64.wrap
                                            (((a0.getD []).getD s1.toNat (0, 0, 0, [], [], 0, false)).snd.snd.fst - 1) <
                                          lenI (a0.getD []))) =
                                  true then
                              if
                                  (decide (((a0.getD []).getD s1.toNat (0, 0, 0, [], [], 0, false)).snd.snd.fst > 0) &&
                                      (((a0.getD []).getD s1.toNat (0, 0, 0, [], [], 0, false)).snd.fst !=
                                          ((a0.getD []).getD
                                                (IntKind.i64.wrap
                                                    (((a0.getD []).getD s1.toNat
                                                              (0, 0, 0, [], [], 0, false)).snd.snd.fst -
                                                      1)).toNat
                                                (0, 0, 0, [], [], 0, false)).snd.fst ||
                                        ((a0.getD []).getD s1.toNat
                                                      (0, 0, 0, [], [], 0, false)).snd.snd.snd.snd.snd.snd)) =
                                    true then
                                some (Sum.inr (Sum.inl 11))
                              else some (Sum.inl (IntKind.i64.wrap (s1 + 1)))
                            else none
      else none
    else some (Sum.inr (Sum.inr ()))
def bitextref28_ValidateNotes : Option (List (Int × Int × Int × List UInt8 × List UInt8 × Int × Bool)) → Option Int :=
  fun a0 =>
    if decide (lenI (a0.getD []) > 512) = true then some 3
    else callO (loopR (bitextref28_ValidateNotes_l0 a0) 0) fun r1 => sumO r1 (fun r2 => some r2) fun r3 => some 0
end Go.Fn
/- bitext/bitextref28.root -/
namespace Go.Fn
open Go Go.Vs Go.Ve
set_option linter.unusedVariables false
def bitextref28_root_l0 : Option (List (Int × Int × Int × List UInt8 × List UInt8 × Int × Bool)) → Int → Option (Int ⊕ Int) :=
  fun l s1 =>
    if decide (0 ≤ IntKind.i64.wrap (s1 - 1) ∧ IntKind.i64.wrap (s1 - 1) < lenI (l.getD [])) = true then
      if
          decide (((l.getD []).getD (IntKind.i64.wrap (s1 - 1)).toNat (0, 0, 0, [], [], 0, false)).snd.snd.fst > 0) =
            true then
        if decide (0 ≤ IntKind.i64.wrap (s1 - 1) ∧ IntKind.i64.wrap (s1 - 1) < lenI (l.getD [])) = true then
          some (Sum.inl ((l.getD []).getD (IntKind.i64.wrap (s1 - 1)).toNat (0, 0, 0, [], [], 0, false)).snd.snd.fst)
        else none
      else some (Sum.inr s1)
    else none
def bitextref28_root : Option (List (Int × Int × Int × List UInt8 × List UInt8 × Int × Bool)) → Int → Option Int :=
  fun l id => callO (loopR (bitextref28_root_l0 l) id) fun r1 => some r1
end Go.Fn
/- bitext/bitextref28.AddNote -/
namespace Go.Fn
open Go Go.Vs Go.Ve
set_option linter.unusedVariables false
def bitextref28_AddNote : Option (List (Int × Int × Int × List UInt8 × List UInt8 × Int × Bool)) →
    Int →
      Int →
        List UInt8 →
          List UInt8 → Int → Option (Option (List (Int × Int × Int × List UInt8 × List UInt8 × Int × Bool)) × Int) :=
  fun a0 a1 a2 a3 a4 a5 =>
    callO (bitextref28_ValidateNotes a0) fun r1 =>
      if (r1 != 0) = true then some (none, r1)
      else
        if decide (lenI (a0.getD []) ≥ 512) = true then some (none, 3)
        else
          if decide (a1 < 1) = true then some (none, 1)
          else
            if decide (a5 < 0) = true then some (none, 1)
            else
              if decide (a5 > 1073741824) = true then some (none, 1)
              else
                callO (bitextref28_text a4) fun r2 =>
                  if (!r2) = true then some (none, 1)
                  else
                    callO (bitextref1_IsName a3) fun r3 =>
                      if (!r3) = true then some (none, 4)
                      else
                        if (a2 != 0) = true then
                          if (decide (a2 < 1) || decide (a2 > lenI (a0.getD []))) = true then some (none, 6)
                          else
                            if
                                decide (0 ≤ IntKind.i64.wrap (a2 - 1) ∧ IntKind.i64.wrap (a2 - 1) < lenI (a0.getD [])) =
                                  true then
                              if
                                  (((a0.getD []).getD (IntKind.i64.wrap (a2 - 1)).toNat
                                            (0, 0, 0, [], [], 0, false)).snd.fst !=
                                      a1) =
                                    true then
                                some (none, 11)
                              else
                                callO (bitextref28_root a0 a2) fun r4 =>
                                  if
                                      decide
                                          (0 ≤ IntKind.i64.wrap (r4 - 1) ∧
                                            IntKind.i64.wrap (r4 - 1) < lenI (a0.getD [])) =
                                        true then
                                    if
                                        ((a0.getD []).getD (IntKind.i64.wrap (r4 - 1)).toNat
                                                        (0, 0, 0, [], [], 0, false)).snd.snd.snd.snd.snd.snd =
                                          true then
                                      some (none, 8)
                                    else
                                      if
                                          (true &&
                                              (decide (0 + (a0.getD []).length ≤ 68719476736) &&
                                                (decide (0 + ([] ++ a0.getD []).length = ([] ++ a0.getD []).length) &&
                                                  decide
                                                    (([] ++ a0.getD []).length +
                                                        [(IntKind.i64.wrap (lenI (a0.getD []) + 1), a1, a2, a3, a4, a5,
                                                              false)].length ≤
                                                      68719476736)))) =
                                            true then
                                        some
                                          (some
                                              ([] ++ a0.getD [] ++
                                                [(IntKind.i64.wrap (lenI (a0.getD []) + 1), a1, a2, a3, a4, a5, false)]),
                                            0)
                                      else none
                                  else none
                            else none
                        else
                          if
                              (true &&
                                  (decide (0 + (a0.getD []).length ≤ 68719476736) &&
                                    (decide (0 + ([] ++ a0.getD []).length = ([] ++ a0.getD []).length) &&
                                      decide
                                        (([] ++ a0.getD []).length +
                                            [(IntKind.i64.wrap (lenI (a0.getD []) + 1), a1, a2, a3, a4, a5,
                                                  false)].length ≤
                                          68719476736)))) =
                                true then
                            some
                              (some
                                  ([] ++ a0.getD [] ++
                                    [(IntKind.i64.wrap (lenI (a0.getD []) + 1), a1, a2, a3, a4, a5, false)]),
                                0)
                          else none
end Go.Fn
/- bitext/bitextref28.ValidateNotes -/
namespace Go.Fn
open Go Go.Vs Go.Ve
set_option linter.unusedVariables false
def bitextref28_ValidateNotes_o0_l0 : Option (List (Int × Int × Int × List UInt8 × List UInt8 × Int × Bool)) → Int → Option (Int ⊕ Int ⊕ Unit) :=
  fun a0 s1 =>
    if decide (s1 < lenI (a0.getD [])) = true then
      if (decide (0 ≤ s1 ∧ s1 < lenI (a0.getD [])) && nlt (0 + s1.toNat) (a0.getD []).length) = true then
        if (((a0.getD []).getD (0 + s1.toNat) (0, 0, 0, [], [], 0, false)).fst != IntKind.i64.wrap (s1 + 1)) = true then
          some (Sum.inr (Sum.inl 1))
        else
          if decide (((a0.getD []).getD (0 + s1.toNat) (0, 0, 0, [], [], 0, false)).snd.fst < 1) = true then
            some (Sum.inr (Sum.inl 1))
          else
            if decide (((a0.getD []).getD (0 + s1.toNat) (0, 0, 0, [], [], 0, false)).snd.snd.fst < 0) = true then
              some (Sum.inr (Sum.inl 1))
            else
              if
                  decide
                      (((a0.getD []).getD (0 + s1.toNat) (0, 0, 0, [], [], 0, false)).snd.snd.fst ≥
                        ((a0.getD []).getD (0 + s1.toNat) (0, 0, 0, [], [], 0, false)).fst) =
                    true then
                some (Sum.inr (Sum.inl 1))
              else
                if
                    decide (((a0.getD []).getD (0 + s1.toNat) (0, 0, 0, [], [], 0, false)).snd.snd.snd.snd.snd.fst < 0) =
                      true then
                  some (Sum.inr (Sum.inl 1))
                else
                  if
                      decide
                          (((a0.getD []).getD (0 + s1.toNat) (0, 0, 0, [], [], 0, false)).snd.snd.snd.snd.snd.fst >
                            1073741824) =
                        true then
                    some (Sum.inr (Sum.inl 1))
                  else
                    callO
                      (bitextref28_text
                        ((a0.getD []).getD (0 + s1.toNat) (0, 0, 0, [], [], 0, false)).snd.snd.snd.snd.fst)
                      fun r1 =>
                      if (!r1) = true then some (Sum.inr (Sum.inl 1))
                      else
                        callO
                          (bitextref1_IsName
                            ((a0.getD []).getD (0 + s1.toNat) (0, 0, 0, [], [], 0, false)).snd.snd.snd.fst)
                          fun r2 =>
                          if (!r2) = true then some (Sum.inr (Sum.inl 4))
                          else
                            if
                                (!decide
                                        (((a0.getD []).getD (0 + s1.toNat) (0, 0, 0, [], [], 0, false)).snd.snd.fst >
                                          0) ||
                                    decide
                                        (0 ≤
                                            IntKind.i64.wrap
                                              (((a0.getD []).getD (0 + s1.toNat)
                                                        (0, 0, 0, [], [], 0, false)).snd.snd.fst -
                                                1) ∧
                                          IntKind.i64.wrap
                                              (((a0.getD []).getD (0 + s1.toNat)
                                                        (0, 0, 0, [], [], 0, false)).snd.snd.fst -
                                                1) <
                                            lenI (a0.getD [])) &&
                                      nlt
                                        (0 +
                                          (IntKind.i64.wrap
                                              (((a0.getD []).getD (0 + s1.toNat)
                                                        (0, 0, 0, [], [], 0, false)).snd.snd.fst -
                                                1)).toNat)
                                        (a0.getD []).length) =
                                  true then
                              if
                                  (decide
                                        (((a0.getD []).getD (0 + s1.toNat) (0, 0, 0, [], [], 0, false)).snd.snd.fst >
                                          0) &&
                                      (((a0.getD []).getD (0 + s1.toNat) (0, 0, 0, [], [], 0, false)).snd.fst !=
                                          ((a0.getD []).getD
                                                (0 +
                                                  (IntKind.i64.wrap
                                                      (((a0.getD []).getD (0 + s1.toNat)
                                                                (0, 0, 0, [], [], 0, false)).snd.snd.fst -
                                                        1)).toNat)
                                                (0, 0, 0, [], [], 0, false)).snd.fst ||
                                        ((a0.getD []).getD (0 + s1.toNat)
                                                      (0, 0, 0, [], [], 0, false)).snd.snd.snd.snd.snd.snd)) =
                                    true then
                                some (Sum.inr (Sum.inl 11))
                              else some (Sum.inl (IntKind.i64.wrap (s1 + 1)))
                            else none
      else none
    else some (Sum.inr (Sum.inr ()))
def bitextref28_ValidateNotes_o0 : Option (List (Int × Int × Int × List UInt8 × List UInt8 × Int × Bool)) → Option Int :=
  fun a0 =>
    if decide (lenI (a0.getD []) > 512) = true then some 3
    else callO (loopR (bitextref28_ValidateNotes_o0_l0 a0) 0) fun r1 => sumO r1 (fun r2 => some r2) fun r3 => some 0
end Go.Fn
/- bitext/bitextref28.root -/
namespace Go.Fn
open Go Go.Vs Go.Ve
set_option linter.unusedVariables false
def bitextref28_root_o0_l0 : Option (List (Int × Int × Int × List UInt8 × List UInt8 × Int × Bool)) → Int → Option (Int ⊕ Int) :=
  fun l s1 =>
    if
        (decide (0 ≤ IntKind.i64.wrap (s1 - 1) ∧ IntKind.i64.wrap (s1 - 1) < lenI (l.getD [])) &&
            nlt (0 + (IntKind.i64.wrap (s1 - 1)).toNat) (l.getD []).length) =
          true then
      if
          decide
              (((l.getD []).getD (0 + (IntKind.i64.wrap (s1 - 1)).toNat) (0, 0, 0, [], [], 0, false)).snd.snd.fst > 0) =
            true then
        if
            (decide (0 ≤ IntKind.i64.wrap (s1 - 1) ∧ IntKind.i64.wrap (s1 - 1) < lenI (l.getD [])) &&
                nlt (0 + (IntKind.i64.wrap (s1 - 1)).toNat) (l.getD []).length) =
              true then
          some
            (Sum.inl ((l.getD []).getD (0 + (IntKind.i64.wrap (s1 - 1)).toNat) (0, 0, 0, [], [], 0, false)).snd.snd.fst)
        else none
      else some (Sum.inr s1)
    else none
def bitextref28_root_o0 : Option (List (Int × Int × Int × List UInt8 × List UInt8 × Int × Bool)) → Int → Option Int :=
  fun l id => callO (loopR (bitextref28_root_o0_l0 l) id) fun r1 => some r1
end Go.Fn
/- bitext/bitextref28.AddNote -/
namespace Go.Fn
open Go Go.Vs Go.Ve
set_option linter.unusedVariables false
def bitextref28_AddNote_o0 : Option (List (Int × Int × Int × List UInt8 × List UInt8 × Int × Bool)) →
    Int →
      Int →
        List UInt8 →
          List UInt8 → Int → Option (Option (List (Int × Int × Int × List UInt8 × List UInt8 × Int × Bool)) × Int) :=
  fun a0 a1 a2 a3 a4 a5 =>
    if (a0.isSome == a0.isSome) = true then
      callO (bitextref28_ValidateNotes_o0 a0) fun r1 =>
        if (r1 != 0) = true then some (none, r1)
        else
          if decide (lenI (a0.getD []) ≥ 512) = true then some (none, 3)
          else
            if decide (a1 < 1) = true then some (none, 1)
            else
              if decide (a5 < 0) = true then some (none, 1)
              else
                if decide (a5 > 1073741824) = true then some (none, 1)
                else
                  callO (bitextref28_text a4) fun r2 =>
                    if (!r2) = true then some (none, 1)
                    else
                      callO (bitextref1_IsName a3) fun r3 =>
                        if (!r3) = true then some (none, 4)
                        else
                          if (a2 != 0) = true then
                            if (decide (a2 < 1) || decide (a2 > lenI (a0.getD []))) = true then some (none, 6)
                            else
                              if
                                  (decide
                                        (0 ≤ IntKind.i64.wrap (a2 - 1) ∧ IntKind.i64.wrap (a2 - 1) < lenI (a0.getD [])) &&
                                      nlt (0 + (IntKind.i64.wrap (a2 - 1)).toNat) (a0.getD []).length) =
                                    true then
                                if
                                    (((a0.getD []).getD (0 + (IntKind.i64.wrap (a2 - 1)).toNat)
                                              (0, 0, 0, [], [], 0, false)).snd.fst !=
                                        a1) =
                                      true then
                                  some (none, 11)
                                else
                                  if (a0.isSome == a0.isSome) = true then
                                    callO (bitextref28_root_o0 a0 a2) fun r4 =>
                                      if
                                          (decide
                                                (0 ≤ IntKind.i64.wrap (r4 - 1) ∧
                                                  IntKind.i64.wrap (r4 - 1) < lenI (a0.getD [])) &&
                                              nlt (0 + (IntKind.i64.wrap (r4 - 1)).toNat) (a0.getD []).length) =
                                            true then
                                        if
                                            ((a0.getD []).getD (0 + (IntKind.i64.wrap (r4 - 1)).toNat)
                                                            (0, 0, 0, [], [], 0, false)).snd.snd.snd.snd.snd.snd =
                                              true then
                                          some (none, 8)
                                        else
                                          if
                                              (a0.isSome == a0.isSome &&
                                                  (true &&
                                                    (decide (0 + (a0.getD []).length ≤ 68719476736) &&
                                                      (decide
                                                          (0 + ([] ++ a0.getD []).length = ([] ++ a0.getD []).length) &&
                                                        decide
                                                          (([] ++ a0.getD []).length +
                                                              [(IntKind.i64.wrap (lenI (a0.getD []) + 1), a1, a2, a3, a4,
                                                                    a5, false)].length ≤
                                                            68719476736))))) =
                                                true then
                                            some
                                              (some
                                                  ([] ++ a0.getD [] ++
                                                    [(IntKind.i64.wrap (lenI (a0.getD []) + 1), a1, a2, a3, a4, a5,
                                                        false)]),
                                                0)
                                          else none
                                      else none
                                  else none
                              else none
                          else
                            if
                                (a0.isSome == a0.isSome &&
                                    (true &&
                                      (decide (0 + (a0.getD []).length ≤ 68719476736) &&
                                        (decide (0 + ([] ++ a0.getD []).length = ([] ++ a0.getD []).length) &&
                                          decide
                                            (([] ++ a0.getD []).length +
                                                [(IntKind.i64.wrap (lenI (a0.getD []) + 1), a1, a2, a3, a4, a5,
                                                      false)].length ≤
                                              68719476736))))) =
                                  true then
                              some
                                (some
                                    ([] ++ a0.getD [] ++
                                      [(IntKind.i64.wrap (lenI (a0.getD []) + 1), a1, a2, a3, a4, a5, false)]),
                                  0)
                            else none
    else none
end Go.Fn
/- bitext/bitextref28.SameNotes -/
namespace Go.Fn
open Go Go.Vs Go.Ve
set_option linter.unusedVariables false
def bitextref28_SameNotes_o0_1_l0 : Option (List (Int × Int × Int × List UInt8 × List UInt8 × Int × Bool)) →
    Option (List (Int × Int × Int × List UInt8 × List UInt8 × Int × Bool)) → Int → Option (Int ⊕ Bool ⊕ Unit) :=
  fun a b s1 =>
    if decide (s1 < lenI (a.getD [])) = true then
      if
          (decide (0 ≤ s1 ∧ s1 < lenI (a.getD [])) &&
              (nlt (0 + s1.toNat) (a.getD []).length &&
                (decide (0 ≤ s1 ∧ s1 < lenI (b.getD [])) && nlt (0 + s1.toNat) (b.getD []).length))) =
            true then
        if
            (!(((a.getD []).getD (0 + s1.toNat) (0, 0, 0, [], [], 0, false)).fst ==
                    ((b.getD []).getD (0 + s1.toNat) (0, 0, 0, [], [], 0, false)).fst &&
                  (((a.getD []).getD (0 + s1.toNat) (0, 0, 0, [], [], 0, false)).snd.fst ==
                      ((b.getD []).getD (0 + s1.toNat) (0, 0, 0, [], [], 0, false)).snd.fst &&
                    (((a.getD []).getD (0 + s1.toNat) (0, 0, 0, [], [], 0, false)).snd.snd.fst ==
                        ((b.getD []).getD (0 + s1.toNat) (0, 0, 0, [], [], 0, false)).snd.snd.fst &&
                      (decide
                          (((a.getD []).getD (0 + s1.toNat) (0, 0, 0, [], [], 0, false)).snd.snd.snd.fst =
                            ((b.getD []).getD (0 + s1.toNat) (0, 0, 0, [], [], 0, false)).snd.snd.snd.fst) &&
                        (decide
                            (((a.getD []).getD (0 + s1.toNat) (0, 0, 0, [], [], 0, false)).snd.snd.snd.snd.fst =
                              ((b.getD []).getD (0 + s1.toNat) (0, 0, 0, [], [], 0, false)).snd.snd.snd.snd.fst) &&
                          (((a.getD []).getD (0 + s1.toNat) (0, 0, 0, [], [], 0, false)).snd.snd.snd.snd.snd.fst ==
                              ((b.getD []).getD (0 + s1.toNat) (0, 0, 0, [], [], 0, false)).snd.snd.snd.snd.snd.fst &&
                            (((a.getD []).getD (0 + s1.toNat) (0, 0, 0, [], [], 0, false)).snd.snd.snd.snd.snd.snd ==
                                ((b.getD []).getD (0 + s1.toNat) (0, 0, 0, [], [], 0, false)).snd.snd.snd.snd.snd.snd &&
                              true)))))))) =
              true then
          some (Sum.inr (Sum.inl false))
        else some (Sum.inl (IntKind.i64.wrap (s1 + 1)))
      else none
    else some (Sum.inr (Sum.inr ()))
def bitextref28_SameNotes_o0_1 : Option (List (Int × Int × Int × List UInt8 × List UInt8 × Int × Bool)) →
    Option (List (Int × Int × Int × List UInt8 × List UInt8 × Int × Bool)) → Option Bool :=
  fun a b =>
    if (lenI (a.getD []) != lenI (b.getD [])) = true then some false
    else callO (loopR (bitextref28_SameNotes_o0_1_l0 a b) 0) fun r1 => sumO r1 (fun r2 => some r2) fun r3 => some true
end Go.Fn
/- bitext/bitextlaw31.CommentLimits -/
namespace Go.Fn
open Go Go.Vs Go.Ve
set_option linter.unusedVariables false
def bitextlaw31_CommentLimits_l0 : Option (List (Int × Int × Int × List UInt8 × List UInt8 × Int × Bool)) × Int →
    Option
      (Option (List (Int × Int × Int × List UInt8 × List UInt8 × Int × Bool)) × Int ⊕
        Option (List (Int × Int × Int × List UInt8 × List UInt8 × Int × Bool))) :=
  fun s1 =>
    if decide (s1.snd > 0) = true then
      if
          (decide (0 + (s1.fst.getD []).length = (s1.fst.getD []).length) &&
              (decide
                  ((s1.fst.getD []).length +
                      [(IntKind.i64.wrap (lenI (s1.fst.getD []) + 1), 1, 0, [97, 110, 110], [116], 0, false)].length ≤
                    68719476736) &&
                s1.fst.isSome == s1.fst.isSome)) =
            true then
        some
          (Sum.inl
            (some
                (s1.fst.getD [] ++
                  [(IntKind.i64.wrap (lenI (s1.fst.getD []) + 1), 1, 0, [97, 110, 110], [116], 0, false)]),
              IntKind.i64.wrap (s1.snd - 1)))
      else none
    else some (Sum.inr s1.fst)
def bitextlaw31_CommentLimits_l1 : Int → List Int × Int → Option (List Int × Int ⊕ List Int) :=
  fun r1 s1 =>
    if decide (s1.snd < lenI (List.replicate (IntKind.i64.wrap (499 + r1)).toNat (0 : Int))) = true then
      if (decide (0 ≤ s1.snd ∧ s1.snd < lenI s1.fst) && nlt (0 + s1.snd.toNat) s1.fst.length) = true then
        some (Sum.inl (s1.fst.set (0 + s1.snd.toNat) 120, IntKind.i64.wrap (s1.snd + 1)))
      else none
    else some (Sum.inr s1.fst)
def bitextlaw31_CommentLimits : Int → Int → Option Bool :=
  fun a0 a1 =>
    callO (bitextmake_Place a0 3) fun r1 =>
      callO (loopR bitextlaw31_CommentLimits_l0 (none, IntKind.i64.wrap (IntKind.i64.wrap (r1 + 512) - 1))) fun r2 =>
        callO (bitextmake_Place a1 3) fun r3 =>
          if
              decide
                  (0 ≤ IntKind.i64.wrap (499 + r3) ∧
                    IntKind.i64.wrap (499 + r3) ≤ IntKind.i64.wrap (499 + r3) ∧
                      IntKind.i64.wrap (499 + r3) ≤ 68719476736) =
                true then
            callO (loopR (bitextlaw31_CommentLimits_l1 r3) (List.replicate (IntKind.i64.wrap (499 + r3)).toNat 0, 0))
              fun r4 =>
              if (r2.isSome == r2.isSome) = true then
                callO (comment_Add_o0 r2 1 0 [97, 110, 110] [116] 0) fun r5 =>
                  if
                      (r5.fst.isSome == r5.fst.isSome &&
                          (r5.fst.isSome == r5.fst.isSome && r5.fst.isSome == r5.fst.isSome)) =
                        true then
                    if (r2.isSome == r2.isSome) = true then
                      callO (bitextref28_AddNote_o0 r2 1 0 [97, 110, 110] [116] 0) fun r6 =>
                        if
                            (r6.fst.isSome == r6.fst.isSome &&
                                (r6.fst.isSome == r6.fst.isSome && r6.fst.isSome == r6.fst.isSome)) =
                              true then
                          callO (comment_Add none 1 0 [97, 110, 110] (ofBytesI r4) 0) fun r7 =>
                            if
                                (r7.fst.isSome == r7.fst.isSome &&
                                    (r7.fst.isSome == r7.fst.isSome && r7.fst.isSome == r7.fst.isSome)) =
                                  true then
                              callO (bitextref28_AddNote none 1 0 [97, 110, 110] (ofBytesI r4) 0) fun r8 =>
                                if
                                    (r8.fst.isSome == r8.fst.isSome &&
                                        (r8.fst.isSome == r8.fst.isSome && r8.fst.isSome == r8.fst.isSome)) =
                                      true then
                                  if (r5.snd == r6.snd) = true then
                                    if (r7.snd == r8.snd) = true then
                                      if (r5.fst.isSome == r5.fst.isSome) = true then
                                        if (r6.fst.isSome == r6.fst.isSome) = true then
                                          callO (bitextref28_SameNotes_o0_1 r5.fst r6.fst) fun r9 =>
                                            if r9 = true then
                                              if (r7.fst.isSome == r7.fst.isSome) = true then
                                                if (r8.fst.isSome == r8.fst.isSome) = true then
                                                  callO (bitextref28_SameNotes_o0_1 r7.fst r8.fst) fun r10 =>
                                                    if r10 = true then callO bitextlaw31_known fun r11 => some r11
                                                    else some false
                                                else none
                                              else none
                                            else some false
                                        else none
                                      else none
                                    else some false
                                  else some false
                                else none
                            else none
                        else none
                    else none
                  else none
              else none
          else none
end Go.Fn
/- Plain laws: whole numbers of 64 bits, Place. -/
namespace Go.Fn
open Go Go.Vs Go.Ve
def In64 (n : Int) : Prop := -9223372036854775808 ≤ n ∧ n ≤ 9223372036854775807
theorem Wf_ints {o : Option (List Int)} (h : Wf (.sl (.int .i64)) o) : ∀ x ∈ o.getD [], In64 x := by
  cases o with
  | none => intro x hx; cases hx
  | some xs => exact h
theorem fdiv63 {n : Int} (h : In64 n) : n.fdiv 9223372036854775808 = if n < 0 then -1 else 0 := by
  rw [Int.fdiv_eq_ediv_of_nonneg _ (by decide)]
  unfold In64 at h
  split <;> omega
theorem wrap_u64 {n : Int} (h : In64 n) : IntKind.u64.wrap n = if n < 0 then n + 18446744073709551616 else n := by
  unfold In64 at h
  simp only [IntKind.wrap, IntKind.bits, IntKind.signed]
  simp
  split <;> omega
theorem place_eq {x n : Int} (hx : In64 x) (hn : 1 ≤ n) (hn2 : n ≤ 4611686018427387904) : bitextmake_Place x n = some (x % n) := by
  unfold In64 at hx
  unfold bitextmake_Place
  rw [if_pos (by simp; omega)]
  congr 1
  have h0 := Int.emod_nonneg x (show n ≠ 0 by omega)
  have h1 := Int.emod_lt_of_pos x (show 0 < n by omega)
  rcases Int.lt_or_le x 0 with h | h
  · have e : x.tmod n = if n ∣ x then 0 else x % n - n := by
      rw [Int.tmod_eq_emod]
      split <;> rename_i hd
      · rcases hd with hd | hd
        · omega
        · rw [if_pos hd]; have := Int.emod_eq_zero_of_dvd hd; omega
      · rw [if_neg (fun hd' => hd (.inr hd'))]
        omega
    rw [e]
    split <;> rename_i hd
    · simp [Int.emod_eq_zero_of_dvd hd]
    · rw [if_pos (by simp; omega), wrap_i64 (by omega) (by omega)]; omega
  · rw [Int.tmod_eq_emod_of_nonneg h, if_neg (by simp; omega)]
end Go.Fn
/- Plain laws: loops that look at things one by one and end at the first that tells. -/
namespace Go.Fn
open Go Go.Vs Go.Ve
/-! ## One step -/
theorem ifT {α : Sort _} {c : Prop} [Decidable c] {a b x : α} (h : c) (k : a = x) : (if c then a else b) = x := (if_pos h).trans k
theorem ifF {α : Sort _} {c : Prop} [Decidable c] {a b x : α} (h : ¬ c) (k : b = x) : (if c then a else b) = x := (if_neg h).trans k
/-- a condition that is a decided statement -/
theorem dcT {α : Sort _} {c : Prop} [Decidable c] {a b x : α} (h : c) (k : a = x) : (if decide c = true then a else b) = x := (if_pos (decide_eq_true h)).trans k
theorem dcF {α : Sort _} {c : Prop} [Decidable c] {a b x : α} (h : ¬ c) (k : b = x) : (if decide c = true then a else b) = x := (if_neg (by simpa using h)).trans k
/-- a condition that says nothing -/
theorem sfT {α : Sort _} {b : Bool} {x y z : α} (k : x = z) : (if (b == b) = true then x else y) = z := (if_pos (beq_self_eq_true b)).trans k
theorem callT {ρ α : Type} {o : Option ρ} {v : ρ} {f : ρ → Option α} {x : Option α} (h : o = some v) (k : f v = x) : callO o f = x := by rw [h]; exact k
/-- two cases on both sides -/
theorem ifL {α β : Sort _} {F : α → β} {c c' : Prop} [Decidable c] [Decidable c'] {a b : α} {A B : β} (h : c ↔ c') (h1 : c' → A = F a) (h2 : ¬ c' → B = F b) : (if c then A else B) = F (if c' then a else b) := by
  by_cases hc : c
  · rw [if_pos hc, if_pos (h.1 hc)]; exact h1 (h.1 hc)
  · rw [if_neg hc, if_neg fun q => hc (h.2 q)]; exact h2 fun q => hc (h.2 q)
/-- the first that tells, among k from i on -/
def scan {ρ : Type} (e : Nat → Option ρ) : Nat → Nat → Option ρ
  | _, 0 => none
  | i, k + 1 => match e i with
    | some r => some r
    | none => scan e (i + 1) k
theorem scan_none {ρ : Type} {e : Nat → Option ρ} : ∀ (k i : Nat), scan e i k = none ↔ ∀ j, i ≤ j → j < i + k → e j = none
  | 0, i => by simp [scan]; intro j h1 h2; omega
  | k + 1, i => by
    unfold scan
    constructor
    · intro h j h1 h2
      cases he : e i with
      | some r => rw [he] at h; cases h
      | none =>
        rw [he] at h
        rcases Nat.eq_or_lt_of_le h1 with rfl | h3
        · exact he
        · exact (scan_none k (i + 1)).1 h j h3 (by omega)
    · intro h
      rw [h i (Nat.le_refl _) (by omega)]
      exact (scan_none k (i + 1)).2 fun j h1 h2 => h j (by omega) (by omega)
theorem scan_some {ρ : Type} {e : Nat → Option ρ} {r : ρ} : ∀ {k i : Nat}, scan e i k = some r → ∃ j, i ≤ j ∧ j < i + k ∧ e j = some r
  | 0, i, h => by simp [scan] at h
  | k + 1, i, h => by
    unfold scan at h
    cases he : e i with
    | some x => rw [he] at h; cases h; exact ⟨i, Nat.le_refl _, by omega, he⟩
    | none =>
      rw [he] at h
      obtain ⟨j, h1, h2, h3⟩ := scan_some h
      exact ⟨j, by omega, by omega, h3⟩
theorem scan_congr {ρ : Type} {e e' : Nat → Option ρ} : ∀ (k i : Nat), (∀ j, i ≤ j → j < i + k → e j = e' j) → scan e i k = scan e' i k
  | 0, _, _ => rfl
  | k + 1, i, h => by
    unfold scan
    rw [h i (Nat.le_refl _) (by omega), scan_congr k (i + 1) fun j h1 h2 => h j (by omega) (by omega)]
def toSum {ρ : Type} : Option ρ → ρ ⊕ Unit
  | some r => .inl r
  | none => .inr ()
/-- what one round gives -/
def outS {ρ : Type} (i : Nat) (o : Option ρ) : Option (Int ⊕ ρ ⊕ Unit) := match o with
  | none => some (.inl ((i + 1 : Nat) : Int))
  | some r => some (.inr (.inl r))
theorem iterN_scan {ρ : Type} {f : Int → Option (Int ⊕ ρ ⊕ Unit)} (n : Nat) (e : Nat → Option ρ)
    (step : ∀ i, i < n → f (i : Int) = outS i (e i)) (stop : f (n : Int) = some (.inr (.inr ()))) :
    ∀ (k i m : Nat), i + k = n → k < m → iterN f m (i : Int) = some (toSum (scan e i k))
  | 0, i, m, hi, hm => by
    obtain ⟨m, rfl⟩ : ∃ q, m = q + 1 := ⟨m - 1, by omega⟩
    have : i = n := by omega
    subst this
    unfold iterN
    rw [stop]; rfl
  | k + 1, i, m, hi, hm => by
    obtain ⟨m, rfl⟩ : ∃ q, m = q + 1 := ⟨m - 1, by omega⟩
    unfold iterN scan
    rw [step i (by omega)]
    cases e i with
    | some r => rfl
    | none => exact iterN_scan n e step stop k (i + 1) m (by omega) (by omega)
theorem loopR_scan {ρ : Type} {f : Int → Option (Int ⊕ ρ ⊕ Unit)} (n : Nat) (e : Nat → Option ρ) (i : Nat)
    (step : ∀ i, i < n → f (i : Int) = outS i (e i)) (stop : f (n : Int) = some (.inr (.inr ()))) (hi : i ≤ n) (hn : n < fuel) :
    loopR f (i : Int) = some (toSum (scan e i (n - i))) :=
  iterN_scan n e step stop (n - i) i fuel (by omega) (by omega)
theorem loopR_scan0 {ρ : Type} {f : Int → Option (Int ⊕ ρ ⊕ Unit)} (n : Nat) (e : Nat → Option ρ)
    (step : ∀ i, i < n → f (i : Int) = outS i (e i)) (stop : f (n : Int) = some (.inr (.inr ()))) (hn : n < fuel) :
    loopR f 0 = some (toSum (scan e 0 n)) := loopR_scan n e 0 step stop (Nat.zero_le _) hn
theorem sum_scan {ρ α : Type} (o : Option ρ) (k : ρ → Option α) (d : Option α) : sumO (toSum o) k (fun _ => d) = match o with | some r => k r | none => d := by cases o <;> rfl
/-- a loop whose state after each round is known -/
theorem iterN_range {σ ρ : Type} {f : σ → Option (σ ⊕ ρ)} (n : Nat) (st : Nat → σ) {r : ρ} (step : ∀ i, i < n → f (st i) = some (.inl (st (i + 1)))) (stop : f (st n) = some (.inr r)) :
    ∀ (k i m : Nat), i + k = n → k < m → iterN f m (st i) = some r
  | 0, i, m, hi, hm => by
    obtain ⟨m, rfl⟩ : ∃ q, m = q + 1 := ⟨m - 1, by omega⟩
    have : i = n := by omega
    subst this
    unfold iterN
    rw [stop]
  | k + 1, i, m, hi, hm => by
    obtain ⟨m, rfl⟩ : ∃ q, m = q + 1 := ⟨m - 1, by omega⟩
    unfold iterN
    rw [step i (by omega)]
    exact iterN_range n st step stop k (i + 1) m (by omega) (by omega)
theorem loopR_range {σ ρ : Type} {f : σ → Option (σ ⊕ ρ)} (n : Nat) (st : Nat → σ) {r : ρ} (step : ∀ i, i < n → f (st i) = some (.inl (st (i + 1)))) (stop : f (st n) = some (.inr r)) (hn : n < fuel) : loopR f (st 0) = some r :=
  iterN_range n st step stop n 0 fuel (by omega) (by omega)
theorem guard_nlt2 {α : Type} {xs : List α} {i : Int} {r : Bool} : (decide (0 ≤ i ∧ i < lenI xs) && (nlt i.toNat xs.length && r)) = (decide (0 ≤ i ∧ i < lenI xs) && r) := by
  rw [← Bool.and_assoc, guard_nlt]
theorem guard0 {α : Type} {xs : List α} {k : Nat} (h : k < xs.length) : (decide (0 ≤ (k : Int) ∧ (k : Int) < lenI xs) && nlt (0 + ((k : Int)).toNat) xs.length) = true := by
  rw [Nat.zero_add, guard_nlt]; exact decide_eq_true ⟨by omega, by rw [lenI_eq]; omega⟩
/-- a list that begins as nil and to which is appended -/
def accL {α : Type} (l : List α) : Option (List α) := match l with
  | [] => none
  | x :: r => some (x :: r)
@[simp] theorem accL_getD {α : Type} (l : List α) : (accL l).getD [] = l := by cases l <;> rfl
theorem accL_snoc {α : Type} (l : List α) (x : α) : some ((accL l).getD [] ++ [x]) = accL (l ++ [x]) := by cases l <;> rfl
/-- a byte of a text -/
theorem byteI_lo (b : UInt8) : 0 ≤ byteI b := Int.natCast_nonneg _
theorem byteI_hi (b : UInt8) : byteI b < 256 := by unfold byteI; have := b.toNat_lt; omega
theorem byte_in {s : List UInt8} {k : Nat} (h : k < s.length) : (decide (0 ≤ (k : Int)) && nlt ((k : Int)).toNat s.length) = true := by
  rw [Bool.and_eq_true, decide_eq_true_iff, nlt_iff]; omega
theorem byteD {s : List UInt8} {k : Nat} (h : k < s.length) {d : UInt8} : s.getD ((k : Int)).toNat d = s[k] := by
  rw [Int.toNat_natCast, List.getD_eq_getElem?_getD, List.getElem?_eq_getElem h]; rfl
/-- a place of a list, by its number less one -/
theorem inRange {α : Type} {xs : List α} {p : Int} (h0 : 1 ≤ p) (h1 : p ≤ (xs.length : Int)) (h2 : (xs.length : Int) ≤ 4611686018427387904) :
    IntKind.i64.wrap (p - 1) = p - 1 ∧ decide (0 ≤ p - 1 ∧ p - 1 < lenI xs) = true := by
  refine ⟨wrap_i64 (by omega) (by omega), decide_eq_true ?_⟩
  rw [lenI_eq]; omega
end Go.Fn
/- Plain laws of the comments: texts, names, which lists are valid. -/
namespace Go.Fn
open Go Go.Vs Go.Ve
abbrev Note := Int × Int × Int × List UInt8 × List UInt8 × Int × Bool
def note0 : Note := (0, 0, 0, [], [], 0, false)
/-! ## Texts -/
def badByte (s : List UInt8) (i : Nat) : Option Bool := if byteI (s.getD i 0) < 32 ∨ byteI (s.getD i 0) = 127 then some false else none
def textOk (s : List UInt8) : Bool := match scan (badByte s) 0 s.length with | some _ => false | none => !decide (s = []) && decide (lenI s ≤ 500)
theorem badByte_false {s : List UInt8} {i : Nat} {r : Bool} (h : badByte s i = some r) : r = false := by
  unfold badByte at h
  split at h <;> cases h; rfl
theorem text_eq {s : List UInt8} (hl : s.length ≤ 4611686018427387904) : bitextref28_text s = some (textOk s) := by
  unfold bitextref28_text
  rw [loopR_scan0 s.length (badByte s), callO_some, sum_scan]
  · unfold textOk
    cases h : scan (badByte s) 0 s.length with
    | none => rfl
    | some r =>
      obtain ⟨j, _, _, hj⟩ := scan_some h
      rw [badByte_false hj]
  · intro i hi
    unfold bitextref28_text_l0
    have hb := byte_in hi
    rw [Bool.and_eq_true] at hb
    refine (rangeIn1 hi).trans (ifT (by rw [hb.1, hb.2]; simp) ?_)
    rw [Int.toNat_natCast, wrap_succ hi hl]
    unfold badByte
    generalize byteI (s.getD i 0) = n
    by_cases h3 : n < 32 <;> by_cases h4 : n = 127 <;> simp [h3, h4, outS]
  · unfold bitextref28_text_l0
    exact rangeOut
  · exact Nat.lt_of_le_of_lt hl (by decide)
theorem written_eq {s : List UInt8} (hl : s.length ≤ 4611686018427387904) : comment_written s = some (textOk s) := (show comment_written s = bitextref28_text s from rfl).trans (text_eq hl)
/-! ## Names -/
def low (n : Int) : Prop := 97 ≤ n ∧ n ≤ 122
def nameByte (n : Int) : Prop := low n ∨ (48 ≤ n ∧ n ≤ 57) ∨ n = 45
instance (n : Int) : Decidable (low n) := inferInstanceAs (Decidable (_ ∧ _))
instance (n : Int) : Decidable (nameByte n) := inferInstanceAs (Decidable (_ ∨ _))
def badName (s : List UInt8) (i : Nat) : Option Bool := if nameByte (byteI (s.getD i 0)) then none else some false
def nameOk (s : List UInt8) : Bool := decide (1 ≤ s.length) && decide (s.length ≤ 24) && decide (low (byteI (s.getD 0 0))) && (scan (badName s) 1 (s.length - 1)).isNone
theorem badName_false {s : List UInt8} {i : Nat} {r : Bool} (h : badName s i = some r) : r = false := by
  unfold badName at h
  split at h <;> cases h; rfl
theorem name_eq (s : List UInt8) : class_IsName s = some (nameOk s) := by
  unfold class_IsName nameOk
  have hb0 := byteI_lo (s.getD 0 0)
  by_cases h1 : s.length < 1
  · have e1 : decide (lenI s < 1) = true := decide_eq_true (by rw [lenI_eq]; omega)
    have e2 : decide (1 ≤ s.length) = false := decide_eq_false (by omega)
    simp only [e1, e2, Bool.true_or, if_true, Bool.false_and]
  have e1 : decide (lenI s < 1) = false := decide_eq_false (by rw [lenI_eq]; omega)
  have e2 : decide (1 ≤ s.length) = true := decide_eq_true (by omega)
  by_cases h2 : s.length > 24
  · have e3 : decide (lenI s > 24) = true := decide_eq_true (by rw [lenI_eq]; omega)
    have e4 : decide (s.length ≤ 24) = false := decide_eq_false (by omega)
    simp only [e1, e2, e3, e4, Bool.true_or, Bool.false_or, if_true, Bool.false_and, Bool.and_false]
  have e3 : decide (lenI s > 24) = false := decide_eq_false (by rw [lenI_eq]; omega)
  have e4 : decide (s.length ≤ 24) = true := decide_eq_true (by omega)
  have e5 : nlt 0 s.length = true := (nlt_iff _ _).2 (by omega)
  simp only [e1, e2, e3, e4, e5, Bool.true_or, Bool.false_or, Bool.true_and, Bool.and_true, Bool.or_true, if_true]
  by_cases h3 : low (byteI (s.getD 0 0))
  · have h3' := h3
    unfold low at h3'
    have e6 : (decide (byteI (s.getD 0 0) < 97) || decide (byteI (s.getD 0 0) > 122)) = false := by
      rw [Bool.or_eq_false_iff, decide_eq_false_iff_not, decide_eq_false_iff_not]; omega
    rw [e6, if_neg (by simp), show (1 : Int) = ((1 : Nat) : Int) from rfl, loopR_scan s.length (badName s) 1, callO_some, sum_scan, decide_eq_true h3, Bool.true_and]
    · cases h : scan (badName s) 1 (s.length - 1) with
      | none => rfl
      | some r =>
        obtain ⟨j, _, _, hj⟩ := scan_some h
        rw [badName_false hj]; rfl
    · intro i hi
      unfold class_IsName_l0
      refine (rangeIn1 hi).trans (ifT (byte_in hi) ?_)
      rw [wrap_succ hi (by omega), Int.toNat_natCast]
      unfold badName nameByte low
      generalize byteI (s.getD i 0) = n
      by_cases c1 : 97 ≤ n <;> by_cases c2 : n ≤ 122 <;> by_cases c3 : 48 ≤ n <;> by_cases c4 : n ≤ 57 <;> by_cases c5 : n = 45 <;> first | omega | simp [c1, c2, c3, c4, c5, outS]
    · unfold class_IsName_l0
      exact rangeOut
    · omega
    · unfold fuel; omega
  · have h3' := h3
    unfold low at h3'
    have e6 : (decide (byteI (s.getD 0 0) < 97) || decide (byteI (s.getD 0 0) > 122)) = true := by
      rw [Bool.or_eq_true, decide_eq_true_iff, decide_eq_true_iff]; omega
    rw [e6, if_pos rfl, decide_eq_false h3, Bool.false_and]
theorem name1_eq (s : List UInt8) : bitextref1_IsName s = some (nameOk s) := by
  unfold bitextref1_IsName nameOk
  by_cases h1 : s.length < 1
  · have e1 : decide (lenI s < 1) = true := decide_eq_true (by rw [lenI_eq]; omega)
    have e2 : decide (1 ≤ s.length) = false := decide_eq_false (by omega)
    simp only [e1, e2, Bool.true_or, if_true, Bool.false_and]
  have e1 : decide (lenI s < 1) = false := decide_eq_false (by rw [lenI_eq]; omega)
  have e2 : decide (1 ≤ s.length) = true := decide_eq_true (by omega)
  by_cases h2 : s.length > 24
  · have e3 : decide (lenI s > 24) = true := decide_eq_true (by rw [lenI_eq]; omega)
    have e4 : decide (s.length ≤ 24) = false := decide_eq_false (by omega)
    simp only [e1, e2, e3, e4, Bool.or_true, if_true, Bool.and_false, Bool.false_and]
  have e3 : decide (lenI s > 24) = false := decide_eq_false (by rw [lenI_eq]; omega)
  have e4 : decide (s.length ≤ 24) = true := decide_eq_true (by omega)
  simp only [e1, e2, e3, e4, Bool.or_false, Bool.true_and, Bool.false_eq_true, if_false]
  have key := loopR_scan0 (f := bitextref1_IsName_l0 s) s.length (fun i => if i = 0 then (if low (byteI (s.getD 0 0)) then none else some false) else badName s i) ?_ ?_ ?_
  · rw [key, callO_some, sum_scan]
    obtain ⟨m, hm⟩ : ∃ m, s.length = m + 1 := ⟨s.length - 1, by omega⟩
    rw [hm, scan, if_pos rfl, Nat.zero_add, Nat.add_sub_cancel]
    rw [scan_congr (e' := badName s) m 1 (fun j h1 _ => by rw [if_neg (by omega)])]
    by_cases h3 : low (byteI (s.getD 0 0))
    · rw [if_pos h3, decide_eq_true h3, Bool.true_and]
      cases h : scan (badName s) 1 m with
      | none => rfl
      | some r =>
        obtain ⟨j, _, _, hj⟩ := scan_some h
        rw [badName_false hj]; rfl
    · rw [if_neg h3, decide_eq_false h3, Bool.false_and]
  · intro i hi
    unfold bitextref1_IsName_l0
    refine (rangeIn1 hi).trans (ifT (byte_in hi) ?_)
    rw [wrap_succ hi (by omega), Int.toNat_natCast]
    by_cases h0 : i = 0
    · subst h0
      unfold low
      rw [if_pos rfl]
      generalize byteI (s.getD 0 0) = n
      by_cases c1 : 97 ≤ n <;> by_cases c2 : n ≤ 122 <;> by_cases c3 : 48 ≤ n <;> by_cases c4 : n ≤ 57 <;> by_cases c5 : n = 45 <;> first | omega | simp [c1, c2, c3, c4, c5, outS]
    · have hp : decide ((i : Int) > 0) = true := decide_eq_true (by omega)
      rw [if_neg h0, hp]
      unfold badName nameByte low
      generalize byteI (s.getD i 0) = n
      by_cases c1 : 97 ≤ n <;> by_cases c2 : n ≤ 122 <;> by_cases c3 : 48 ≤ n <;> by_cases c4 : n ≤ 57 <;> by_cases c5 : n = 45 <;> first | omega | simp [c1, c2, c3, c4, c5, outS]
  · unfold bitextref1_IsName_l0
    exact rangeOut
  · unfold fuel; omega
/-! ## Which lists are valid -/
def nget (l : List Note) (i : Nat) : Note := l.getD i note0
/-- the first error of a comment -/
def nerr (l : List Note) (i : Nat) : Option Int :=
  let x := nget l i
  if x.1 ≠ (i : Int) + 1 then some 1 else if x.2.1 < 1 then some 1 else if x.2.2.1 < 0 then some 1 else if x.2.2.1 > (i : Int) then some 1
  else if x.2.2.2.2.2.1 < 0 then some 1 else if x.2.2.2.2.2.1 > 1073741824 then some 1
  else if textOk x.2.2.2.2.1 = false then some 1
  else if nameOk x.2.2.2.1 = false then some 4
  else if x.2.2.1 ≠ 0 ∧ ((nget l (x.2.2.1 - 1).toNat).2.1 ≠ x.2.1 ∨ x.2.2.2.2.2.2 = true) then some 11
  else none
def nvalid (l : List Note) : Int := if l.length > 512 then 3 else (scan (nerr l) 0 l.length).getD 0
/-- texts that are not too long to be counted -/
def NotesOk (l : List Note) : Prop := ∀ x ∈ l, In64 x.1 ∧ In64 x.2.2.1 ∧ x.2.2.2.2.1.length ≤ 4611686018427387904 ∧ In64 x.2.2.2.2.2.1
theorem nget_mem {l : List Note} {i : Nat} (h : i < l.length) : nget l i ∈ l := by
  unfold nget
  rw [List.getD_eq_getElem?_getD, List.getElem?_eq_getElem h]
  exact List.getElem_mem h
theorem Validate_eq {l : Option (List Note)} (h : NotesOk (l.getD [])) : comment_Validate l = some (nvalid (l.getD [])) := by
  unfold comment_Validate nvalid
  by_cases h5 : (l.getD []).length > 512
  · rw [if_pos h5]; exact dcT (by rw [lenI_eq]; omega) rfl
  rw [if_neg h5]
  refine dcF (by rw [lenI_eq]; omega) ?_
  rw [loopR_scan0 (l.getD []).length (nerr (l.getD []))]
  · rw [callO_some, sum_scan]
    cases scan (nerr (l.getD [])) 0 (l.getD []).length <;> rfl
  · intro i hi
    have hm := h _ (nget_mem hi)
    unfold comment_Validate_l0 nerr
    refine (rangeIn hi).trans ?_
    rw [Int.toNat_natCast]
    generalize hx : nget (l.getD []) i = x at hm
    have hx' : (l.getD []).getD i (0, 0, 0, [], [], 0, false) = x := hx
    rw [hx', wrap_succ hi (by omega)]
    obtain ⟨id, seg, par, user, text, time, closed⟩ := x
    obtain ⟨hm1, hm3, hm4, hm5⟩ := hm
    dsimp only at hm1 hm3 hm4 hm5 ⊢
    refine ifL (by rw [bne_iff_ne]; omega) (fun _ => rfl) fun c1 => ifL decide_eq_true_iff (fun _ => rfl) fun c2 => ifL decide_eq_true_iff (fun _ => rfl) fun c3 => ifL decide_eq_true_iff (fun _ => rfl) fun c4 =>
      ifL decide_eq_true_iff (fun _ => rfl) fun c5 => ifL decide_eq_true_iff (fun _ => rfl) fun c6 => ?_
    refine callT (written_eq hm4) (ifL (by simp) (fun _ => rfl) fun c7 => callT (name_eq _) (ifL (by simp) (fun _ => rfl) fun c8 => ?_))
    have hin : (!par != 0 || decide (0 ≤ IntKind.i64.wrap (par - 1) ∧ IntKind.i64.wrap (par - 1) < lenI (l.getD []))) = true := by
      by_cases hp : par = 0
      · simp [hp]
      · rw [(inRange (xs := l.getD []) (p := par) (by omega) (by omega) (by omega)).1, (inRange (xs := l.getD []) (p := par) (by omega) (by omega) (by omega)).2, Bool.or_true]
    refine ifT hin (ifL ?_ (fun _ => rfl) fun _ => rfl)
    by_cases hp : par = 0
    · simp [hp]
    · rw [(inRange (xs := l.getD []) (p := par) (by omega) (by omega) (by omega)).1]
      simp only [Bool.and_eq_true, bne_iff_ne, Bool.or_eq_true]
      rfl
  · unfold comment_Validate_l0
    exact rangeOut
  · unfold fuel; omega
theorem ValidateNotes_eq {l : Option (List Note)} (h : NotesOk (l.getD [])) : bitextref28_ValidateNotes l = some (nvalid (l.getD [])) := by
  unfold bitextref28_ValidateNotes nvalid
  by_cases h5 : (l.getD []).length > 512
  · rw [if_pos h5]; exact dcT (by rw [lenI_eq]; omega) rfl
  rw [if_neg h5]
  refine dcF (by rw [lenI_eq]; omega) ?_
  rw [loopR_scan0 (l.getD []).length (nerr (l.getD []))]
  · rw [callO_some, sum_scan]
    cases scan (nerr (l.getD [])) 0 (l.getD []).length <;> rfl
  · intro i hi
    have hm := h _ (nget_mem hi)
    unfold bitextref28_ValidateNotes_l0 nerr
    refine (rangeIn hi).trans ?_
    rw [Int.toNat_natCast]
    generalize hx : nget (l.getD []) i = x at hm
    have hx' : (l.getD []).getD i (0, 0, 0, [], [], 0, false) = x := hx
    rw [hx', wrap_succ hi (by omega)]
    obtain ⟨id, seg, par, user, text, time, closed⟩ := x
    obtain ⟨hm1, hm3, hm4, hm5⟩ := hm
    dsimp only at hm1 hm3 hm4 hm5 ⊢
    refine ifL (by rw [bne_iff_ne]; omega) (fun _ => rfl) fun c1 => ifL decide_eq_true_iff (fun _ => rfl) fun c2 => ifL decide_eq_true_iff (fun _ => rfl) fun c3 => ifL (by rw [decide_eq_true_iff]; omega) (fun _ => rfl) fun c4 =>
      ifL decide_eq_true_iff (fun _ => rfl) fun c5 => ifL decide_eq_true_iff (fun _ => rfl) fun c6 => ?_
    refine callT (text_eq hm4) (ifL (by simp) (fun _ => rfl) fun c7 => callT (name1_eq _) (ifL (by simp) (fun _ => rfl) fun c8 => ?_))
    by_cases hp : par = 0
    · refine ifT (by simp [hp]) (ifL ?_ (fun _ => rfl) fun _ => rfl)
      simp [hp]
    · have hpos : decide (par > 0) = true := decide_eq_true (by omega)
      have hr := inRange (xs := l.getD []) (p := par) (by omega) (by omega) (by omega)
      refine ifT (by rw [hr.1, hr.2, Bool.or_true]) (ifL ?_ (fun _ => rfl) fun _ => rfl)
      rw [hpos, hr.1]
      simp only [Bool.true_and, bne_iff_ne, Bool.or_eq_true]
      have e : ∀ a b : Int, a ≠ b ↔ b ≠ a := fun a b => ⟨Ne.symm, Ne.symm⟩
      rw [e seg]
      exact ⟨fun q => ⟨hp, q⟩, fun q => q.2⟩
  · unfold bitextref28_ValidateNotes_l0
    exact rangeOut
  · unfold fuel; omega
end Go.Fn
/- bitext/comment.Close -/
namespace Go.Fn
open Go Go.Vs Go.Ve
set_option linter.unusedVariables false
def comment_Close : Option (List (Int × Int × Int × List UInt8 × List UInt8 × Int × Bool)) →
    Int → Option (Option (List (Int × Int × Int × List UInt8 × List UInt8 × Int × Bool)) × Int) :=
  fun l id =>
    callO (comment_Validate l) fun r1 =>
      if (r1 != 0) = true then some (none, r1)
      else
        if (decide (id < 1) || decide (id > lenI (l.getD []))) = true then some (none, 6)
        else
          callO (comment_root l id) fun r2 =>
            if decide (0 ≤ IntKind.i64.wrap (r2 - 1) ∧ IntKind.i64.wrap (r2 - 1) < lenI (l.getD [])) = true then
              if
                  ((l.getD []).getD (IntKind.i64.wrap (r2 - 1)).toNat
                                  (0, 0, 0, [], [], 0, false)).snd.snd.snd.snd.snd.snd =
                    true then
                some (none, 8)
              else
                callO (slices_Clone_api_Note l) fun r3 =>
                  if (r3.isSome == r3.isSome) = true then
                    if
                        (decide (0 ≤ IntKind.i64.wrap (r2 - 1) ∧ IntKind.i64.wrap (r2 - 1) < lenI (r3.getD [])) &&
                            nlt (0 + (IntKind.i64.wrap (r2 - 1)).toNat) (r3.getD []).length) =
                          true then
                      some
                        (some
                            ((r3.getD []).set (0 + (IntKind.i64.wrap (r2 - 1)).toNat)
                              (((r3.getD []).getD (0 + (IntKind.i64.wrap (r2 - 1)).toNat)
                                    (0, 0, 0, [], [], 0, false)).fst,
                                ((r3.getD []).getD (0 + (IntKind.i64.wrap (r2 - 1)).toNat)
                                      (0, 0, 0, [], [], 0, false)).snd.fst,
                                ((r3.getD []).getD (0 + (IntKind.i64.wrap (r2 - 1)).toNat)
                                        (0, 0, 0, [], [], 0, false)).snd.snd.fst,
                                ((r3.getD []).getD (0 + (IntKind.i64.wrap (r2 - 1)).toNat)
                                          (0, 0, 0, [], [], 0, false)).snd.snd.snd.fst,
                                ((r3.getD []).getD (0 + (IntKind.i64.wrap (r2 - 1)).toNat)
                                            (0, 0, 0, [], [], 0, false)).snd.snd.snd.snd.fst,
                                ((r3.getD []).getD (0 + (IntKind.i64.wrap (r2 - 1)).toNat)
                                              (0, 0, 0, [], [], 0, false)).snd.snd.snd.snd.snd.fst,
                                true)),
                          0)
                    else none
                  else none
            else none
end Go.Fn
/- bitext/comment.Thread -/
namespace Go.Fn
open Go Go.Vs Go.Ve
set_option linter.unusedVariables false
def comment_Thread_l0 : Option (List (Int × Int × Int × List UInt8 × List UInt8 × Int × Bool)) →
    Int → Option (List Int) × Int → Option (Option (List Int) × Int ⊕ Option (List Int)) :=
  fun l id s1 =>
    if decide (s1.snd < lenI (l.getD [])) = true then
      if decide (0 ≤ s1.snd ∧ s1.snd < lenI (l.getD [])) = true then
        callO (comment_root l ((l.getD []).getD s1.snd.toNat (0, 0, 0, [], [], 0, false)).fst) fun r1 =>
          callO (comment_root l id) fun r2 =>
            if
                (!r1 == r2 ||
                    decide (0 + (s1.fst.getD []).length = (s1.fst.getD []).length) &&
                      (decide
                          ((s1.fst.getD []).length +
                              [((l.getD []).getD s1.snd.toNat (0, 0, 0, [], [], 0, false)).fst].length ≤
                            68719476736) &&
                        s1.fst.isSome == s1.fst.isSome)) =
                  true then
              some
                (Sum.inl
                  (if (r1 == r2) = true then
                      some (s1.fst.getD [] ++ [((l.getD []).getD s1.snd.toNat (0, 0, 0, [], [], 0, false)).fst])
                    else s1.fst,
                    IntKind.i64.wrap (s1.snd + 1)))
            else none
      else none
    else some (Sum.inr s1.fst)
def comment_Thread : Option (List (Int × Int × Int × List UInt8 × List UInt8 × Int × Bool)) → Int → Option (Option (List Int)) :=
  fun l id =>
    callO (comment_Validate l) fun r1 =>
      if (r1 != 0 || (decide (id < 1) || decide (id > lenI (l.getD [])))) = true then some none
      else
        callO (loopR (comment_Thread_l0 l id) (none, 0)) fun r2 =>
          if (r2.isSome == r2.isSome) = true then if (r2.isSome == r2.isSome) = true then some r2 else none else none
end Go.Fn
/- bitext/comment.Open -/
namespace Go.Fn
open Go Go.Vs Go.Ve
set_option linter.unusedVariables false
def comment_Open_l0 : Option (List (Int × Int × Int × List UInt8 × List UInt8 × Int × Bool)) →
    Int → Option (List Int) × Int → Option (Option (List Int) × Int ⊕ Option (List Int)) :=
  fun l segment s1 =>
    if decide (s1.snd < lenI (l.getD [])) = true then
      if
          (decide (0 ≤ s1.snd ∧ s1.snd < lenI (l.getD [])) &&
              (!(((l.getD []).getD s1.snd.toNat (0, 0, 0, [], [], 0, false)).snd.fst == segment &&
                    (((l.getD []).getD s1.snd.toNat (0, 0, 0, [], [], 0, false)).snd.snd.fst == 0 &&
                      !((l.getD []).getD s1.snd.toNat (0, 0, 0, [], [], 0, false)).snd.snd.snd.snd.snd.snd)) ||
                decide (0 + (s1.fst.getD []).length = (s1.fst.getD []).length) &&
                  (decide
                      ((s1.fst.getD []).length +
                          [((l.getD []).getD s1.snd.toNat (0, 0, 0, [], [], 0, false)).fst].length ≤
                        68719476736) &&
                    s1.fst.isSome == s1.fst.isSome))) =
            true then
        some
          (Sum.inl
            (if
                  (((l.getD []).getD s1.snd.toNat (0, 0, 0, [], [], 0, false)).snd.fst == segment &&
                      (((l.getD []).getD s1.snd.toNat (0, 0, 0, [], [], 0, false)).snd.snd.fst == 0 &&
                        !((l.getD []).getD s1.snd.toNat (0, 0, 0, [], [], 0, false)).snd.snd.snd.snd.snd.snd)) =
                    true then
                some (s1.fst.getD [] ++ [((l.getD []).getD s1.snd.toNat (0, 0, 0, [], [], 0, false)).fst])
              else s1.fst,
              IntKind.i64.wrap (s1.snd + 1)))
      else none
    else some (Sum.inr s1.fst)
def comment_Open : Option (List (Int × Int × Int × List UInt8 × List UInt8 × Int × Bool)) → Int → Option (Option (List Int)) :=
  fun l segment =>
    callO (comment_Validate l) fun r1 =>
      if (r1 != 0) = true then some none
      else
        callO (loopR (comment_Open_l0 l segment) (none, 0)) fun r2 =>
          if (r2.isSome == r2.isSome) = true then if (r2.isSome == r2.isSome) = true then some r2 else none else none
end Go.Fn
/- bitext/comment.Move -/
namespace Go.Fn
open Go Go.Vs Go.Ve
set_option linter.unusedVariables false
def comment_Move_l0 : Int →
    Int →
      Option (List (Int × Int × Int × List UInt8 × List UInt8 × Int × Bool)) →
        Option (List (Int × Int × Int × List UInt8 × List UInt8 × Int × Bool)) × Int →
          Option
            (Option (List (Int × Int × Int × List UInt8 × List UInt8 × Int × Bool)) × Int ⊕
              Option (List (Int × Int × Int × List UInt8 × List UInt8 × Int × Bool))) :=
  fun from' to r1 s1 =>
    if decide (s1.snd < lenI (r1.getD [])) = true then
      if
          (decide (0 ≤ s1.snd ∧ s1.snd < lenI (s1.fst.getD [])) && nlt (0 + s1.snd.toNat) (s1.fst.getD []).length &&
              (!(((s1.fst.getD []).getD (0 + s1.snd.toNat) (0, 0, 0, [], [], 0, false)).snd.fst == from' &&
                    decide (to ≥ 1)) ||
                decide (0 ≤ s1.snd ∧ s1.snd < lenI (s1.fst.getD [])) && nlt (0 + s1.snd.toNat) (s1.fst.getD []).length)) =
            true then
        some
          (Sum.inl
            (if
                  (((s1.fst.getD []).getD (0 + s1.snd.toNat) (0, 0, 0, [], [], 0, false)).snd.fst == from' &&
                      decide (to ≥ 1)) =
                    true then
                some
                  ((s1.fst.getD []).set (0 + s1.snd.toNat)
                    (((s1.fst.getD []).getD (0 + s1.snd.toNat) (0, 0, 0, [], [], 0, false)).fst, to,
                      ((s1.fst.getD []).getD (0 + s1.snd.toNat) (0, 0, 0, [], [], 0, false)).snd.snd.fst,
                      ((s1.fst.getD []).getD (0 + s1.snd.toNat) (0, 0, 0, [], [], 0, false)).snd.snd.snd.fst,
                      ((s1.fst.getD []).getD (0 + s1.snd.toNat) (0, 0, 0, [], [], 0, false)).snd.snd.snd.snd.fst,
                      ((s1.fst.getD []).getD (0 + s1.snd.toNat) (0, 0, 0, [], [], 0, false)).snd.snd.snd.snd.snd.fst,
                      ((s1.fst.getD []).getD (0 + s1.snd.toNat) (0, 0, 0, [], [], 0, false)).snd.snd.snd.snd.snd.snd))
              else s1.fst,
              IntKind.i64.wrap (s1.snd + 1)))
      else none
    else some (Sum.inr s1.fst)
def comment_Move : Option (List (Int × Int × Int × List UInt8 × List UInt8 × Int × Bool)) →
    Int → Int → Option (Option (List (Int × Int × Int × List UInt8 × List UInt8 × Int × Bool))) :=
  fun l from' to =>
    callO (comment_Validate l) fun r1 =>
      if (r1 != 0) = true then some none
      else
        callO (slices_Clone_api_Note l) fun r2 =>
          if (r2.isSome == r2.isSome) = true then
            callO (loopR (comment_Move_l0 from' to r2) (r2, 0)) fun r3 =>
              if (r3.isSome == r3.isSome) = true then if (r3.isSome == r3.isSome) = true then some r3 else none else none
          else none
end Go.Fn
/- bitext/bitextref28.CloseNote -/
namespace Go.Fn
open Go Go.Vs Go.Ve
set_option linter.unusedVariables false
def bitextref28_CloseNote : Option (List (Int × Int × Int × List UInt8 × List UInt8 × Int × Bool)) →
    Int → Option (Option (List (Int × Int × Int × List UInt8 × List UInt8 × Int × Bool)) × Int) :=
  fun l id =>
    callO (bitextref28_ValidateNotes l) fun r1 =>
      if (r1 != 0) = true then some (none, r1)
      else
        if (decide (id < 1) || decide (id > lenI (l.getD []))) = true then some (none, 6)
        else
          callO (bitextref28_root l id) fun r2 =>
            if decide (0 ≤ IntKind.i64.wrap (r2 - 1) ∧ IntKind.i64.wrap (r2 - 1) < lenI (l.getD [])) = true then
              if
                  ((l.getD []).getD (IntKind.i64.wrap (r2 - 1)).toNat
                                  (0, 0, 0, [], [], 0, false)).snd.snd.snd.snd.snd.snd =
                    true then
                some (none, 8)
              else
                if (true && decide (0 + (l.getD []).length ≤ 68719476736)) = true then
                  if
                      (decide (0 ≤ IntKind.i64.wrap (r2 - 1) ∧ IntKind.i64.wrap (r2 - 1) < lenI ([] ++ l.getD [])) &&
                          nlt (0 + (IntKind.i64.wrap (r2 - 1)).toNat) ([] ++ l.getD []).length) =
                        true then
                    some
                      (some
                          (([] ++ l.getD []).set (0 + (IntKind.i64.wrap (r2 - 1)).toNat)
                            ((([] ++ l.getD []).getD (0 + (IntKind.i64.wrap (r2 - 1)).toNat)
                                  (0, 0, 0, [], [], 0, false)).fst,
                              (([] ++ l.getD []).getD (0 + (IntKind.i64.wrap (r2 - 1)).toNat)
                                    (0, 0, 0, [], [], 0, false)).snd.fst,
                              (([] ++ l.getD []).getD (0 + (IntKind.i64.wrap (r2 - 1)).toNat)
                                      (0, 0, 0, [], [], 0, false)).snd.snd.fst,
                              (([] ++ l.getD []).getD (0 + (IntKind.i64.wrap (r2 - 1)).toNat)
                                        (0, 0, 0, [], [], 0, false)).snd.snd.snd.fst,
                              (([] ++ l.getD []).getD (0 + (IntKind.i64.wrap (r2 - 1)).toNat)
                                          (0, 0, 0, [], [], 0, false)).snd.snd.snd.snd.fst,
                              (([] ++ l.getD []).getD (0 + (IntKind.i64.wrap (r2 - 1)).toNat)
                                            (0, 0, 0, [], [], 0, false)).snd.snd.snd.snd.snd.fst,
                              true)),
                        0)
                  else none
                else none
            else none
end Go.Fn
/- bitext/bitextref28.Thread -/
namespace Go.Fn
open Go Go.Vs Go.Ve
set_option linter.unusedVariables false
def bitextref28_Thread_l0 : Option (List (Int × Int × Int × List UInt8 × List UInt8 × Int × Bool)) →
    Int → Option (List Int) × Int → Option (Option (List Int) × Int ⊕ Option (List Int)) :=
  fun l id s1 =>
    if decide (s1.snd < lenI (l.getD [])) = true then
      if decide (0 ≤ s1.snd ∧ s1.snd < lenI (l.getD [])) = true then
        callO (bitextref28_root l ((l.getD []).getD s1.snd.toNat (0, 0, 0, [], [], 0, false)).fst) fun r1 =>
          callO (bitextref28_root l id) fun r2 =>
            if
                (!r1 == r2 ||
                    decide (0 + (s1.fst.getD []).length = (s1.fst.getD []).length) &&
                      (decide
                          ((s1.fst.getD []).length +
                              [((l.getD []).getD s1.snd.toNat (0, 0, 0, [], [], 0, false)).fst].length ≤
                            68719476736) &&
                        s1.fst.isSome == s1.fst.isSome)) =
                  true then
              some
                (Sum.inl
                  (if (r1 == r2) = true then
                      some (s1.fst.getD [] ++ [((l.getD []).getD s1.snd.toNat (0, 0, 0, [], [], 0, false)).fst])
                    else s1.fst,
                    IntKind.i64.wrap (s1.snd + 1)))
            else none
      else none
    else some (Sum.inr s1.fst)
def bitextref28_Thread : Option (List (Int × Int × Int × List UInt8 × List UInt8 × Int × Bool)) → Int → Option (Option (List Int)) :=
  fun l id =>
    callO (bitextref28_ValidateNotes l) fun r1 =>
      if (r1 != 0 || (decide (id < 1) || decide (id > lenI (l.getD [])))) = true then some none
      else
        callO (loopR (bitextref28_Thread_l0 l id) (none, 0)) fun r2 =>
          if (r2.isSome == r2.isSome) = true then if (r2.isSome == r2.isSome) = true then some r2 else none else none
end Go.Fn
/- bitext/bitextref28.OpenNotes -/
namespace Go.Fn
open Go Go.Vs Go.Ve
set_option linter.unusedVariables false
def bitextref28_OpenNotes_l0 : Option (List (Int × Int × Int × List UInt8 × List UInt8 × Int × Bool)) →
    Int → Option (List Int) × Int → Option (Option (List Int) × Int ⊕ Option (List Int)) :=
  fun l segment s1 =>
    if decide (s1.snd < lenI (l.getD [])) = true then
      if
          (decide (0 ≤ s1.snd ∧ s1.snd < lenI (l.getD [])) &&
              (!(((l.getD []).getD s1.snd.toNat (0, 0, 0, [], [], 0, false)).snd.fst == segment &&
                    (((l.getD []).getD s1.snd.toNat (0, 0, 0, [], [], 0, false)).snd.snd.fst == 0 &&
                      !((l.getD []).getD s1.snd.toNat (0, 0, 0, [], [], 0, false)).snd.snd.snd.snd.snd.snd)) ||
                decide (0 + (s1.fst.getD []).length = (s1.fst.getD []).length) &&
                  (decide
                      ((s1.fst.getD []).length +
                          [((l.getD []).getD s1.snd.toNat (0, 0, 0, [], [], 0, false)).fst].length ≤
                        68719476736) &&
                    s1.fst.isSome == s1.fst.isSome))) =
            true then
        some
          (Sum.inl
            (if
                  (((l.getD []).getD s1.snd.toNat (0, 0, 0, [], [], 0, false)).snd.fst == segment &&
                      (((l.getD []).getD s1.snd.toNat (0, 0, 0, [], [], 0, false)).snd.snd.fst == 0 &&
                        !((l.getD []).getD s1.snd.toNat (0, 0, 0, [], [], 0, false)).snd.snd.snd.snd.snd.snd)) =
                    true then
                some (s1.fst.getD [] ++ [((l.getD []).getD s1.snd.toNat (0, 0, 0, [], [], 0, false)).fst])
              else s1.fst,
              IntKind.i64.wrap (s1.snd + 1)))
      else none
    else some (Sum.inr s1.fst)
def bitextref28_OpenNotes : Option (List (Int × Int × Int × List UInt8 × List UInt8 × Int × Bool)) → Int → Option (Option (List Int)) :=
  fun l segment =>
    callO (bitextref28_ValidateNotes l) fun r1 =>
      if (r1 != 0) = true then some none
      else
        callO (loopR (bitextref28_OpenNotes_l0 l segment) (none, 0)) fun r2 =>
          if (r2.isSome == r2.isSome) = true then if (r2.isSome == r2.isSome) = true then some r2 else none else none
end Go.Fn
/- bitext/bitextref28.MoveNotes -/
namespace Go.Fn
open Go Go.Vs Go.Ve
set_option linter.unusedVariables false
def bitextref28_MoveNotes_l0 : Option (List (Int × Int × Int × List UInt8 × List UInt8 × Int × Bool)) →
    Int →
      Int →
        List (Int × Int × Int × List UInt8 × List UInt8 × Int × Bool) × Int →
          Option
            (List (Int × Int × Int × List UInt8 × List UInt8 × Int × Bool) × Int ⊕
              List (Int × Int × Int × List UInt8 × List UInt8 × Int × Bool)) :=
  fun l from' to s1 =>
    if decide (s1.snd < lenI ([] ++ l.getD [])) = true then
      if
          (decide (0 ≤ s1.snd ∧ s1.snd < lenI s1.fst) && nlt (0 + s1.snd.toNat) s1.fst.length &&
              (!((s1.fst.getD (0 + s1.snd.toNat) (0, 0, 0, [], [], 0, false)).snd.fst == from' && decide (to ≥ 1)) ||
                decide (0 ≤ s1.snd ∧ s1.snd < lenI s1.fst) && nlt (0 + s1.snd.toNat) s1.fst.length)) =
            true then
        some
          (Sum.inl
            (if
                  ((s1.fst.getD (0 + s1.snd.toNat) (0, 0, 0, [], [], 0, false)).snd.fst == from' && decide (to ≥ 1)) =
                    true then
                s1.fst.set (0 + s1.snd.toNat)
                  ((s1.fst.getD (0 + s1.snd.toNat) (0, 0, 0, [], [], 0, false)).fst, to,
                    (s1.fst.getD (0 + s1.snd.toNat) (0, 0, 0, [], [], 0, false)).snd.snd.fst,
                    (s1.fst.getD (0 + s1.snd.toNat) (0, 0, 0, [], [], 0, false)).snd.snd.snd.fst,
                    (s1.fst.getD (0 + s1.snd.toNat) (0, 0, 0, [], [], 0, false)).snd.snd.snd.snd.fst,
                    (s1.fst.getD (0 + s1.snd.toNat) (0, 0, 0, [], [], 0, false)).snd.snd.snd.snd.snd.fst,
                    (s1.fst.getD (0 + s1.snd.toNat) (0, 0, 0, [], [], 0, false)).snd.snd.snd.snd.snd.snd)
              else s1.fst,
              IntKind.i64.wrap (s1.snd + 1)))
      else none
    else some (Sum.inr s1.fst)
def bitextref28_MoveNotes : Option (List (Int × Int × Int × List UInt8 × List UInt8 × Int × Bool)) →
    Int → Int → Option (Option (List (Int × Int × Int × List UInt8 × List UInt8 × Int × Bool))) :=
  fun l from' to =>
    callO (bitextref28_ValidateNotes l) fun r1 =>
      if (r1 != 0) = true then some none
      else
        if (true && decide (0 + (l.getD []).length ≤ 68719476736)) = true then
          callO (loopR (bitextref28_MoveNotes_l0 l from' to) ([] ++ l.getD [], 0)) fun r2 => some (some r2)
        else none
end Go.Fn
/- bitext/bitextref28.SameNotes -/
namespace Go.Fn
open Go Go.Vs Go.Ve
set_option linter.unusedVariables false
def bitextref28_SameNotes_l0 : Option (List (Int × Int × Int × List UInt8 × List UInt8 × Int × Bool)) →
    Option (List (Int × Int × Int × List UInt8 × List UInt8 × Int × Bool)) → Int → Option (Int ⊕ Bool ⊕ Unit) :=
  fun a b s1 =>
    if decide (s1 < lenI (a.getD [])) = true then
      if (decide (0 ≤ s1 ∧ s1 < lenI (a.getD [])) && decide (0 ≤ s1 ∧ s1 < lenI (b.getD []))) = true then
        if
            (!(((a.getD []).getD s1.toNat (0, 0, 0, [], [], 0, false)).fst ==
                    ((b.getD []).getD s1.toNat (0, 0, 0, [], [], 0, false)).fst &&
                  (((a.getD []).getD s1.toNat (0, 0, 0, [], [], 0, false)).snd.fst ==
                      ((b.getD []).getD s1.toNat (0, 0, 0, [], [], 0, false)).snd.fst &&
                    (((a.getD []).getD s1.toNat (0, 0, 0, [], [], 0, false)).snd.snd.fst ==
                        ((b.getD []).getD s1.toNat (0, 0, 0, [], [], 0, false)).snd.snd.fst &&
                      (decide
                          (((a.getD []).getD s1.toNat (0, 0, 0, [], [], 0, false)).snd.snd.snd.fst =
                            ((b.getD []).getD s1.toNat (0, 0, 0, [], [], 0, false)).snd.snd.snd.fst) &&
                        (decide
                            (((a.getD []).getD s1.toNat (0, 0, 0, [], [], 0, false)).snd.snd.snd.snd.fst =
                              ((b.getD []).getD s1.toNat (0, 0, 0, [], [], 0, false)).snd.snd.snd.snd.fst) &&
                          (((a.getD []).getD s1.toNat (0, 0, 0, [], [], 0, false)).snd.snd.snd.snd.snd.fst ==
                              ((b.getD []).getD s1.toNat (0, 0, 0, [], [], 0, false)).snd.snd.snd.snd.snd.fst &&
                            (((a.getD []).getD s1.toNat (0, 0, 0, [], [], 0, false)).snd.snd.snd.snd.snd.snd ==
                                ((b.getD []).getD s1.toNat (0, 0, 0, [], [], 0, false)).snd.snd.snd.snd.snd.snd &&
                              true)))))))) =
              true then
          some (Sum.inr (Sum.inl false))
        else some (Sum.inl (IntKind.i64.wrap (s1 + 1)))
      else none
    else some (Sum.inr (Sum.inr ()))
def bitextref28_SameNotes : Option (List (Int × Int × Int × List UInt8 × List UInt8 × Int × Bool)) →
    Option (List (Int × Int × Int × List UInt8 × List UInt8 × Int × Bool)) → Option Bool :=
  fun a b =>
    if (lenI (a.getD []) != lenI (b.getD [])) = true then some false
    else callO (loopR (bitextref28_SameNotes_l0 a b) 0) fun r1 => sumO r1 (fun r2 => some r2) fun r3 => some true
end Go.Fn
/- bitext/bitextref28.SameNotes -/
namespace Go.Fn
open Go Go.Vs Go.Ve
set_option linter.unusedVariables false
def bitextref28_SameNotes_o0_l0 : Option (List (Int × Int × Int × List UInt8 × List UInt8 × Int × Bool)) →
    Option (List (Int × Int × Int × List UInt8 × List UInt8 × Int × Bool)) → Int → Option (Int ⊕ Bool ⊕ Unit) :=
  fun a b s1 =>
    if decide (s1 < lenI (a.getD [])) = true then
      if
          (decide (0 ≤ s1 ∧ s1 < lenI (a.getD [])) &&
              (nlt (0 + s1.toNat) (a.getD []).length && decide (0 ≤ s1 ∧ s1 < lenI (b.getD [])))) =
            true then
        if
            (!(((a.getD []).getD (0 + s1.toNat) (0, 0, 0, [], [], 0, false)).fst ==
                    ((b.getD []).getD s1.toNat (0, 0, 0, [], [], 0, false)).fst &&
                  (((a.getD []).getD (0 + s1.toNat) (0, 0, 0, [], [], 0, false)).snd.fst ==
                      ((b.getD []).getD s1.toNat (0, 0, 0, [], [], 0, false)).snd.fst &&
                    (((a.getD []).getD (0 + s1.toNat) (0, 0, 0, [], [], 0, false)).snd.snd.fst ==
                        ((b.getD []).getD s1.toNat (0, 0, 0, [], [], 0, false)).snd.snd.fst &&
                      (decide
                          (((a.getD []).getD (0 + s1.toNat) (0, 0, 0, [], [], 0, false)).snd.snd.snd.fst =
                            ((b.getD []).getD s1.toNat (0, 0, 0, [], [], 0, false)).snd.snd.snd.fst) &&
                        (decide
                            (((a.getD []).getD (0 + s1.toNat) (0, 0, 0, [], [], 0, false)).snd.snd.snd.snd.fst =
                              ((b.getD []).getD s1.toNat (0, 0, 0, [], [], 0, false)).snd.snd.snd.snd.fst) &&
                          (((a.getD []).getD (0 + s1.toNat) (0, 0, 0, [], [], 0, false)).snd.snd.snd.snd.snd.fst ==
                              ((b.getD []).getD s1.toNat (0, 0, 0, [], [], 0, false)).snd.snd.snd.snd.snd.fst &&
                            (((a.getD []).getD (0 + s1.toNat) (0, 0, 0, [], [], 0, false)).snd.snd.snd.snd.snd.snd ==
                                ((b.getD []).getD s1.toNat (0, 0, 0, [], [], 0, false)).snd.snd.snd.snd.snd.snd &&
                              true)))))))) =
              true then
          some (Sum.inr (Sum.inl false))
        else some (Sum.inl (IntKind.i64.wrap (s1 + 1)))
      else none
    else some (Sum.inr (Sum.inr ()))
def bitextref28_SameNotes_o0 : Option (List (Int × Int × Int × List UInt8 × List UInt8 × Int × Bool)) →
    Option (List (Int × Int × Int × List UInt8 × List UInt8 × Int × Bool)) → Option Bool :=
  fun a b =>
    if (lenI (a.getD []) != lenI (b.getD [])) = true then some false
    else callO (loopR (bitextref28_SameNotes_o0_l0 a b) 0) fun r1 => sumO r1 (fun r2 => some r2) fun r3 => some true
end Go.Fn
/- Plain laws of the comments: valid lists, roots, variants of the functions. -/
namespace Go.Fn
open Go Go.Vs Go.Ve
/-! ## The same functions on lists of one's own -/
theorem Validate_o0 (l : Option (List Note)) : comment_Validate_o0 l = comment_Validate l := by
  unfold comment_Validate_o0 comment_Validate
  have : comment_Validate_o0_l0 l = comment_Validate_l0 l := by
    funext s
    unfold comment_Validate_o0_l0 comment_Validate_l0
    simp only [Nat.zero_add, guard_nlt]
  rw [this]
theorem root_o0 (l : Option (List Note)) (id : Int) : comment_root_o0 l id = comment_root l id := by
  unfold comment_root_o0 comment_root
  have : comment_root_o0_l0 l = comment_root_l0 l := by
    funext s
    unfold comment_root_o0_l0 comment_root_l0
    simp only [Nat.zero_add, guard_nlt]
  rw [this]
/-! ## Valid lists -/
def NV (l : List Note) : Prop := l.length ≤ 512 ∧ ∀ i, i < l.length → nerr l i = none
theorem nerr_cases {l : List Note} {i : Nat} {r : Int} (h : nerr l i = some r) : r = 1 ∨ r = 4 ∨ r = 11 := by
  unfold nerr at h
  dsimp only at h
  repeat' split at h
  all_goals first | (cases h; simp) | cases h
theorem nvalid_cases (l : List Note) : (nvalid l = 0 ∧ NV l) ∨ (nvalid l ≠ 0 ∧ ¬ NV l) := by
  unfold nvalid NV
  by_cases h : l.length > 512
  · rw [if_pos h]; right; exact ⟨by decide, fun q => by omega⟩
  · rw [if_neg h]
    cases e : scan (nerr l) 0 l.length with
    | none => left; exact ⟨rfl, by omega, fun i hi => (scan_none _ _).1 e i (Nat.zero_le _) (by omega)⟩
    | some r =>
      right
      obtain ⟨j, _, h2, h3⟩ := scan_some e
      refine ⟨?_, fun q => ?_⟩
      · rcases nerr_cases h3 with rfl | rfl | rfl <;> decide
      · rw [q.2 j (by omega)] at h3; cases h3
theorem nvalid_zero {l : List Note} : nvalid l = 0 ↔ NV l := by
  rcases nvalid_cases l with ⟨h1, h2⟩ | ⟨h1, h2⟩
  · exact ⟨fun _ => h2, fun _ => h1⟩
  · exact ⟨fun q => absurd q h1, fun q => absurd q h2⟩
structure NOk (l : List Note) (i : Nat) (x : Note) : Prop where
  id : x.1 = (i : Int) + 1
  seg : 1 ≤ x.2.1
  par0 : 0 ≤ x.2.2.1
  par1 : x.2.2.1 ≤ (i : Int)
  time0 : 0 ≤ x.2.2.2.2.2.1
  time1 : x.2.2.2.2.2.1 ≤ 1073741824
  text : textOk x.2.2.2.2.1 = true
  name : nameOk x.2.2.2.1 = true
  up : x.2.2.1 ≠ 0 → (nget l (x.2.2.1 - 1).toNat).2.1 = x.2.1 ∧ x.2.2.2.2.2.2 = false
theorem nerr_none {l : List Note} {i : Nat} : nerr l i = none ↔ NOk l i (nget l i) := by
  unfold nerr
  dsimp only
  generalize nget l i = x
  obtain ⟨id, seg, par, user, text, time, closed⟩ := x
  dsimp only
  constructor
  · intro h
    repeat' split at h
    all_goals first | cases h | skip
    rename_i c1 c2 c3 c4 c5 c6 c7 c8 c9
    refine ⟨by simpa using c1, by dsimp only; omega, by dsimp only; omega, by dsimp only; omega, by dsimp only; omega, by dsimp only; omega, by simpa using c7, by simpa using c8, fun hp => ?_⟩
    dsimp only at hp ⊢
    constructor
    · exact Decidable.byContradiction fun q => c9 ⟨hp, .inl q⟩
    · cases closed with
      | false => rfl
      | true => exact absurd ⟨hp, .inr rfl⟩ c9
  · intro h
    have g1 := h.id; have g2 := h.seg; have g3 := h.par0; have g4 := h.par1; have g5 := h.time0; have g6 := h.time1; have g7 := h.text; have g8 := h.name; have g9 := h.up
    dsimp only at g1 g2 g3 g4 g5 g6 g7 g8 g9
    rw [if_neg (by omega), if_neg (by omega), if_neg (by omega), if_neg (by omega), if_neg (by omega), if_neg (by omega), if_neg (by rw [g7]; decide), if_neg (by rw [g8]; decide), if_neg]
    rintro ⟨q1, q2⟩
    obtain ⟨r1, r2⟩ := g9 q1
    rcases q2 with q2 | q2
    · exact q2 r1
    · rw [r2] at q2; cases q2
theorem NV.ok {l : List Note} (h : NV l) {i : Nat} (hi : i < l.length) : NOk l i (nget l i) := nerr_none.1 (h.2 i hi)
theorem text_len {s : List UInt8} (h : textOk s = true) : s.length ≤ 500 := by
  unfold textOk at h
  split at h
  · cases h
  · rw [Bool.and_eq_true, decide_eq_true_eq, lenI_eq] at h
    omega
theorem NV.notesOk {l : List Note} (h : NV l) : NotesOk l := by
  intro x hx
  obtain ⟨i, hi, rfl⟩ := List.mem_iff_getElem.1 hx
  have hg : nget l i = l[i] := by unfold nget; rw [List.getD_eq_getElem?_getD, List.getElem?_eq_getElem hi]; rfl
  have := h.ok hi
  rw [hg] at this
  have h1 := this.id; have h2 := this.par0; have h3 := this.par1; have h4 := this.time0; have h5 := this.time1; have h6 := text_len this.text; have h8 := h.1
  unfold In64
  refine ⟨by omega, by omega, by omega, by omega⟩
/-! ## Roots -/
def par (l : List Note) (id : Int) : Int := (nget l (id - 1).toNat).2.2.1
def segm (l : List Note) (id : Int) : Int := (nget l (id - 1).toNat).2.1
/-- the root that a walk upwards finds -/
def rootN (l : List Note) : Nat → Int → Int
  | 0, id => id
  | k + 1, id => if par l id = 0 then id else rootN l k (par l id)
def root (l : List Note) (id : Int) : Int := rootN l l.length id
theorem NV.par {l : List Note} (h : NV l) {id : Int} (h0 : 1 ≤ id) (h1 : id ≤ l.length) : 0 ≤ par l id ∧ par l id ≤ id - 1 ∧ (par l id ≠ 0 → segm l (par l id) = segm l id) := by
  have hi : (id - 1).toNat < l.length := by omega
  have g := h.ok hi
  have g1 := g.par0; have g2 := g.par1
  refine ⟨g1, by unfold Go.Fn.par; omega, fun hp => (g.up hp).1⟩
theorem rootN_stable {l : List Note} (h : NV l) : ∀ (k : Nat) {id : Int} {m : Nat}, 1 ≤ id → id ≤ l.length → id ≤ k → id ≤ m → rootN l k id = rootN l m id
  | 0, id, m, h0, h1, hk, hm => by omega
  | k + 1, id, 0, h0, h1, hk, hm => by omega
  | k + 1, id, m + 1, h0, h1, hk, hm => by
    unfold rootN
    obtain ⟨p0, p1, _⟩ := h.par h0 h1
    by_cases hp : Go.Fn.par l id = 0
    · rw [if_pos hp, if_pos hp]
    · rw [if_neg hp, if_neg hp]
      exact rootN_stable h k (by omega) (by omega) (by omega) (by omega)
theorem root_up {l : List Note} (h : NV l) {id : Int} (h0 : 1 ≤ id) (h1 : id ≤ l.length) (hp : Go.Fn.par l id ≠ 0) : root l id = root l (Go.Fn.par l id) := by
  unfold root
  obtain ⟨p0, p1, _⟩ := h.par h0 h1
  obtain ⟨m, hm⟩ : ∃ m, l.length = m + 1 := ⟨l.length - 1, by omega⟩
  have e : rootN l (m + 1) id = rootN l m (Go.Fn.par l id) := by
    show (if Go.Fn.par l id = 0 then id else rootN l m (Go.Fn.par l id)) = _
    rw [if_neg hp]
  rw [hm, e]
  exact rootN_stable h m (by omega) (by omega) (by omega) (by omega)
theorem root_top {l : List Note} {id : Int} (hp : Go.Fn.par l id = 0) : root l id = id := by
  unfold root
  cases l.length with
  | zero => rfl
  | succ m => unfold rootN; rw [if_pos hp]
theorem up_ind {l : List Note} (h : NV l) (P : Int → Prop) (top : ∀ id : Int, 1 ≤ id → id ≤ l.length → Go.Fn.par l id = 0 → P id) (up : ∀ id : Int, 1 ≤ id → id ≤ l.length → Go.Fn.par l id ≠ 0 → P (Go.Fn.par l id) → P id) :
    ∀ id : Int, 1 ≤ id → id ≤ l.length → P id := by
  have key : ∀ (k : Nat) (id : Int), id ≤ k → 1 ≤ id → id ≤ l.length → P id := by
    intro k
    induction k with
    | zero => intro id h1 h2 _; omega
    | succ k ih =>
      intro id h1 h2 h3
      obtain ⟨p0, p1, _⟩ := h.par h2 h3
      by_cases hp : Go.Fn.par l id = 0
      · exact top id h2 h3 hp
      · exact up id h2 h3 hp (ih _ (by omega) (by omega) (by omega))
  exact fun id h2 h3 => key id.toNat id (by omega) h2 h3
theorem root_props {l : List Note} (h : NV l) : ∀ id : Int, 1 ≤ id → id ≤ l.length → 1 ≤ root l id ∧ root l id ≤ id ∧ Go.Fn.par l (root l id) = 0 ∧ segm l (root l id) = segm l id := by
  refine up_ind h _ (fun id h0 h1 hp => ?_) (fun id h0 h1 hp ih => ?_)
  · rw [root_top hp]; exact ⟨h0, Int.le_refl _, hp, rfl⟩
  · rw [root_up h h0 h1 hp]
    obtain ⟨p0, p1, p2⟩ := h.par h0 h1
    refine ⟨ih.1, by omega, ih.2.2.1, by rw [ih.2.2.2]; exact p2 hp⟩
theorem root_eq {l : Option (List Note)} (h : NV (l.getD [])) {id : Int} (h0 : 1 ≤ id) (h1 : id ≤ (l.getD []).length) : comment_root l id = some (root (l.getD []) id) := by
  unfold comment_root
  have hlen := h.1
  have key : ∀ id : Int, 1 ≤ id → id ≤ (l.getD []).length → ∀ n : Nat, id < n → iterN (comment_root_l0 l) n id = some (root (l.getD []) id) := by
    refine up_ind h _ (fun id h0 h1 hp => ?_) (fun id h0 h1 hp ih => ?_)
    · intro n hn
      obtain ⟨n, rfl⟩ : ∃ q, n = q + 1 := ⟨n - 1, by omega⟩
      have hr := inRange (xs := l.getD []) (p := id) h0 h1 (by omega)
      have hs : comment_root_l0 l id = some (.inr id) := by
        unfold comment_root_l0
        rw [hr.1]
        refine ifT hr.2 (ifT ?_ rfl)
        rw [beq_iff_eq]
        exact hp
      unfold iterN
      rw [hs, root_top hp]
    · intro n hn
      obtain ⟨n, rfl⟩ : ∃ q, n = q + 1 := ⟨n - 1, by omega⟩
      have hr := inRange (xs := l.getD []) (p := id) h0 h1 (by omega)
      obtain ⟨p0, p1, _⟩ := h.par h0 h1
      have hs : comment_root_l0 l id = some (.inl (Go.Fn.par (l.getD []) id)) := by
        unfold comment_root_l0
        rw [hr.1]
        refine ifT hr.2 (ifF ?_ rfl)
        rw [beq_iff_eq]
        exact hp
      unfold iterN
      rw [hs, root_up h h0 h1 hp]
      exact ih n (by omega)
  refine callT (key id h0 h1 fuel ?_) rfl
  unfold fuel
  omega
theorem root28_eq {l : Option (List Note)} (h : NV (l.getD [])) {id : Int} (h0 : 1 ≤ id) (h1 : id ≤ (l.getD []).length) : bitextref28_root l id = some (root (l.getD []) id) := by
  unfold bitextref28_root
  have hlen := h.1
  have key : ∀ id : Int, 1 ≤ id → id ≤ (l.getD []).length → ∀ n : Nat, id < n → iterN (bitextref28_root_l0 l) n id = some (root (l.getD []) id) := by
    refine up_ind h _ (fun id h0 h1 hp => ?_) (fun id h0 h1 hp ih => ?_)
    · intro n hn
      obtain ⟨n, rfl⟩ : ∃ q, n = q + 1 := ⟨n - 1, by omega⟩
      have hr := inRange (xs := l.getD []) (p := id) h0 h1 (by omega)
      have hs : bitextref28_root_l0 l id = some (.inr id) := by
        unfold bitextref28_root_l0
        rw [hr.1]
        refine ifT hr.2 (dcF ?_ rfl)
        have : Go.Fn.par (l.getD []) id = 0 := hp
        unfold Go.Fn.par nget note0 at this
        rw [this]; decide
      unfold iterN
      rw [hs, root_top hp]
    · intro n hn
      obtain ⟨n, rfl⟩ : ∃ q, n = q + 1 := ⟨n - 1, by omega⟩
      have hr := inRange (xs := l.getD []) (p := id) h0 h1 (by omega)
      obtain ⟨p0, p1, _⟩ := h.par h0 h1
      have hs : bitextref28_root_l0 l id = some (.inl (Go.Fn.par (l.getD []) id)) := by
        unfold bitextref28_root_l0
        rw [hr.1]
        refine ifT hr.2 (dcT ?_ (ifT hr.2 rfl))
        have : 0 < Go.Fn.par (l.getD []) id := by omega
        exact this
      unfold iterN
      rw [hs, root_up h h0 h1 hp]
      exact ih n (by omega)
  refine callT (key id h0 h1 fuel ?_) rfl
  unfold fuel
  omega
end Go.Fn
/- bitext/bitextref3.SameInts -/
namespace Go.Fn
open Go Go.Vs Go.Ve
set_option linter.unusedVariables false
def bitextref3_SameInts_o0_l0 : Option (List Int) → Option (List Int) → Int → Option (Int ⊕ Bool ⊕ Unit) :=
  fun a b s1 =>
    if decide (s1 < lenI (a.getD [])) = true then
      if
          (decide (0 ≤ s1 ∧ s1 < lenI (a.getD [])) &&
              (nlt (0 + s1.toNat) (a.getD []).length && decide (0 ≤ s1 ∧ s1 < lenI (b.getD [])))) =
            true then
        if ((a.getD []).getD (0 + s1.toNat) 0 != (b.getD []).getD s1.toNat 0) = true then some (Sum.inr (Sum.inl false))
        else some (Sum.inl (IntKind.i64.wrap (s1 + 1)))
      else none
    else some (Sum.inr (Sum.inr ()))
def bitextref3_SameInts_o0 : Option (List Int) → Option (List Int) → Option Bool :=
  fun a b =>
    if (lenI (a.getD []) != lenI (b.getD [])) = true then some false
    else callO (loopR (bitextref3_SameInts_o0_l0 a b) 0) fun r1 => sumO r1 (fun r2 => some r2) fun r3 => some true
end Go.Fn
/- bitext/bitextref3.Has -/
namespace Go.Fn
open Go Go.Vs Go.Ve
set_option linter.unusedVariables false
def bitextref3_Has_o0_l0 : Option (List Int) → Int → Int → Option (Int ⊕ Bool ⊕ Unit) :=
  fun l n s1 =>
    if decide (s1 < lenI (l.getD [])) = true then
      if (decide (0 ≤ s1 ∧ s1 < lenI (l.getD [])) && nlt (0 + s1.toNat) (l.getD []).length) = true then
        if ((l.getD []).getD (0 + s1.toNat) 0 == n) = true then some (Sum.inr (Sum.inl true))
        else some (Sum.inl (IntKind.i64.wrap (s1 + 1)))
      else none
    else some (Sum.inr (Sum.inr ()))
def bitextref3_Has_o0 : Option (List Int) → Int → Option Bool :=
  fun l n => callO (loopR (bitextref3_Has_o0_l0 l n) 0) fun r1 => sumO r1 (fun r2 => some r2) fun r3 => some false
end Go.Fn
/- Plain laws of the comments: what the functions give. -/
namespace Go.Fn
open Go Go.Vs Go.Ve
theorem clone_eq {l : Option (List Note)} (h : (l.getD []).length ≤ 68719476736) : slices_Clone_api_Note l = some l := by
  unfold slices_Clone_api_Note
  cases l with
  | none => rfl
  | some xs => exact ifF (by simp) (ifT (by simpa using h) rfl)
def closed (l : List Note) (id : Int) : Bool := (nget l (id - 1).toNat).2.2.2.2.2.2
/-! ## Add -/
def nadd (l : List Note) (s p : Int) (u t : List UInt8) (n : Int) : Option (List Note) × Int :=
  if nvalid l ≠ 0 then (none, nvalid l)
  else if l.length = 512 then (none, 3)
  else if s < 1 then (none, 1)
  else if n < 0 then (none, 1)
  else if n > 1073741824 then (none, 1)
  else if textOk t = false then (none, 1)
  else if nameOk u = false then (none, 4)
  else if p ≠ 0 then
    if p < 0 ∨ p > (l.length : Int) then (none, 6)
    else if segm l p ≠ s then (none, 11)
    else if closed l (root l p) = true then (none, 8)
    else (some (l ++ [((l.length : Int) + 1, s, p, u, t, n, false)]), 0)
  else (some (l ++ [((l.length : Int) + 1, s, p, u, t, n, false)]), 0)
theorem Add_eq {l : Option (List Note)} {s p : Int} {u t : List UInt8} {n : Int} (h : NotesOk (l.getD [])) (ht : t.length ≤ 4611686018427387904) :
    comment_Add l s p u t n = some (nadd (l.getD []) s p u t n) := by
  unfold comment_Add nadd
  refine callT (Validate_eq h) (ifL bne_iff_ne (fun _ => rfl) fun c1 => ?_)
  have hv : NV (l.getD []) := nvalid_zero.1 (Decidable.byContradiction c1)
  have hlen := hv.1
  refine ifL (by rw [beq_iff_eq, lenI_eq]; omega) (fun _ => rfl) fun c2 => ifL decide_eq_true_iff (fun _ => rfl) fun c3 => ifL decide_eq_true_iff (fun _ => rfl) fun c4 => ifL decide_eq_true_iff (fun _ => rfl) fun c5 => ?_
  refine callT (written_eq ht) (ifL (by simp) (fun _ => rfl) fun c6 => callT (name_eq _) (ifL (by simp) (fun _ => rfl) fun c7 => ?_))
  have hw : IntKind.i64.wrap (lenI (l.getD []) + 1) = ((l.getD []).length : Int) + 1 := by rw [lenI_eq, wrap_i64 (by omega) (by omega)]
  have hfin : (callO (slices_Clone_api_Note l) fun r5 => if (decide (0 + (r5.getD []).length = (r5.getD []).length) && (decide ((r5.getD []).length + [(IntKind.i64.wrap (lenI (l.getD []) + 1), s, p, u, t, n, false)].length ≤ 68719476736) && r5.isSome == r5.isSome)) = true then
      some (some (r5.getD [] ++ [(IntKind.i64.wrap (lenI (l.getD []) + 1), s, p, u, t, n, false)]), (0 : Int)) else none) = some (some ((l.getD []) ++ [(((l.getD []).length : Int) + 1, s, p, u, t, n, false)]), (0 : Int)) := by
    refine callT (clone_eq (by omega)) (ifT ?_ (by rw [hw]))
    simp only [Bool.and_eq_true, decide_eq_true_eq, beq_self_eq_true, List.length_cons, List.length_nil, and_true]
    omega
  refine ifL bne_iff_ne (fun c8 => ?_) (fun _ => hfin)
  refine ifL (by simp only [Bool.or_eq_true, decide_eq_true_eq]; exact Iff.rfl) (fun _ => rfl) fun c9 => ?_
  have hr := inRange (xs := l.getD []) (p := p) (by omega) (by omega) (by omega)
  obtain ⟨q0, q1, q2, q3⟩ := root_props hv p (by omega) (by omega)
  have hr2 := inRange (xs := l.getD []) (p := root (l.getD []) p) q0 (by omega) (by omega)
  rw [hr.1]
  refine ifT hr.2 (ifL bne_iff_ne (fun _ => rfl) fun c10 => callT (root_eq hv (by omega) (by omega)) ?_)
  rw [hr2.1]
  refine ifT hr2.2 (ifL Iff.rfl (fun _ => rfl) fun _ => hfin)
theorem AddNote_eq {l : Option (List Note)} {s p : Int} {u t : List UInt8} {n : Int} (h : NotesOk (l.getD [])) (ht : t.length ≤ 4611686018427387904) :
    bitextref28_AddNote l s p u t n = some (nadd (l.getD []) s p u t n) := by
  unfold bitextref28_AddNote nadd
  refine callT (ValidateNotes_eq h) (ifL bne_iff_ne (fun _ => rfl) fun c1 => ?_)
  have hv : NV (l.getD []) := nvalid_zero.1 (Decidable.byContradiction c1)
  have hlen := hv.1
  refine ifL (by rw [decide_eq_true_iff, lenI_eq]; omega) (fun _ => rfl) fun c2 => ifL decide_eq_true_iff (fun _ => rfl) fun c3 => ifL decide_eq_true_iff (fun _ => rfl) fun c4 => ifL decide_eq_true_iff (fun _ => rfl) fun c5 => ?_
  refine callT (text_eq ht) (ifL (by simp) (fun _ => rfl) fun c6 => callT (name1_eq _) (ifL (by simp) (fun _ => rfl) fun c7 => ?_))
  have hw : IntKind.i64.wrap (lenI (l.getD []) + 1) = ((l.getD []).length : Int) + 1 := by rw [lenI_eq, wrap_i64 (by omega) (by omega)]
  have hfin : ∀ x : Note, (if (true && (decide (0 + (l.getD []).length ≤ 68719476736) && (decide (0 + ([] ++ l.getD []).length = ([] ++ l.getD []).length) && decide (([] ++ l.getD []).length + [x].length ≤ 68719476736)))) = true then
      some (some ([] ++ l.getD [] ++ [x]), (0 : Int)) else none) = some (some ((l.getD []) ++ [x]), (0 : Int)) := by
    intro x
    refine ifT ?_ rfl
    simp only [Bool.and_eq_true, decide_eq_true_eq, List.length_cons, List.length_nil, List.nil_append, true_and]
    omega
  rw [hw]
  refine ifL bne_iff_ne (fun c8 => ?_) (fun _ => hfin _)
  refine ifL (by simp only [Bool.or_eq_true, decide_eq_true_eq]; rw [lenI_eq]; omega) (fun _ => rfl) fun c9 => ?_
  have hr := inRange (xs := l.getD []) (p := p) (by omega) (by omega) (by omega)
  obtain ⟨q0, q1, q2, q3⟩ := root_props hv p (by omega) (by omega)
  have hr2 := inRange (xs := l.getD []) (p := root (l.getD []) p) q0 (by omega) (by omega)
  rw [hr.1]
  refine ifT hr.2 (ifL bne_iff_ne (fun _ => rfl) fun c10 => callT (root28_eq hv (by omega) (by omega)) ?_)
  rw [hr2.1]
  refine ifT hr2.2 (ifL Iff.rfl (fun _ => rfl) fun _ => hfin _)
/-! ## Close -/
def shut (x : Note) : Note := (x.1, x.2.1, x.2.2.1, x.2.2.2.1, x.2.2.2.2.1, x.2.2.2.2.2.1, true)
def nclose (l : List Note) (id : Int) : Option (List Note) × Int :=
  if nvalid l ≠ 0 then (none, nvalid l)
  else if id < 1 ∨ id > (l.length : Int) then (none, 6)
  else if closed l (root l id) = true then (none, 8)
  else (some (l.set (root l id - 1).toNat (shut (nget l (root l id - 1).toNat))), 0)
theorem Close_eq {l : Option (List Note)} {id : Int} (h : NotesOk (l.getD [])) : comment_Close l id = some (nclose (l.getD []) id) := by
  unfold comment_Close nclose
  refine callT (Validate_eq h) (ifL bne_iff_ne (fun _ => rfl) fun c1 => ?_)
  have hv : NV (l.getD []) := nvalid_zero.1 (Decidable.byContradiction c1)
  have hlen := hv.1
  refine ifL (by simp only [Bool.or_eq_true, decide_eq_true_eq]; exact Iff.rfl) (fun _ => rfl) fun c2 => ?_
  obtain ⟨q0, q1, q2, q3⟩ := root_props hv id (by omega) (by omega)
  have hr2 := inRange (xs := l.getD []) (p := root (l.getD []) id) q0 (by omega) (by omega)
  refine callT (root_eq hv (by omega) (by omega)) ?_
  rw [hr2.1]
  refine ifT hr2.2 (ifL Iff.rfl (fun _ => rfl) fun _ => callT (clone_eq (by omega)) (sfT (ifT ?_ ?_)))
  · rw [Nat.zero_add, guard_nlt]; exact hr2.2
  · rw [Nat.zero_add]; rfl
theorem CloseNote_eq {l : Option (List Note)} {id : Int} (h : NotesOk (l.getD [])) : bitextref28_CloseNote l id = some (nclose (l.getD []) id) := by
  unfold bitextref28_CloseNote nclose
  refine callT (ValidateNotes_eq h) (ifL bne_iff_ne (fun _ => rfl) fun c1 => ?_)
  have hv : NV (l.getD []) := nvalid_zero.1 (Decidable.byContradiction c1)
  have hlen := hv.1
  refine ifL (by simp only [Bool.or_eq_true, decide_eq_true_eq]; exact Iff.rfl) (fun _ => rfl) fun c2 => ?_
  obtain ⟨q0, q1, q2, q3⟩ := root_props hv id (by omega) (by omega)
  have hr2 := inRange (xs := l.getD []) (p := root (l.getD []) id) q0 (by omega) (by omega)
  refine callT (root28_eq hv (by omega) (by omega)) ?_
  rw [hr2.1]
  simp only [List.nil_append, Nat.zero_add]
  refine ifT hr2.2 (ifL Iff.rfl (fun _ => rfl) fun _ => ifT ?_ (ifT ?_ rfl))
  · simp only [Bool.true_and, decide_eq_true_eq]; omega
  · rw [guard_nlt]; exact hr2.2
/-! ## Equal lists -/
theorem same_notes_o0_1 {a b : Option (List Note)} (h : a.getD [] = b.getD []) (hs : (a.getD []).length ≤ 4611686018427387904) : bitextref28_SameNotes_o0_1 a b = some true := by
  unfold bitextref28_SameNotes_o0_1
  refine ifF (by rw [h]; simp) ?_
  rw [loopR_scan0 (a.getD []).length (fun _ => none)]
  · rw [(scan_none _ _).2 (fun _ _ _ => rfl)]; rfl
  · intro i hi
    unfold bitextref28_SameNotes_o0_1_l0
    rw [← h]
    simp only [Nat.zero_add, guard_nlt2, guard_nlt]
    refine (rangeIn1 hi).trans (ifT (by rw [Bool.and_self]; exact decide_eq_true ⟨by omega, by rw [lenI_eq]; omega⟩) (ifF (by simp) ?_))
    rw [wrap_succ hi hs]; rfl
  · unfold bitextref28_SameNotes_o0_1_l0
    exact rangeOut
  · exact Nat.lt_of_le_of_lt hs (by decide)
theorem same_notes_o0 {a b : Option (List Note)} (h : a.getD [] = b.getD []) (hs : (a.getD []).length ≤ 4611686018427387904) : bitextref28_SameNotes_o0 a b = some true := by
  unfold bitextref28_SameNotes_o0
  refine ifF (by rw [h]; simp) ?_
  rw [loopR_scan0 (a.getD []).length (fun _ => none)]
  · rw [(scan_none _ _).2 (fun _ _ _ => rfl)]; rfl
  · intro i hi
    unfold bitextref28_SameNotes_o0_l0
    rw [← h]
    simp only [Nat.zero_add, guard_nlt2, guard_nlt]
    refine (rangeIn1 hi).trans (ifT (by rw [Bool.and_self]; exact decide_eq_true ⟨by omega, by rw [lenI_eq]; omega⟩) (ifF (by simp) ?_))
    rw [wrap_succ hi hs]; rfl
  · unfold bitextref28_SameNotes_o0_l0
    exact rangeOut
  · exact Nat.lt_of_le_of_lt hs (by decide)
theorem same_notes {a b : Option (List Note)} (h : a.getD [] = b.getD []) (hs : (a.getD []).length ≤ 4611686018427387904) : bitextref28_SameNotes a b = some true := by
  unfold bitextref28_SameNotes
  refine ifF (by rw [h]; simp) ?_
  rw [loopR_scan0 (a.getD []).length (fun _ => none)]
  · rw [(scan_none _ _).2 (fun _ _ _ => rfl)]; rfl
  · intro i hi
    unfold bitextref28_SameNotes_l0
    rw [← h]
    refine (rangeIn1 hi).trans (ifT (by rw [Bool.and_self]; exact decide_eq_true ⟨by omega, by rw [lenI_eq]; omega⟩) (ifF (by simp) ?_))
    rw [wrap_succ hi hs]; rfl
  · unfold bitextref28_SameNotes_l0
    exact rangeOut
  · exact Nat.lt_of_le_of_lt hs (by decide)
theorem same_ints {a b : Option (List Int)} (h : a.getD [] = b.getD []) (hs : (a.getD []).length ≤ 4611686018427387904) : bitextref3_SameInts a b = some true := by
  unfold bitextref3_SameInts
  refine ifF (by rw [h]; simp) ?_
  rw [loopR_scan0 (a.getD []).length (fun _ => none)]
  · rw [(scan_none _ _).2 (fun _ _ _ => rfl)]; rfl
  · intro i hi
    unfold bitextref3_SameInts_l0
    rw [← h]
    refine (rangeIn1 hi).trans (ifT (by rw [Bool.and_self]; exact decide_eq_true ⟨by omega, by rw [lenI_eq]; omega⟩) (ifF (by simp) ?_))
    rw [wrap_succ hi hs]; rfl
  · unfold bitextref3_SameInts_l0
    exact rangeOut
  · exact Nat.lt_of_le_of_lt hs (by decide)
theorem same_ints_o0 {a b : Option (List Int)} (h : a.getD [] = b.getD []) (hs : (a.getD []).length ≤ 4611686018427387904) : bitextref3_SameInts_o0 a b = some true := by
  unfold bitextref3_SameInts_o0
  refine ifF (by rw [h]; simp) ?_
  rw [loopR_scan0 (a.getD []).length (fun _ => none)]
  · rw [(scan_none _ _).2 (fun _ _ _ => rfl)]; rfl
  · intro i hi
    unfold bitextref3_SameInts_o0_l0
    rw [← h]
    simp only [Nat.zero_add, guard_nlt2, guard_nlt]
    refine (rangeIn1 hi).trans (ifT (by rw [Bool.and_self]; exact decide_eq_true ⟨by omega, by rw [lenI_eq]; omega⟩) (ifF (by simp) ?_))
    rw [wrap_succ hi hs]; rfl
  · unfold bitextref3_SameInts_o0_l0
    exact rangeOut
  · exact Nat.lt_of_le_of_lt hs (by decide)
end Go.Fn
/- (*bitext/bitextmake.Numbers).Next -/
namespace Go.Fn
open Go Go.Vs Go.Ve
set_option linter.unusedVariables false
def bitextmake_Numbers_Next : Int → Option (List Int) × Int → Option (Int × Int) :=
  fun n s =>
    if (!decide (s.snd < lenI (s.fst.getD [])) || decide (0 ≤ s.snd ∧ s.snd < lenI (s.fst.getD []))) = true then
      callO
        (bitextmake_Place (if decide (s.snd < lenI (s.fst.getD [])) = true then (s.fst.getD []).getD s.snd.toNat 0 else 0)
          n)
        fun r1 => some (r1, IntKind.i64.wrap (s.snd + 1))
    else none
end Go.Fn
/- Plain laws of the makers of inputs: numbers one after another. -/
namespace Go.Fn
open Go Go.Vs Go.Ve
/-- numbers that are left, of which c are used -/
def Num (s : Option (List Int) × Int) (c : Int) : Prop := (∀ x ∈ s.1.getD [], In64 x) ∧ 0 ≤ s.2 ∧ s.2 ≤ c
theorem Num.le {s : Option (List Int) × Int} {c d : Int} (h : Num s c) (hd : c ≤ d) : Num s d := ⟨h.1, h.2.1, by have := h.2.2; omega⟩
theorem Num.at {L : Option (List Int)} {k c k' c' : Int} (h : Num (L, k) c) (h0 : 0 ≤ k') (h1 : k' ≤ c') : Num (L, k') c' := ⟨h.1, h0, h1⟩
theorem Next_ok {L : Option (List Int)} {k c n : Int} (h : Num (L, k) c) (hc : c ≤ 1099511627776) (hn : 1 ≤ n) (hn2 : n ≤ 4611686018427387904) :
    Ok (bitextmake_Numbers_Next n (L, k)) fun r => 0 ≤ r.1 ∧ r.1 < n ∧ Num (L, r.2) (c + 1) := by
  obtain ⟨h1, h2, h3⟩ := h
  simp only at h1 h2 h3
  unfold bitextmake_Numbers_Next
  show Ok (if (!decide (k < lenI (L.getD [])) || decide (0 ≤ k ∧ k < lenI (L.getD []))) = true then callO (bitextmake_Place (if decide (k < lenI (L.getD [])) = true then (L.getD []).getD k.toNat 0 else 0) n) (fun r0 => some (r0, IntKind.i64.wrap (k + 1))) else none) _
  have hl : lenI (L.getD []) = ((L.getD []).length : Int) := rfl
  refine Ok.pos ?_ ?_
  · rw [Bool.or_eq_true, Bool.not_eq_true', decide_eq_false_iff_not, decide_eq_true_iff]
    omega
  · have hx : In64 (if decide (k < lenI (L.getD [])) = true then (L.getD []).getD k.toNat 0 else 0) := by
      split
      · rename_i hk
        have hk := of_decide_eq_true hk
        have hlt : k.toNat < (L.getD []).length := by omega
        rw [List.getD_eq_getElem?_getD, List.getElem?_eq_getElem hlt]
        exact h1 _ (List.getElem_mem hlt)
      · unfold In64; omega
    rw [place_eq hx hn hn2, callO_some]
    refine Ok.ret ⟨Int.emod_nonneg _ (show n ≠ 0 by omega), Int.emod_lt_of_pos _ (show 0 < n by omega), ?_⟩
    rw [wrap_i64 (by omega) (by omega)]
    exact ⟨h1, by simp only; omega, by simp only; omega⟩
/-- a text taken out of a table -/
theorem table_ok {ws : List (List UInt8)} {x n : Int} (Q : List UInt8 → Prop) (h0 : 0 ≤ x) (h1 : x < n) (hn : n = ws.length) (h : ∀ w ∈ ws, Q w) : Q (ws.getD (0 + x.toNat) []) := by
  have : 0 + x.toNat < ws.length := by omega
  rw [List.getD_eq_getElem?_getD, List.getElem?_eq_getElem this]
  exact h _ (List.getElem_mem this)
end Go.Fn
/- bitext/bitextlaw31.from -/
namespace Go.Fn
open Go Go.Vs Go.Ve
set_option linter.unusedVariables false
def bitextlaw31_from : Option (List Int) → Option (Option (List Int) × Int) :=
  fun l => some (l, 0)
end Go.Fn
/- bitext/bitextmake.Name -/
namespace Go.Fn
open Go Go.Vs Go.Ve
set_option linter.unusedVariables false
def bitextmake_Name : Option (List Int) × Int → Option (List UInt8 × Int) :=
  fun s =>
    callO (bitextmake_Numbers_Next 4 (s.fst, s.snd)) fun r1 =>
      if (decide (0 ≤ r1.fst ∧ r1.fst < 4) && nlt (0 + r1.fst.toNat) 4) = true then
        some ([[97, 110, 110], [98, 111, 98], [101, 118, 101], [114, 111, 98]].getD (0 + r1.fst.toNat) [], r1.snd)
      else none
end Go.Fn
/- bitext/bitextlaw31.notes -/
namespace Go.Fn
open Go Go.Vs Go.Ve
set_option linter.unusedVariables false
def bitextlaw31_notes_l0 : Option (List Int) × Int →
    Option (List (Int × Int × Int × List UInt8 × List UInt8 × Int × Bool)) × Int × Int →
      Option
        (Option (List (Int × Int × Int × List UInt8 × List UInt8 × Int × Bool)) × Int × Int ⊕
          Option (List (Int × Int × Int × List UInt8 × List UInt8 × Int × Bool))) :=
  fun r1 s1 =>
    if decide (s1.snd.fst > 0) = true then
      callO (bitextmake_Numbers_Next (IntKind.i64.wrap (lenI (s1.fst.getD []) + 1)) (r1.fst, s1.snd.snd)) fun r2 =>
        callO (bitextmake_Numbers_Next 2 (r1.fst, r2.snd)) fun r3 =>
          callO (bitextmake_Numbers_Next 3 (r1.fst, r3.snd)) fun r4 =>
            if
                (!decide (IntKind.i64.wrap (r2.fst * r3.fst) > 0) ||
                    decide
                      (0 ≤ IntKind.i64.wrap (IntKind.i64.wrap (r2.fst * r3.fst) - 1) ∧
                        IntKind.i64.wrap (IntKind.i64.wrap (r2.fst * r3.fst) - 1) < lenI (s1.fst.getD []))) =
                  true then
              callO (bitextmake_Name (r1.fst, r4.snd)) fun r5 =>
                callO (bitextmake_Numbers_Next 9 (r1.fst, r5.snd)) fun r6 =>
                  callO
                    (bitextref28_AddNote s1.fst
                      (if decide (IntKind.i64.wrap (r2.fst * r3.fst) > 0) = true then
                        ((s1.fst.getD []).getD (IntKind.i64.wrap (IntKind.i64.wrap (r2.fst * r3.fst) - 1)).toNat
                              (0, 0, 0, [], [], 0, false)).snd.fst
                      else IntKind.i64.wrap (1 + r4.fst))
                      (IntKind.i64.wrap (r2.fst * r3.fst)) r5.fst [116] r6.fst)
                    fun r7 =>
                    if
                        (r7.fst.isSome == r7.fst.isSome &&
                            (r7.fst.isSome == r7.fst.isSome && r7.fst.isSome == r7.fst.isSome)) =
                          true then
                      if (!r7.snd == 0 || r7.fst.isSome == r7.fst.isSome) = true then
                        callO (bitextmake_Numbers_Next 12 (r1.fst, r6.snd)) fun r8 =>
                          callO (bitextref28_CloseNote (if (r7.snd == 0) = true then r7.fst else s1.fst) r8.fst)
                            fun r9 =>
                            if
                                (r9.fst.isSome == r9.fst.isSome &&
                                    (r9.fst.isSome == r9.fst.isSome && r9.fst.isSome == r9.fst.isSome)) =
                                  true then
                              if (r9.snd == 0) = true then
                                callO (bitextmake_Numbers_Next 3 (r1.fst, r8.snd)) fun r10 =>
                                  if (!r10.fst == 0 || r9.fst.isSome == r9.fst.isSome) = true then
                                    some
                                      (Sum.inl
                                        (if (r10.fst == 0) = true then r9.fst
                                          else if (r7.snd == 0) = true then r7.fst else s1.fst,
                                          IntKind.i64.wrap (s1.snd.fst - 1), r10.snd))
                                  else none
                              else
                                some
                                  (Sum.inl
                                    (if (r7.snd == 0) = true then r7.fst else s1.fst, IntKind.i64.wrap (s1.snd.fst - 1),
                                      r8.snd))
                            else none
                      else none
                    else none
            else none
    else some (Sum.inr s1.fst)
def bitextlaw31_notes : Option (List Int) → Option (Option (List (Int × Int × Int × List UInt8 × List UInt8 × Int × Bool))) :=
  fun a0 =>
    callO (bitextlaw31_from a0) fun r1 =>
      callO (bitextmake_Numbers_Next 10 (r1.fst, r1.snd)) fun r2 =>
        callO (loopR (bitextlaw31_notes_l0 r1) (none, r2.fst, r2.snd)) fun r3 => some r3
end Go.Fn
/- bitext/bitextlaw31.long -/
namespace Go.Fn
open Go Go.Vs Go.Ve
set_option linter.unusedVariables false
def bitextlaw31_long_l0 : Option (List (Option (List Int))) → Int × Int → Option (Int × Int ⊕ Int) :=
  fun l s1 =>
    if decide (s1.snd < lenI (l.getD [])) = true then
      if decide (0 ≤ s1.snd ∧ s1.snd < lenI (l.getD [])) = true then
        some
          (Sum.inl
            (IntKind.i64.wrap (s1.fst + lenI (((l.getD []).getD s1.snd.toNat none).getD [])),
              IntKind.i64.wrap (s1.snd + 1)))
      else none
    else some (Sum.inr s1.fst)
def bitextlaw31_long : Option (List (Option (List Int))) → Option Bool :=
  fun l => callO (loopR (bitextlaw31_long_l0 l) (0, 0)) fun r1 => some (decide (r1 > 160))
end Go.Fn
/- bitext/bitextlaw31.big -/
namespace Go.Fn
open Go Go.Vs Go.Ve
set_option linter.unusedVariables false
def bitextlaw31_big_l0 : Option (List (Int × Int × Int × List UInt8 × List UInt8 × Int × Bool)) → Int × Int → Option (Int × Int ⊕ Int) :=
  fun l s1 =>
    if decide (s1.snd < lenI (l.getD [])) = true then
      if decide (0 ≤ s1.snd ∧ s1.snd < lenI (l.getD [])) = true then
        some
          (Sum.inl
            (IntKind.i64.wrap
                (s1.fst + lenI ((l.getD []).getD s1.snd.toNat (0, 0, 0, [], [], 0, false)).snd.snd.snd.snd.fst),
              IntKind.i64.wrap (s1.snd + 1)))
      else none
    else some (Sum.inr s1.fst)
def bitextlaw31_big : Option (List (Int × Int × Int × List UInt8 × List UInt8 × Int × Bool)) → Option Bool :=
  fun l => callO (loopR (bitextlaw31_big_l0 l) (lenI (l.getD []), 0)) fun r1 => some (decide (r1 > 1500))
end Go.Fn
/- Plain laws of the comments: lists that the statements make. -/
namespace Go.Fn
open Go Go.Vs Go.Ve
theorem known31_eq : bitextlaw31_known = some true := by kernel_rfl
theorem big_ok {l : Option (List Note)} (hl : (l.getD []).length ≤ 1099511627776) : Ok (bitextlaw31_big l) fun _ => True := by
  unfold bitextlaw31_big
  refine Ok.call (R := fun _ => True) (Ok.loop (fun s : Int × Int => ∃ k : Nat, s.2 = (k : Int) ∧ k ≤ (l.getD []).length) (fun s => (((l.getD []).length : Int) - s.2).toNat) ⟨0, rfl, Nat.zero_le _⟩ (by unfold fuel; dsimp only; omega) ?_) fun _ _ => Ok.ret trivial
  rintro ⟨n, i⟩ ⟨k, hk, hkl⟩
  simp only at hk
  subst hk
  rcases Nat.lt_or_ge k (l.getD []).length with h | h
  · have e : bitextlaw31_big_l0 l (n, (k : Int)) = some (.inl (IntKind.i64.wrap (n + lenI ((l.getD []).getD ((k : Int)).toNat (0, 0, 0, [], [], 0, false)).2.2.2.2.1), ((k + 1 : Nat) : Int))) := by
      unfold bitextlaw31_big_l0
      exact (rangeIn h).trans (by rw [wrap_succ h (by omega)])
    exact Ok.of_eq e ⟨⟨k + 1, rfl, h⟩, by dsimp only; omega⟩
  · have : k = (l.getD []).length := by omega
    subst this
    refine Ok.of_eq (x := .inr n) ?_ trivial
    unfold bitextlaw31_big_l0
    exact rangeOut
theorem long_eq {a : Option (List Int)} (ha : (a.getD []).length ≤ 1099511627776) : bitextlaw31_long (some [a]) = some (decide ((a.getD []).length > 160)) := by
  unfold bitextlaw31_long
  have w := fun (m : Int) (h : -9223372036854775808 ≤ m) (h2 : m ≤ 9223372036854775807) => wrap_i64 h h2
  rw [show ((0 : Int), (0 : Int)) = (fun i : Nat => ((if i = 0 then 0 else ((a.getD []).length : Int)), (i : Int))) 0 from rfl]
  rw [loopR_range (f := bitextlaw31_long_l0 (some [a])) 1 (fun i : Nat => ((if i = 0 then 0 else ((a.getD []).length : Int)), (i : Int))) (r := ((a.getD []).length : Int))]
  · rw [callO_some]
    congr 1
    simp only [decide_eq_decide]
    omega
  · intro i hi
    have : i = 0 := by omega
    subst this
    unfold bitextlaw31_long_l0
    refine dcT (show (0 : Int) < 1 by decide) (dcT (show (0 : Int) ≤ 0 ∧ (0 : Int) < 1 by decide) ?_)
    show some (Sum.inl (IntKind.i64.wrap (0 + ((a.getD []).length : Int)), IntKind.i64.wrap (0 + 1))) = _
    rw [Int.zero_add, w _ (by omega) (by omega)]
    rfl
  · rfl
  · decide
/-! ## Valid lists stay valid -/
theorem nget_app_l {l : List Note} {x : Note} {i : Nat} (h : i < l.length) : nget (l ++ [x]) i = nget l i := by
  unfold nget; rw [List.getD_eq_getElem?_getD, List.getD_eq_getElem?_getD, List.getElem?_append_left h]
theorem nget_app_r {l : List Note} {x : Note} : nget (l ++ [x]) l.length = x := by
  unfold nget; rw [List.getD_eq_getElem?_getD, List.getElem?_append_right (Nat.le_refl _), Nat.sub_self]; rfl
theorem nget_set {l : List Note} {v : Note} {k i : Nat} : nget (l.set k v) i = if i = k ∧ k < l.length then v else nget l i := by
  unfold nget
  rw [List.getD_eq_getElem?_getD, List.getD_eq_getElem?_getD, List.getElem?_set]
  by_cases h : k = i
  · subst h
    by_cases h2 : k < l.length
    · rw [if_pos rfl, if_pos h2, if_pos ⟨rfl, h2⟩]; rfl
    · rw [if_pos rfl, if_neg h2, if_neg (by omega), List.getElem?_eq_none (by omega)]
  · rw [if_neg h, if_neg (by omega)]
theorem nadd_cases (l : List Note) (s p : Int) (u t : List UInt8) (n : Int) : (∃ e, e ≠ 0 ∧ nadd l s p u t n = (none, e)) ∨
    (nadd l s p u t n = (some (l ++ [((l.length : Int) + 1, s, p, u, t, n, false)]), 0) ∧ NV (l ++ [((l.length : Int) + 1, s, p, u, t, n, false)])) := by
  unfold nadd
  by_cases c1 : nvalid l ≠ 0
  · rw [if_pos c1]; exact .inl ⟨_, c1, rfl⟩
  rw [if_neg c1]
  by_cases c2 : l.length = 512
  · rw [if_pos c2]; exact .inl ⟨_, by decide, rfl⟩
  rw [if_neg c2]
  by_cases c3 : s < 1
  · rw [if_pos c3]; exact .inl ⟨_, by decide, rfl⟩
  rw [if_neg c3]
  by_cases c4 : n < 0
  · rw [if_pos c4]; exact .inl ⟨_, by decide, rfl⟩
  rw [if_neg c4]
  by_cases c5 : n > 1073741824
  · rw [if_pos c5]; exact .inl ⟨_, by decide, rfl⟩
  rw [if_neg c5]
  by_cases c6 : textOk t = false
  · rw [if_pos c6]; exact .inl ⟨_, by decide, rfl⟩
  rw [if_neg c6]
  by_cases c7 : nameOk u = false
  · rw [if_pos c7]; exact .inl ⟨_, by decide, rfl⟩
  rw [if_neg c7]
  have hv : NV l := nvalid_zero.1 (Decidable.byContradiction c1)
  have hlen := hv.1
  have app : (p = 0 ∨ (1 ≤ p ∧ p ≤ l.length ∧ segm l p = s)) → NV (l ++ [((l.length : Int) + 1, s, p, u, t, n, false)]) := by
    intro hp
    refine ⟨by simp only [List.length_append, List.length_cons, List.length_nil]; omega, fun i hi => nerr_none.2 ?_⟩
    simp only [List.length_append, List.length_cons, List.length_nil] at hi
    rcases Nat.lt_or_ge i l.length with h | h
    · have g := hv.ok h
      rw [nget_app_l h]
      refine ⟨g.id, g.seg, g.par0, g.par1, g.time0, g.time1, g.text, g.name, fun q => ?_⟩
      have g0 := g.par0; have g1 := g.par1
      rw [nget_app_l (by omega)]
      exact g.up q
    · have : i = l.length := by omega
      subst this
      rw [nget_app_r]
      refine ⟨rfl, by dsimp only; omega, by dsimp only; omega, by dsimp only; omega, by dsimp only; omega, by dsimp only; omega, by simpa using c6, by simpa using c7, fun q => ?_⟩
      dsimp only at q ⊢
      rcases hp with hp | ⟨p1, p2, p3⟩
      · exact absurd hp q
      · rw [nget_app_l (by omega)]
        exact ⟨p3, rfl⟩
  by_cases c8 : p ≠ 0
  · rw [if_pos c8]
    by_cases c9 : p < 0 ∨ p > (l.length : Int)
    · rw [if_pos c9]; exact .inl ⟨_, by decide, rfl⟩
    rw [if_neg c9]
    by_cases c10 : segm l p ≠ s
    · rw [if_pos c10]; exact .inl ⟨_, by decide, rfl⟩
    rw [if_neg c10]
    by_cases c11 : closed l (root l p) = true
    · rw [if_pos c11]; exact .inl ⟨_, by decide, rfl⟩
    rw [if_neg c11]
    exact .inr ⟨rfl, app (.inr ⟨by omega, by omega, Decidable.byContradiction c10⟩)⟩
  · rw [if_neg c8]
    exact .inr ⟨rfl, app (.inl (Decidable.byContradiction c8))⟩
theorem nadd_ok {l : List Note} {s p : Int} {u t : List UInt8} {n : Int} (h : (nadd l s p u t n).2 = 0) : NV ((nadd l s p u t n).1.getD []) := by
  rcases nadd_cases l s p u t n with ⟨e, he, e1⟩ | ⟨e1, hv⟩
  · rw [e1] at h; exact absurd h he
  · rw [e1]; exact hv
theorem NV.shut {l : List Note} (h : NV l) {r : Nat} (hr : r < l.length) (hp : (nget l r).2.2.1 = 0) : NV (l.set r (shut (nget l r))) := by
  refine ⟨by rw [List.length_set]; exact h.1, fun i hi => nerr_none.2 ?_⟩
  rw [List.length_set] at hi
  have g := h.ok hi
  have up : ∀ k : Nat, (nget (l.set r (Go.Fn.shut (nget l r))) k).2.1 = (nget l k).2.1 := by
    intro k
    rw [nget_set]
    split
    · rename_i q; rw [q.1]; rfl
    · rfl
  by_cases hi2 : i = r
  · subst hi2
    rw [nget_set, if_pos ⟨rfl, hr⟩]
    exact ⟨g.id, g.seg, g.par0, g.par1, g.time0, g.time1, g.text, g.name, fun q => absurd hp q⟩
  · rw [nget_set, if_neg (by omega)]
    refine ⟨g.id, g.seg, g.par0, g.par1, g.time0, g.time1, g.text, g.name, fun q => ?_⟩
    rw [up]
    exact g.up q
theorem nclose_cases (l : List Note) (id : Int) : (∃ e, e ≠ 0 ∧ nclose l id = (none, e)) ∨
    (nclose l id = (some (l.set (root l id - 1).toNat (Go.Fn.shut (nget l (root l id - 1).toNat))), 0) ∧ NV l ∧ 1 ≤ id ∧ id ≤ l.length ∧ NV (l.set (root l id - 1).toNat (Go.Fn.shut (nget l (root l id - 1).toNat)))) := by
  unfold nclose
  by_cases c1 : nvalid l ≠ 0
  · rw [if_pos c1]; exact .inl ⟨_, c1, rfl⟩
  rw [if_neg c1]
  have hv : NV l := nvalid_zero.1 (Decidable.byContradiction c1)
  by_cases c2 : id < 1 ∨ id > (l.length : Int)
  · rw [if_pos c2]; exact .inl ⟨_, by decide, rfl⟩
  rw [if_neg c2]
  by_cases c3 : closed l (root l id) = true
  · rw [if_pos c3]; exact .inl ⟨_, by decide, rfl⟩
  rw [if_neg c3]
  obtain ⟨q0, q1, q2, q3⟩ := root_props hv id (by omega) (by omega)
  exact .inr ⟨rfl, hv, by omega, by omega, hv.shut (by omega) q2⟩
theorem nclose_ok {l : List Note} {id : Int} (h : (nclose l id).2 = 0) : NV ((nclose l id).1.getD []) := by
  rcases nclose_cases l id with ⟨e, he, e1⟩ | ⟨e1, _, _, _, hv⟩
  · rw [e1] at h; exact absurd h he
  · rw [e1]; exact hv
theorem nadd_len (l : List Note) (s p : Int) (u t : List UInt8) (n : Int) : ((nadd l s p u t n).1.getD []).length ≤ l.length + 1 := by
  rcases nadd_cases l s p u t n with ⟨e, he, e1⟩ | ⟨e1, hv⟩ <;> rw [e1] <;> simp
theorem nclose_len (l : List Note) (id : Int) : ((nclose l id).1.getD []).length ≤ l.length := by
  rcases nclose_cases l id with ⟨e, he, e1⟩ | ⟨e1, _⟩ <;> rw [e1] <;> simp
/-! ## Lists of comments that the statements make -/
theorem Name_ok {L : Option (List Int)} {k c : Int} (h : Num (L, k) c) (hc : c ≤ 1099511627776) : Ok (bitextmake_Name (L, k)) fun r => r.1.length ≤ 3 ∧ Num (L, r.2) (c + 1) := by
  unfold bitextmake_Name
  refine Ok.call (Next_ok h hc (by decide) (by decide)) fun r hr => ?_
  obtain ⟨h0, h1, h2⟩ := hr
  refine Ok.pos ?_ (Ok.ret ⟨?_, h2⟩)
  · rw [Bool.and_eq_true, decide_eq_true_iff, nlt_iff]; omega
  · exact table_ok (fun w => w.length ≤ 3) h0 h1 (by decide) (by decide)
theorem notes_ok {a : Option (List Int)} (ha : ∀ x ∈ a.getD [], In64 x) : Ok (bitextlaw31_notes a) fun o => NV (o.getD []) := by
  unfold bitextlaw31_notes bitextlaw31_from
  have h0 : Num (a, 0) 0 := ⟨ha, Int.le_refl _, Int.le_refl _⟩
  rw [callO_some]
  refine Ok.call (Next_ok h0 (by decide) (by decide) (by decide)) fun r hr => ?_
  obtain ⟨r0, r1, r2⟩ := hr
  refine Ok.call (Ok.loop (fun s => NV (s.1.getD []) ∧ 0 ≤ s.2.1 ∧ s.2.1 ≤ 9 ∧ Num (a, s.2.2) (1 + 8 * (9 - s.2.1))) (fun s => s.2.1.toNat) (R := fun o => NV (o.getD [])) ⟨⟨by simp, by simp⟩, r0, by dsimp only; omega, r2.le (by dsimp only; omega)⟩ (by unfold fuel; dsimp only; omega) ?_) fun o ho => ?_
  · rintro ⟨o, i, k⟩ ⟨hv, g0, g1, g2⟩
    dsimp only at hv g0 g1 g2
    have hlen := hv.1
    unfold bitextlaw31_notes_l0
    dsimp only
    refine Ok.dec (fun hi => ?_) fun hi => Ok.ret hv
    rw [lenI_eq, wrap_i64 (n := ((o.getD []).length : Int) + 1) (by omega) (by omega)]
    refine Ok.call (Next_ok g2 (by omega) (by omega) (by omega)) fun x hx => ?_
    refine Ok.call (Next_ok hx.2.2 (by omega) (by decide) (by decide)) fun y hy => ?_
    refine Ok.call (Next_ok hy.2.2 (by omega) (by decide) (by decide)) fun z hz => ?_
    have hm : IntKind.i64.wrap (x.1 * y.1) = 0 ∨ IntKind.i64.wrap (x.1 * y.1) = x.1 := by
      have := hy.1; have := hy.2.1; have := hx.1; have := hx.2.1
      rcases (by omega : y.1 = 0 ∨ y.1 = 1) with e | e
      · left; rw [e, Int.mul_zero]; rfl
      · right; rw [e, Int.mul_one, wrap_i64 (by omega) (by omega)]
    generalize IntKind.i64.wrap (x.1 * y.1) = p at hm
    have hp0 : 0 ≤ p ∧ p ≤ (o.getD []).length := by have := hx.1; have := hx.2.1; omega
    refine Ok.pos ?_ ?_
    · rw [Bool.or_eq_true, Bool.not_eq_true', decide_eq_false_iff_not]
      by_cases hp : p > 0
      · right
        have hr := inRange (xs := o.getD []) (p := p) (by omega) (by omega) (by omega)
        rw [hr.1]; exact hr.2
      · left; exact hp
    refine Ok.call (Name_ok hz.2.2 (by omega)) fun nm hnm => ?_
    refine Ok.call (Next_ok hnm.2 (by omega) (by decide) (by decide)) fun w hw => ?_
    refine Ok.call (Ok.of_eq (AddNote_eq hv.notesOk (by decide)) (Q := fun r => r.2 = 0 → NV (r.1.getD [])) nadd_ok) fun m hm2 => ?_
    refine Ok.pos (by simp) (Ok.pos (by simp) ?_)
    refine Ok.call (Next_ok hw.2.2 (by omega) (by decide) (by decide)) fun v hv3 => ?_
    have hcur : NV ((if (m.2 == 0) = true then m.1 else o).getD []) := by
      by_cases hm0 : m.2 = 0
      · rw [if_pos (by simpa using hm0)]; exact hm2 hm0
      · rw [if_neg (by simpa using hm0)]; exact hv
    generalize (if (m.2 == 0) = true then m.1 else o) = cur at hcur
    refine Ok.call (Ok.of_eq (CloseNote_eq hcur.notesOk) (Q := fun r => r.2 = 0 → NV (r.1.getD [])) nclose_ok) fun q hq => ?_
    refine Ok.pos (by simp) (Ok.ite (fun hq0 => ?_) fun _ => ?_)
    · have hq0 : q.2 = 0 := by simpa using hq0
      refine Ok.call (Next_ok hv3.2.2 (by omega) (by decide) (by decide)) fun b hb => ?_
      refine Ok.pos (by simp) (Ok.ret ⟨⟨?_, ?_, ?_, ?_⟩, ?_⟩)
      · dsimp only
        split
        · exact hq hq0
        · exact hcur
      · dsimp only; rw [wrap_i64 (by omega) (by omega)]; omega
      · dsimp only; rw [wrap_i64 (by omega) (by omega)]; omega
      · dsimp only; rw [wrap_i64 (n := i - 1) (by omega) (by omega)]; exact hb.2.2.le (by omega)
      · dsimp only; rw [wrap_i64 (by omega) (by omega)]; omega
    · refine Ok.ret ⟨⟨hcur, ?_, ?_, ?_⟩, ?_⟩
      · dsimp only; rw [wrap_i64 (by omega) (by omega)]; omega
      · dsimp only; rw [wrap_i64 (by omega) (by omega)]; omega
      · dsimp only; rw [wrap_i64 (n := i - 1) (by omega) (by omega)]; exact hv3.2.2.le (by omega)
      · dsimp only; rw [wrap_i64 (by omega) (by omega)]; omega
  · exact Ok.ret ho
end Go.Fn
/- bitext/bitextlaw31.CommentAdds -/
namespace Go.Fn
open Go Go.Vs Go.Ve
set_option linter.unusedVariables false
def bitextlaw31_CommentAdds_l2 : Option (List (Int × Int × Int × List UInt8 × List UInt8 × Int × Bool)) →
    Int →
      Int →
        List UInt8 →
          List UInt8 →
            Int →
              Option (List (Int × Int × Int × List UInt8 × List UInt8 × Int × Bool)) →
                Int → Int → Int → Int → Int → Int → Option (Int ⊕ Bool ⊕ Unit) :=
  fun a0 a2 a3 a4 a5 a6 r1 s1 r2 r3 r4 s2 s3 =>
    if decide (s3 < lenI [(a4, a5), ([97, 110, 110], a5), ([97, 110, 110], [115, 111])]) = true then
      if
          (decide (0 ≤ s3 ∧ s3 < lenI [(a4, a5), ([97, 110, 110], a5), ([97, 110, 110], [115, 111])]) &&
              nlt (0 + s3.toNat) [(a4, a5), ([97, 110, 110], a5), ([97, 110, 110], [115, 111])].length) =
            true then
        callO
          (comment_Add ([a0, r1].getD (0 + s1.toNat) none)
            ([(a2, a3, a6), (IntKind.i64.wrap (1 + r2), r3, r4)].getD (0 + s2.toNat) (0, 0, 0)).fst
            ([(a2, a3, a6), (IntKind.i64.wrap (1 + r2), r3, r4)].getD (0 + s2.toNat) (0, 0, 0)).snd.fst
            ([(a4, a5), ([97, 110, 110], a5), ([97, 110, 110], [115, 111])].getD (0 + s3.toNat) ([], [])).fst
            ([(a4, a5), ([97, 110, 110], a5), ([97, 110, 110], [115, 111])].getD (0 + s3.toNat) ([], [])).snd
            ([(a2, a3, a6), (IntKind.i64.wrap (1 + r2), r3, r4)].getD (0 + s2.toNat) (0, 0, 0)).snd.snd)
          fun r5 =>
          if
              (r5.fst.isSome == r5.fst.isSome &&
                  (r5.fst.isSome == r5.fst.isSome && r5.fst.isSome == r5.fst.isSome)) =
                true then
            callO
              (bitextref28_AddNote ([a0, r1].getD (0 + s1.toNat) none)
                ([(a2, a3, a6), (IntKind.i64.wrap (1 + r2), r3, r4)].getD (0 + s2.toNat) (0, 0, 0)).fst
                ([(a2, a3, a6), (IntKind.i64.wrap (1 + r2), r3, r4)].getD (0 + s2.toNat) (0, 0, 0)).snd.fst
                ([(a4, a5), ([97, 110, 110], a5), ([97, 110, 110], [115, 111])].getD (0 + s3.toNat) ([], [])).fst
                ([(a4, a5), ([97, 110, 110], a5), ([97, 110, 110], [115, 111])].getD (0 + s3.toNat) ([], [])).snd
                ([(a2, a3, a6), (IntKind.i64.wrap (1 + r2), r3, r4)].getD (0 + s2.toNat) (0, 0, 0)).snd.snd)
              fun r6 =>
              if
                  (r6.fst.isSome == r6.fst.isSome &&
                      (r6.fst.isSome == r6.fst.isSome && r6.fst.isSome == r6.fst.isSome)) =
                    true then
                if (r5.snd != r6.snd) = true then some (Sum.inr (Sum.inl false))
                else
                  if (r5.fst.isSome == r5.fst.isSome) = true then
                    if (r6.fst.isSome == r6.fst.isSome) = true then
                      callO (bitextref28_SameNotes_o0_1 r5.fst r6.fst) fun r7 =>
                        if (!r7) = true then some (Sum.inr (Sum.inl false))
                        else some (Sum.inl (IntKind.i64.wrap (s3 + 1)))
                    else none
                  else none
              else none
          else none
      else none
    else some (Sum.inr (Sum.inr ()))
def bitextlaw31_CommentAdds_l1 : Option (List (Int × Int × Int × List UInt8 × List UInt8 × Int × Bool)) →
    Int →
      Int →
        List UInt8 →
          List UInt8 →
            Int →
              Option (List (Int × Int × Int × List UInt8 × List UInt8 × Int × Bool)) →
                Int → Int → Int → Int → Int → Option (Int ⊕ Bool ⊕ Unit) :=
  fun a0 a2 a3 a4 a5 a6 r1 s1 r2 r3 r4 s2 =>
    if decide (s2 < lenI [(a2, a3, a6), (IntKind.i64.wrap (1 + r2), r3, r4)]) = true then
      if
          (decide (0 ≤ s2 ∧ s2 < lenI [(a2, a3, a6), (IntKind.i64.wrap (1 + r2), r3, r4)]) &&
              nlt (0 + s2.toNat) [(a2, a3, a6), (IntKind.i64.wrap (1 + r2), r3, r4)].length) =
            true then
        callO (loopR (bitextlaw31_CommentAdds_l2 a0 a2 a3 a4 a5 a6 r1 s1 r2 r3 r4 s2) 0) fun r5 =>
          sumO r5 (fun r6 => some (Sum.inr (Sum.inl r6))) fun r7 => some (Sum.inl (IntKind.i64.wrap (s2 + 1)))
      else none
    else some (Sum.inr (Sum.inr ()))
def bitextlaw31_CommentAdds_l0 : Option (List (Int × Int × Int × List UInt8 × List UInt8 × Int × Bool)) →
    Int →
      Int →
        List UInt8 →
          List UInt8 →
            Int →
              Option (List (Int × Int × Int × List UInt8 × List UInt8 × Int × Bool)) → Int → Option (Int ⊕ Bool ⊕ Unit) :=
  fun a0 a2 a3 a4 a5 a6 r1 s1 =>
    if decide (s1 < lenI [a0, r1]) = true then
      if (decide (0 ≤ s1 ∧ s1 < lenI [a0, r1]) && nlt (0 + s1.toNat) [a0, r1].length) = true then
        callO (bitextmake_Place a2 3) fun r2 =>
          callO (bitextmake_Place a3 (IntKind.i64.wrap (lenI (([a0, r1].getD (0 + s1.toNat) none).getD []) + 2)))
            fun r3 =>
            callO (bitextmake_Place a6 9) fun r4 =>
              callO (loopR (bitextlaw31_CommentAdds_l1 a0 a2 a3 a4 a5 a6 r1 s1 r2 r3 r4) 0) fun r5 =>
                sumO r5 (fun r6 => some (Sum.inr (Sum.inl r6))) fun r7 => some (Sum.inl (IntKind.i64.wrap (s1 + 1)))
      else none
    else some (Sum.inr (Sum.inr ()))
def bitextlaw31_CommentAdds : Option (List (Int × Int × Int × List UInt8 × List UInt8 × Int × Bool)) →
    Option (List Int) → Int → Int → List UInt8 → List UInt8 → Int → Option Bool :=
  fun a0 a1 a2 a3 a4 a5 a6 =>
    callO (bitextlaw31_long (some [a1])) fun r1 =>
      if r1 = true then callO bitextlaw31_known fun r2 => some r2
      else
        callO (bitextlaw31_big a0) fun r3 =>
          if (r3 || (decide (lenI a4 > 100) || decide (lenI a5 > 700))) = true then
            callO bitextlaw31_known fun r4 => some r4
          else
            callO (bitextlaw31_notes a1) fun r5 =>
              callO (loopR (bitextlaw31_CommentAdds_l0 a0 a2 a3 a4 a5 a6 r5) 0) fun r6 =>
                sumO r6 (fun r7 => some r7) fun r8 => callO bitextlaw31_known fun r9 => some r9
end Go.Fn
/- bitext/bitextlaw31.CommentCloses -/
namespace Go.Fn
open Go Go.Vs Go.Ve
set_option linter.unusedVariables false
def bitextlaw31_CommentCloses_l1 : Option (List (Int × Int × Int × List UInt8 × List UInt8 × Int × Bool)) →
    Int →
      Option (List (Int × Int × Int × List UInt8 × List UInt8 × Int × Bool)) →
        Int → Int → Int → Option (Int ⊕ Bool ⊕ Unit) :=
  fun a0 a2 r1 s1 r2 s2 =>
    if decide (s2 < lenI [a2, r2]) = true then
      if (decide (0 ≤ s2 ∧ s2 < lenI [a2, r2]) && nlt (0 + s2.toNat) [a2, r2].length) = true then
        callO (comment_Close ([a0, r1].getD (0 + s1.toNat) none) ([a2, r2].getD (0 + s2.toNat) 0)) fun r3 =>
          if
              (r3.fst.isSome == r3.fst.isSome &&
                  (r3.fst.isSome == r3.fst.isSome && r3.fst.isSome == r3.fst.isSome)) =
                true then
            callO (bitextref28_CloseNote ([a0, r1].getD (0 + s1.toNat) none) ([a2, r2].getD (0 + s2.toNat) 0))
              fun r4 =>
              if
                  (r4.fst.isSome == r4.fst.isSome &&
                      (r4.fst.isSome == r4.fst.isSome && r4.fst.isSome == r4.fst.isSome)) =
                    true then
                if (r3.snd != r4.snd) = true then some (Sum.inr (Sum.inl false))
                else
                  if (r3.fst.isSome == r3.fst.isSome) = true then
                    if (r4.fst.isSome == r4.fst.isSome) = true then
                      callO (bitextref28_SameNotes_o0_1 r3.fst r4.fst) fun r5 =>
                        if (!r5) = true then some (Sum.inr (Sum.inl false))
                        else
                          if (r3.snd == 0) = true then
                            if (r3.fst.isSome == r3.fst.isSome) = true then
                              callO (comment_Close_o0 r3.fst ([a2, r2].getD (0 + s2.toNat) 0)) fun r6 =>
                                if
                                    (r6.fst.isSome == r6.fst.isSome &&
                                        (r6.fst.isSome == r6.fst.isSome && r6.fst.isSome == r6.fst.isSome)) =
                                      true then
                                  if (r6.snd != 8) = true then some (Sum.inr (Sum.inl false))
                                  else
                                    if (r3.fst.isSome == r3.fst.isSome) = true then
                                      callO (comment_Validate_o0 r3.fst) fun r7 =>
                                        if (r7 != 0) = true then some (Sum.inr (Sum.inl false))
                                        else some (Sum.inl (IntKind.i64.wrap (s2 + 1)))
                                    else none
                                else none
                            else none
                          else some (Sum.inl (IntKind.i64.wrap (s2 + 1)))
                    else none
                  else none
              else none
          else none
      else none
    else some (Sum.inr (Sum.inr ()))
def bitextlaw31_CommentCloses_l0 : Option (List (Int × Int × Int × List UInt8 × List UInt8 × Int × Bool)) →
    Int → Option (List (Int × Int × Int × List UInt8 × List UInt8 × Int × Bool)) → Int → Option (Int ⊕ Bool ⊕ Unit) :=
  fun a0 a2 r1 s1 =>
    if decide (s1 < lenI [a0, r1]) = true then
      if (decide (0 ≤ s1 ∧ s1 < lenI [a0, r1]) && nlt (0 + s1.toNat) [a0, r1].length) = true then
        callO (bitextmake_Place a2 (IntKind.i64.wrap (lenI (([a0, r1].getD (0 + s1.toNat) none).getD []) + 2)))
          fun r2 =>
          callO (loopR (bitextlaw31_CommentCloses_l1 a0 a2 r1 s1 r2) 0) fun r3 =>
            sumO r3 (fun r4 => some (Sum.inr (Sum.inl r4))) fun r5 => some (Sum.inl (IntKind.i64.wrap (s1 + 1)))
      else none
    else some (Sum.inr (Sum.inr ()))
def bitextlaw31_CommentCloses : Option (List (Int × Int × Int × List UInt8 × List UInt8 × Int × Bool)) → Option (List Int) → Int → Option Bool :=
  fun a0 a1 a2 =>
    callO (bitextlaw31_long (some [a1])) fun r1 =>
      if r1 = true then callO bitextlaw31_known fun r2 => some r2
      else
        callO (bitextlaw31_big a0) fun r3 =>
          if r3 = true then callO bitextlaw31_known fun r4 => some r4
          else
            callO (bitextlaw31_notes a1) fun r5 =>
              callO (loopR (bitextlaw31_CommentCloses_l0 a0 a2 r5) 0) fun r6 =>
                sumO r6 (fun r7 => some r7) fun r8 => callO bitextlaw31_known fun r9 => some r9
end Go.Fn
/- The statements on adding and closing, in plain Lean. -/
namespace Go.Fn
open Go Go.Vs Go.Ve
theorem Close_o0 (l : Option (List Note)) (id : Int) : comment_Close_o0 l id = comment_Close l id := by
  unfold comment_Close_o0 comment_Close slices_Clone_api_Note_o0 slices_Clone_api_Note
  simp only [Validate_o0, root_o0, beq_self_eq_true, if_true, Nat.zero_add, guard_nlt, guard_nlt2, Bool.true_and]
theorem at_ok {a b : Option (List Note)} (P : List Note → Prop) (ha : P (a.getD [])) (hb : P (b.getD [])) {i : Nat} (hi : i < 2) : P (([a, b].getD (0 + ((i : Nat) : Int).toNat) none).getD []) := by
  match i, hi with
  | 0, _ => exact ha
  | 1, _ => exact hb
theorem adds_holds (a0 : Option (List Note)) (a1 : Option (List Int)) (a2 a3 : Int) (a4 a5 : List UInt8) (a6 : Int) (h0 : NotesOk (a0.getD [])) (hl : (a0.getD []).length ≤ 1048576) (h1 : ∀ x ∈ a1.getD [], In64 x) (hl1 : (a1.getD []).length ≤ 1048576)
    (h2 : In64 a2) (h3 : In64 a3) (h6 : In64 a6) (hl5 : a5.length ≤ 1048576) : bitextlaw31_CommentAdds a0 a1 a2 a3 a4 a5 a6 = some true := by
  unfold bitextlaw31_CommentAdds
  refine callT (long_eq (by omega)) (?_ : (if decide _ = true then _ else _) = _)
  by_cases c1 : (a1.getD []).length > 160
  · exact dcT c1 (callT known31_eq rfl)
  refine dcF c1 ?_
  obtain ⟨b, hb, _⟩ := big_ok (l := a0) (by omega)
  refine callT hb ?_
  by_cases c2 : (b || (decide (lenI a4 > 100) || decide (lenI a5 > 700))) = true
  · exact ifT c2 (callT known31_eq rfl)
  refine ifF c2 ?_
  obtain ⟨m, hm, hv⟩ := notes_ok h1
  refine callT hm ?_
  have P : ∀ i : Nat, i < 2 → NotesOk (([a0, m].getD (0 + ((i : Nat) : Int).toNat) none).getD []) := fun i hi => at_ok NotesOk h0 hv.notesOk hi
  have PL : ∀ i : Nat, i < 2 → (([a0, m].getD (0 + ((i : Nat) : Int).toNat) none).getD []).length ≤ 1048576 := fun i hi => at_ok (fun l => l.length ≤ 1048576) hl (by have := hv.1; omega) hi
  rw [loopR_scan0 2 (fun _ => none)]
  · rw [(scan_none _ _).2 (fun _ _ _ => rfl)]
    exact callT rfl (callT known31_eq rfl)
  · intro i hi
    unfold bitextlaw31_CommentAdds_l0
    refine (rangeIn1 (xs := [a0, m]) hi).trans (ifT (guard0 hi) ?_)
    refine callT (place_eq h2 (by decide) (by decide)) ?_
    have hx := P i hi
    have hxl := PL i hi
    refine callT (by rw [lenI_eq, wrap_i64 (by omega) (by omega)]; exact place_eq h3 (by omega) (by omega)) (callT (place_eq h6 (by decide) (by decide)) ?_)
    refine callT (v := toSum none) ?_ ?_
    · rw [loopR_scan0 2 (fun _ => none)]
      · rw [(scan_none _ _).2 (fun _ _ _ => rfl)]
      · intro j hj
        unfold bitextlaw31_CommentAdds_l1
        refine (rangeIn1 (xs := [(a2, a3, a6), _]) hj).trans (ifT (guard0 hj) ?_)
        refine callT (v := toSum none) ?_ ?_
        · rw [loopR_scan0 3 (fun _ => none)]
          · rw [(scan_none _ _).2 (fun _ _ _ => rfl)]
          · intro k hk
            unfold bitextlaw31_CommentAdds_l2
            refine (rangeIn1 (xs := [(a4, a5), _, _]) hk).trans (ifT (guard0 hk) ?_)
            have ht : ([(a4, a5), ([97, 110, 110], a5), ([97, 110, 110], [115, 111])].getD (0 + ((k : Nat) : Int).toNat) ([], [])).2.length ≤ 4611686018427387904 := by
              match k, hk with
              | 0, _ => exact Nat.le_trans hl5 (by decide)
              | 1, _ => exact Nat.le_trans hl5 (by decide)
              | 2, _ => exact (by decide : 2 ≤ 4611686018427387904)
            refine callT (Add_eq hx ht) (ifT (by simp) (callT (AddNote_eq hx ht) (ifT (by simp) (ifF (by simp) (sfT (sfT (callT (same_notes_o0_1 rfl ?_) (ifF (by simp) ?_))))))))
            · exact Nat.le_trans (nadd_len _ _ _ _ _ _) (by omega)
            · show some (Sum.inl (IntKind.i64.wrap ((k : Int) + 1))) = _
              rw [wrap_succ hk (by decide)]; rfl
          · unfold bitextlaw31_CommentAdds_l2
            exact rangeOut (xs := [(a4, a5), _, _])
          · decide
        · show some (Sum.inl (IntKind.i64.wrap ((j : Int) + 1))) = _
          rw [wrap_succ hj (by decide)]; rfl
      · unfold bitextlaw31_CommentAdds_l1
        exact rangeOut (xs := [(a2, a3, a6), _])
      · decide
    · show some (Sum.inl (IntKind.i64.wrap ((i : Int) + 1))) = _
      rw [wrap_succ hi (by decide)]; rfl
  · unfold bitextlaw31_CommentAdds_l0
    exact rangeOut (xs := [a0, m])
  · decide
theorem ValidNV {l : Option (List Note)} (h : NV (l.getD [])) : comment_Validate l = some 0 := by rw [Validate_eq h.notesOk, nvalid_zero.2 h]
/-- a thread that was closed -/
theorem close_again {l : Option (List Note)} {id : Int} (h : NotesOk (l.getD [])) (h2 : (nclose (l.getD []) id).2 = 0) :
    comment_Close (nclose (l.getD []) id).1 id = some (none, 8) ∧ comment_Validate (nclose (l.getD []) id).1 = some 0 := by
  rcases nclose_cases (l.getD []) id with ⟨e, he, e1⟩ | ⟨e1, hv, i0, i1, hn⟩
  · rw [e1] at h2; exact absurd h2 he
  rw [e1]
  obtain ⟨q0, q1, q2, q3⟩ := root_props hv id i0 i1
  generalize hr : root (l.getD []) id = r at *
  refine ⟨?_, ValidNV hn⟩
  rw [Close_eq (l := some ((l.getD []).set (r - 1).toNat (Go.Fn.shut (nget (l.getD []) (r - 1).toNat)))) hn.notesOk]
  show some (nclose ((l.getD []).set (r - 1).toNat (Go.Fn.shut (nget (l.getD []) (r - 1).toNat))) id) = _
  have hpar : ∀ k : Int, Go.Fn.par ((l.getD []).set (r - 1).toNat (Go.Fn.shut (nget (l.getD []) (r - 1).toNat))) k = Go.Fn.par (l.getD []) k := by
    intro k
    unfold Go.Fn.par
    rw [nget_set]
    split
    · rename_i q; rw [q.1]; rfl
    · rfl
  have hroot : root ((l.getD []).set (r - 1).toNat (Go.Fn.shut (nget (l.getD []) (r - 1).toNat))) id = r := by
    have : ∀ (k : Nat) (j : Int), rootN ((l.getD []).set (r - 1).toNat (Go.Fn.shut (nget (l.getD []) (r - 1).toNat))) k j = rootN (l.getD []) k j := by
      intro k
      induction k with
      | zero => intro j; rfl
      | succ k ih => intro j; unfold rootN; rw [hpar, ih]
    refine Eq.trans ?_ hr
    unfold root
    rw [List.length_set]
    exact this _ _
  unfold nclose
  rw [if_neg (by rw [nvalid_zero.2 hn]; simp), if_neg (by rw [List.length_set]; omega), hroot, if_pos]
  unfold closed
  rw [nget_set, if_pos ⟨rfl, by omega⟩]
  rfl
theorem closes_holds (a0 : Option (List Note)) (a1 : Option (List Int)) (a2 : Int) (h0 : NotesOk (a0.getD [])) (hl : (a0.getD []).length ≤ 1048576) (h1 : ∀ x ∈ a1.getD [], In64 x) (hl1 : (a1.getD []).length ≤ 1048576)
    (h2 : In64 a2) : bitextlaw31_CommentCloses a0 a1 a2 = some true := by
  unfold bitextlaw31_CommentCloses
  refine callT (long_eq (by omega)) (?_ : (if decide _ = true then _ else _) = _)
  by_cases c1 : (a1.getD []).length > 160
  · exact dcT c1 (callT known31_eq rfl)
  refine dcF c1 ?_
  obtain ⟨b, hb, _⟩ := big_ok (l := a0) (by omega)
  refine callT hb ?_
  by_cases c2 : b = true
  · exact ifT c2 (callT known31_eq rfl)
  refine ifF c2 ?_
  obtain ⟨m, hm, hv⟩ := notes_ok h1
  refine callT hm ?_
  have P : ∀ i : Nat, i < 2 → NotesOk (([a0, m].getD (0 + ((i : Nat) : Int).toNat) none).getD []) := fun i hi => at_ok NotesOk h0 hv.notesOk hi
  have PL : ∀ i : Nat, i < 2 → (([a0, m].getD (0 + ((i : Nat) : Int).toNat) none).getD []).length ≤ 1048576 := fun i hi => at_ok (fun l => l.length ≤ 1048576) hl (by have := hv.1; omega) hi
  rw [loopR_scan0 2 (fun _ => none)]
  · rw [(scan_none _ _).2 (fun _ _ _ => rfl)]
    exact callT rfl (callT known31_eq rfl)
  · intro i hi
    unfold bitextlaw31_CommentCloses_l0
    refine (rangeIn1 (xs := [a0, m]) hi).trans (ifT (guard0 hi) ?_)
    have hx := P i hi
    have hxl := PL i hi
    refine callT (by rw [lenI_eq, wrap_i64 (by omega) (by omega)]; exact place_eq h2 (by omega) (by omega)) ?_
    refine callT (v := toSum none) ?_ ?_
    · rw [loopR_scan0 2 (fun _ => none)]
      · rw [(scan_none _ _).2 (fun _ _ _ => rfl)]
      · intro j hj
        unfold bitextlaw31_CommentCloses_l1
        refine (rangeIn1 (xs := [a2, _]) hj).trans (ifT (guard0 hj) ?_)
        refine callT (Close_eq hx) (ifT (by simp) (callT (CloseNote_eq hx) (ifT (by simp) (ifF (by simp) (sfT (sfT (callT (same_notes_o0_1 rfl ?_) (ifF (by simp) ?_))))))))
        · exact Nat.le_trans (nclose_len _ _) (by omega)
        · have hw : IntKind.i64.wrap ((j : Int) + 1) = ((j + 1 : Nat) : Int) := wrap_succ hj (by decide)
          rw [hw]
          by_cases hz : (nclose (([a0, m].getD (0 + ((i : Nat) : Int).toNat) none).getD []) ([a2, a2 % ((([a0, m].getD (0 + ((i : Nat) : Int).toNat) none).getD []).length + 2)].getD (0 + ((j : Nat) : Int).toNat) 0)).2 = 0
          · obtain ⟨g1, g2⟩ := close_again hx hz
            rw [Close_o0, Validate_o0]
            exact ifT (by rw [beq_iff_eq]; exact hz) (sfT (callT g1 (ifT (by simp) (ifF (by simp) (sfT (callT g2 (ifF (by simp) rfl)))))))
          · exact ifF (by rw [beq_iff_eq]; exact hz) rfl
      · unfold bitextlaw31_CommentCloses_l1
        exact rangeOut (xs := [a2, _])
      · decide
    · show some (Sum.inl (IntKind.i64.wrap ((i : Int) + 1))) = _
      rw [wrap_succ hi (by decide)]; rfl
  · unfold bitextlaw31_CommentCloses_l0
    exact rangeOut (xs := [a0, m])
  · decide
end Go.Fn
/- Comments as arguments. -/
namespace Go.Fn
open Go Go.Vs Go.Ve
abbrev NT : Ty := .pair (.int .i64) (.pair (.int .i64) (.pair (.int .i64) (.pair .str (.pair .str (.pair (.int .i64) .bool)))))
theorem sum_le {α : Type} {f : α → Nat} : ∀ {l : List α} {x : α}, x ∈ l → f x ≤ (l.map f).sum
  | a :: l, x, h => by
    simp only [List.map_cons, List.sum_cons]
    rcases List.mem_cons.1 h with rfl | h
    · omega
    · have := sum_le (f := f) h; omega
theorem NotesOk_of {o : Option (List Note)} (h : Wf (.sl NT) o) (hb : bulkT (.sl NT) o ≤ 1048576) : NotesOk (o.getD []) := by
  cases o with
  | none => intro x hx; cases hx
  | some xs =>
    intro x hx
    have hw := h x hx
    have h1 : bulkT NT x ≤ (xs.map (bulkT NT)).sum := sum_le hx
    have h2 : (xs.map (bulkT NT)).sum ≤ bulkT (.sl NT) (some xs) := Nat.le_add_right _ _
    have h3 : x.2.2.2.2.1.length ≤ bulkT NT x := by
      show _ ≤ 1 + (1 + (1 + ((x.2.2.2.1.length + 1) + ((x.2.2.2.2.1.length + 1) + (1 + 1)))))
      omega
    exact ⟨hw.1, hw.2.2.1, by omega, hw.2.2.2.2.2.1⟩
end Go.Fn
/- The statement on limits of comments, in plain Lean. -/
namespace Go.Fn
open Go Go.Vs Go.Ve
theorem ValidateNotes_o0 (l : Option (List Note)) : bitextref28_ValidateNotes_o0 l = bitextref28_ValidateNotes l := by
  unfold bitextref28_ValidateNotes_o0 bitextref28_ValidateNotes
  have : bitextref28_ValidateNotes_o0_l0 l = bitextref28_ValidateNotes_l0 l := by
    funext s
    unfold bitextref28_ValidateNotes_o0_l0 bitextref28_ValidateNotes_l0
    simp only [Nat.zero_add, guard_nlt]
  rw [this]
theorem root28_o0 (l : Option (List Note)) (id : Int) : bitextref28_root_o0 l id = bitextref28_root l id := by
  unfold bitextref28_root_o0 bitextref28_root
  have : bitextref28_root_o0_l0 l = bitextref28_root_l0 l := by
    funext s
    unfold bitextref28_root_o0_l0 bitextref28_root_l0
    simp only [Nat.zero_add, guard_nlt]
  rw [this]
theorem Clone_o0 (l : Option (List Note)) : slices_Clone_api_Note_o0 l = slices_Clone_api_Note l := by
  unfold slices_Clone_api_Note_o0 slices_Clone_api_Note
  simp only [beq_self_eq_true, Bool.true_and]
theorem Add_o0 (l : Option (List Note)) (s p : Int) (u t : List UInt8) (n : Int) : comment_Add_o0 l s p u t n = comment_Add l s p u t n := by
  unfold comment_Add_o0 comment_Add
  simp only [Validate_o0, root_o0, Clone_o0, beq_self_eq_true, if_true, Nat.zero_add, guard_nlt, Bool.true_and]
theorem AddNote_o0 (l : Option (List Note)) (s p : Int) (u t : List UInt8) (n : Int) : bitextref28_AddNote_o0 l s p u t n = bitextref28_AddNote l s p u t n := by
  unfold bitextref28_AddNote_o0 bitextref28_AddNote
  simp only [ValidateNotes_o0, root28_o0, beq_self_eq_true, if_true, Nat.zero_add, guard_nlt, Bool.true_and]
def mk1 (j : Nat) : Note := ((j : Int) + 1, 1, 0, [97, 110, 110], [116], 0, false)
def mkN (k : Nat) : List Note := (List.range k).map mk1
theorem mkN_len (k : Nat) : (mkN k).length = k := by simp [mkN]
theorem mkN_ok (k : Nat) (hk : k ≤ 1048576) : NotesOk (mkN k) := by
  intro x hx
  simp only [mkN, List.mem_map, List.mem_range] at hx
  obtain ⟨j, hj, rfl⟩ := hx
  unfold mk1 In64
  refine ⟨?_, ?_, (by decide : 1 ≤ 4611686018427387904), ?_⟩
  · dsimp only; omega
  · dsimp only; omega
  · dsimp only; omega
theorem mk_loop (n : Nat) (hn : n ≤ 1048576) : loopR bitextlaw31_CommentLimits_l0 (none, (n : Int)) = some (accL (mkN n)) := by
  have := loopR_range (f := bitextlaw31_CommentLimits_l0) n (fun i => (accL (mkN i), ((n - i : Nat) : Int))) (r := accL (mkN n)) ?_ ?_ (by unfold fuel; omega)
  · exact this
  · intro i hi
    unfold bitextlaw31_CommentLimits_l0
    refine dcT (by dsimp only; omega) (ifT ?_ ?_)
    · simp only [accL_getD, beq_self_eq_true, Bool.and_true, Bool.and_eq_true, decide_eq_true_eq, List.length_cons, List.length_nil, mkN_len]
      omega
    · have e1 : IntKind.i64.wrap (lenI ((accL (mkN i)).getD []) + 1) = (i : Int) + 1 := by rw [lenI_eq, accL_getD, mkN_len, wrap_i64 (by omega) (by omega)]
      have e2 : IntKind.i64.wrap (((n - i : Nat) : Int) - 1) = ((n - (i + 1) : Nat) : Int) := by rw [wrap_i64 (by omega) (by omega)]; omega
      rw [e1, e2, accL_snoc]
      have : mkN (i + 1) = mkN i ++ [mk1 i] := by unfold mkN; rw [List.range_succ, List.map_append]; rfl
      rw [this]
      rfl
  · unfold bitextlaw31_CommentLimits_l0
    refine dcF (by dsimp only; omega) rfl
theorem limits31_holds (a0 a1 : Int) (h0 : In64 a0) (h1 : In64 a1) : bitextlaw31_CommentLimits a0 a1 = some true := by
  suffices h : Ok (bitextlaw31_CommentLimits a0 a1) (fun r => r = true) by
    obtain ⟨x, e, rfl⟩ := h
    exact e
  unfold bitextlaw31_CommentLimits
  have b0 := Int.emod_nonneg a0 (show (3 : Int) ≠ 0 by decide)
  have b1 := Int.emod_lt_of_pos a0 (show (0 : Int) < 3 by decide)
  have c0 := Int.emod_nonneg a1 (show (3 : Int) ≠ 0 by decide)
  have c1 := Int.emod_lt_of_pos a1 (show (0 : Int) < 3 by decide)
  rw [place_eq h0 (by decide) (by decide), place_eq h1 (by decide) (by decide)]
  simp only [callO_some]
  generalize a0 % 3 = a at b0 b1
  generalize a1 % 3 = b at c0 c1
  rw [wrap_i64 (n := a + 512) (by omega) (by omega), wrap_i64 (n := a + 512 - 1) (by omega) (by omega), wrap_i64 (n := 499 + b) (by omega) (by omega)]
  obtain ⟨n, hn⟩ := Int.eq_ofNat_of_zero_le (show 0 ≤ a + 512 - 1 by omega)
  rw [hn, mk_loop n (by omega), callO_some]
  refine Ok.grd (by omega) ?_
  obtain ⟨m, hm⟩ := Int.eq_ofNat_of_zero_le (show 0 ≤ 499 + b by omega)
  refine Ok.call (Ok.loop (fun s : List Int × Int => ∃ k : Nat, s.2 = (k : Int) ∧ k ≤ m ∧ s.1.length = m) (fun s => ((m : Int) - s.2).toNat) (R := fun r => r.length = m) ⟨0, rfl, Nat.zero_le _, by rw [List.length_replicate, hm]; rfl⟩ (by unfold fuel; dsimp only; omega) ?_) fun r hr => ?_
  · rintro ⟨s, i⟩ ⟨k, hk, hkm, hs⟩
    dsimp only at hk hs
    subst hk
    have hlr : lenI (List.replicate (IntKind.i64.wrap (499 + b)).toNat (0 : Int)) = (m : Int) := by rw [lenI_eq, List.length_replicate, wrap_i64 (by omega) (by omega), hm]; rfl
    unfold bitextlaw31_CommentLimits_l1
    rw [hlr]
    refine Ok.dec (fun hi => ?_) fun hi => Ok.ret hs
    dsimp only at hi
    have hks : k < s.length := by omega
    refine Ok.pos (guard0 hks) (Ok.ret ⟨⟨k + 1, ?_, by omega, by dsimp only; rw [List.length_set]; exact hs⟩, ?_⟩)
    · exact wrap_succ hks (by omega)
    · dsimp only
      rw [wrap_i64 (by omega) (by omega)]
      omega
  have hok : NotesOk ((accL (mkN n)).getD []) := by rw [accL_getD]; exact mkN_ok n (by omega)
  have hon : NotesOk ((none : Option (List Note)).getD []) := by intro x hx; cases hx
  have ht : (ofBytesI r).length ≤ 4611686018427387904 := by unfold ofBytesI; rw [List.length_map]; omega
  rw [Add_o0, AddNote_o0, Add_eq hok (by decide), AddNote_eq hok (by decide), Add_eq hon ht, AddNote_eq hon ht]
  simp only [callO_some, beq_self_eq_true, Bool.and_self, if_true]
  rw [same_notes_o0_1 rfl, same_notes_o0_1 rfl, known31_eq]
  · exact Ok.ret rfl
  · exact Nat.le_trans (nadd_len _ _ _ _ _ _) (by simp)
  · exact Nat.le_trans (nadd_len _ _ _ _ _ _) (by rw [accL_getD, mkN_len]; omega)
end Go.Fn
