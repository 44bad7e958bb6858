/- The statement HistoryLimitsUptoSaid of the given program is proved here: for every input whose bulk is at most the bound of its row, the law returns true and changes nothing. Part 5 of 6. -/
import Derived.KernelRfl
import Derived.Test.YtdgpppkmlmbjoaaV4
/- bitext/bitextlaw30.draft -/
namespace Go.Fn
open Go Go.Vs Go.Ve
set_option linter.unusedVariables false
def bitextlaw30_draft : Int →
    List UInt8 →
      Option (Int × Int × Int × (Int × Int) × Int × Option (List (Int × List UInt8 × Int)) × List UInt8 × Int × Bool) :=
  fun id s => some (id, 0, 0, (0, 5), 2, some [(1, s, 0)], [97, 110, 110], 0, false)
end Go.Fn
/- bitext/bitextref3.Same -/
namespace Go.Fn
open Go Go.Vs Go.Ve
set_option linter.unusedVariables false
def bitextref3_Same_l0 : Option (List (Int × List UInt8 × Int)) → Option (List (Int × List UInt8 × Int)) → Int → Option (Int ⊕ Bool ⊕ Unit) :=
  fun a b s1 =>
    if decide (s1 < lenI (a.getD [])) = true then
      if (decide (0 ≤ s1 ∧ s1 < lenI (a.getD [])) && decide (0 ≤ s1 ∧ s1 < lenI (b.getD []))) = true then
        if
            (!(((a.getD []).getD s1.toNat (0, [], 0)).fst == ((b.getD []).getD s1.toNat (0, [], 0)).fst &&
                  (decide
                      (((a.getD []).getD s1.toNat (0, [], 0)).snd.fst = ((b.getD []).getD s1.toNat (0, [], 0)).snd.fst) &&
                    (((a.getD []).getD s1.toNat (0, [], 0)).snd.snd == ((b.getD []).getD s1.toNat (0, [], 0)).snd.snd &&
                      true)))) =
              true then
          some (Sum.inr (Sum.inl false))
        else some (Sum.inl (IntKind.i64.wrap (s1 + 1)))
      else none
    else some (Sum.inr (Sum.inr ()))
def bitextref3_Same : Option (List (Int × List UInt8 × Int)) → Option (List (Int × List UInt8 × Int)) → Option Bool :=
  fun a b =>
    if (lenI (a.getD []) != lenI (b.getD [])) = true then some false
    else callO (loopR (bitextref3_Same_l0 a b) 0) fun r1 => sumO r1 (fun r2 => some r2) fun r3 => some true
end Go.Fn
/- bitext/bitextref26.SameSegment -/
namespace Go.Fn
open Go Go.Vs Go.Ve
set_option linter.unusedVariables false
def bitextref26_SameSegment : Int × Int × Int × (Int × Int) × Int × Option (List (Int × List UInt8 × Int)) × List UInt8 × Int × Bool →
    Int × Int × Int × (Int × Int) × Int × Option (List (Int × List UInt8 × Int)) × List UInt8 × Int × Bool → Option Bool :=
  fun a0 a1 =>
    if (a0.fst == a1.fst) = true then
      if (a0.snd.fst == a1.snd.fst) = true then
        if (a0.snd.snd.fst == a1.snd.snd.fst) = true then
          if
              (a0.snd.snd.snd.fst.fst == a1.snd.snd.snd.fst.fst &&
                  (a0.snd.snd.snd.fst.snd == a1.snd.snd.snd.fst.snd && true)) =
                true then
            if (a0.snd.snd.snd.snd.fst == a1.snd.snd.snd.snd.fst) = true then
              callO (bitextref3_Same a0.snd.snd.snd.snd.snd.fst a1.snd.snd.snd.snd.snd.fst) fun r1 =>
                some
                  (r1 &&
                    (decide (a0.snd.snd.snd.snd.snd.snd.fst = a1.snd.snd.snd.snd.snd.snd.fst) &&
                      (a0.snd.snd.snd.snd.snd.snd.snd.fst == a1.snd.snd.snd.snd.snd.snd.snd.fst &&
                        a0.snd.snd.snd.snd.snd.snd.snd.snd == a1.snd.snd.snd.snd.snd.snd.snd.snd)))
            else some false
          else some false
        else some false
      else some false
    else some false
end Go.Fn
/- bitext/history.Of$1 -/
namespace Go.Fn
open Go Go.Vs Go.Ve
set_option linter.unusedVariables false
def history_Of_1 : (Int × Int × Int × (Int × Int) × Int × Option (List (Int × List UInt8 × Int)) × List UInt8 × Int × Bool) ×
      (Int × Int × Int × (Int × Int) × Int × Option (List (Int × List UInt8 × Int)) × List UInt8 × Int × Bool) ×
        List UInt8 × Int × Bool →
    Int → Option Bool :=
  fun s segment => some (s.snd.fst.fst == segment && !s.snd.snd.snd.snd)
end Go.Fn
/- slices.Clone[[]bitext/api.Item,bitext/api.Item] -/
namespace Go.Fn
open Go Go.Vs Go.Ve
set_option linter.unusedVariables false
def slices_Clone_api_Item : Option (List (Int × List UInt8 × Int)) → Option (Option (List (Int × List UInt8 × Int))) :=
  fun s =>
    if (!s.isSome) = true then some none
    else if (true && decide (0 + (s.getD []).length ≤ 68719476736)) = true then some (some ([] ++ s.getD [])) else none
end Go.Fn
/- bitext/view.Segment -/
namespace Go.Fn
open Go Go.Vs Go.Ve
set_option linter.unusedVariables false
def view_Segment : Int × Int × Int × (Int × Int) × Int × Option (List (Int × List UInt8 × Int)) × List UInt8 × Int × Bool →
    Option (Int × Int × Int × (Int × Int) × Int × Option (List (Int × List UInt8 × Int)) × List UInt8 × Int × Bool) :=
  fun s =>
    callO (slices_Clone_api_Item s.snd.snd.snd.snd.snd.fst) fun r1 =>
      if (r1.isSome == r1.isSome) = true then
        if (r1.isSome == r1.isSome) = true then
          some (s.fst, s.snd.fst, s.snd.snd.fst, s.snd.snd.snd.fst, s.snd.snd.snd.snd.fst, r1, s.snd.snd.snd.snd.snd.snd)
        else none
      else none
end Go.Fn
/- bitext/history.step -/
namespace Go.Fn
open Go Go.Vs Go.Ve
set_option linter.unusedVariables false
def history_step : (Int × Int × Int × (Int × Int) × Int × Option (List (Int × List UInt8 × Int)) × List UInt8 × Int × Bool) ×
      (Int × Int × Int × (Int × Int) × Int × Option (List (Int × List UInt8 × Int)) × List UInt8 × Int × Bool) ×
        List UInt8 × Int × Bool →
    Option
      ((Int × Int × Int × (Int × Int) × Int × Option (List (Int × List UInt8 × Int)) × List UInt8 × Int × Bool) ×
        (Int × Int × Int × (Int × Int) × Int × Option (List (Int × List UInt8 × Int)) × List UInt8 × Int × Bool) ×
          List UInt8 × Int × Bool) :=
  fun s => callO (view_Segment s.fst) fun r1 => callO (view_Segment s.snd.fst) fun r2 => some (r1, r2, s.snd.snd)
end Go.Fn
/- bitext/history.only -/
namespace Go.Fn
open Go Go.Vs Go.Ve
set_option linter.unusedVariables false
def history_only_o_l0 : Option
      (List
        ((Int × Int × Int × (Int × Int) × Int × Option (List (Int × List UInt8 × Int)) × List UInt8 × Int × Bool) ×
          (Int × Int × Int × (Int × Int) × Int × Option (List (Int × List UInt8 × Int)) × List UInt8 × Int × Bool) ×
            List UInt8 × Int × Bool)) →
    Int →
      Option
            (List
              ((Int × Int × Int × (Int × Int) × Int × Option (List (Int × List UInt8 × Int)) × List UInt8 × Int × Bool) ×
                (Int × Int × Int × (Int × Int) × Int × Option (List (Int × List UInt8 × Int)) × List UInt8 × Int × Bool) ×
                  List UInt8 × Int × Bool)) ×
          Int →
        Option
          (Option
                (List
                  ((Int ×
                      Int × Int × (Int × Int) × Int × Option (List (Int × List UInt8 × Int)) × List UInt8 × Int × Bool) ×
                    (Int ×
                        Int ×
                          Int × (Int × Int) × Int × Option (List (Int × List UInt8 × Int)) × List UInt8 × Int × Bool) ×
                      List UInt8 × Int × Bool)) ×
              Int ⊕
            Option
              (List
                ((Int ×
                    Int × Int × (Int × Int) × Int × Option (List (Int × List UInt8 × Int)) × List UInt8 × Int × Bool) ×
                  (Int ×
                      Int × Int × (Int × Int) × Int × Option (List (Int × List UInt8 × Int)) × List UInt8 × Int × Bool) ×
                    List UInt8 × Int × Bool))) :=
  fun l segment s1 =>
    if decide (s1.snd < lenI (l.getD [])) = true then
      if decide (0 ≤ s1.snd ∧ s1.snd < lenI (l.getD [])) = true then
        callO
          (history_Of_1
            ((l.getD []).getD s1.snd.toNat
              ((0, 0, 0, (0, 0), 0, none, [], 0, false), (0, 0, 0, (0, 0), 0, none, [], 0, false), [], 0, false))
            segment)
          fun r1 =>
          if r1 = true then
            callO
              (history_step
                ((l.getD []).getD s1.snd.toNat
                  ((0, 0, 0, (0, 0), 0, none, [], 0, false), (0, 0, 0, (0, 0), 0, none, [], 0, false), [], 0, false)))
              fun r2 =>
              if
                  (decide (0 + (s1.fst.getD []).length = (s1.fst.getD []).length) &&
                      (decide ((s1.fst.getD []).length + [r2].length ≤ 68719476736) && s1.fst.isSome == s1.fst.isSome)) =
                    true then
                some (Sum.inl (some (s1.fst.getD [] ++ [r2]), IntKind.i64.wrap (s1.snd + 1)))
              else none
          else some (Sum.inl (s1.fst, IntKind.i64.wrap (s1.snd + 1)))
      else none
    else some (Sum.inr s1.fst)
def history_only_o : Option
      (List
        ((Int × Int × Int × (Int × Int) × Int × Option (List (Int × List UInt8 × Int)) × List UInt8 × Int × Bool) ×
          (Int × Int × Int × (Int × Int) × Int × Option (List (Int × List UInt8 × Int)) × List UInt8 × Int × Bool) ×
            List UInt8 × Int × Bool)) →
    Int →
      Option
        (Option
          (List
            ((Int × Int × Int × (Int × Int) × Int × Option (List (Int × List UInt8 × Int)) × List UInt8 × Int × Bool) ×
              (Int × Int × Int × (Int × Int) × Int × Option (List (Int × List UInt8 × Int)) × List UInt8 × Int × Bool) ×
                List UInt8 × Int × Bool))) :=
  fun l segment =>
    callO (loopR (history_only_o_l0 l segment) (none, 0)) fun r1 =>
      if (r1.isSome == r1.isSome) = true then if (r1.isSome == r1.isSome) = true then some r1 else none else none
end Go.Fn
/- bitext/history.Of -/
namespace Go.Fn
open Go Go.Vs Go.Ve
set_option linter.unusedVariables false
def history_Of : Option
      (List
        ((Int × Int × Int × (Int × Int) × Int × Option (List (Int × List UInt8 × Int)) × List UInt8 × Int × Bool) ×
          (Int × Int × Int × (Int × Int) × Int × Option (List (Int × List UInt8 × Int)) × List UInt8 × Int × Bool) ×
            List UInt8 × Int × Bool)) →
    Int →
      Option
        (Option
          (List
            ((Int × Int × Int × (Int × Int) × Int × Option (List (Int × List UInt8 × Int)) × List UInt8 × Int × Bool) ×
              (Int × Int × Int × (Int × Int) × Int × Option (List (Int × List UInt8 × Int)) × List UInt8 × Int × Bool) ×
                List UInt8 × Int × Bool))) :=
  fun l segment =>
    callO (history_only_o l segment) fun r1 =>
      if (r1.isSome == r1.isSome) = true then if (r1.isSome == r1.isSome) = true then some r1 else none else none
end Go.Fn
/- bitext/history.Plain -/
namespace Go.Fn
open Go Go.Vs Go.Ve
set_option linter.unusedVariables false
def history_Plain : Int × Int × Int × (Int × Int) × Int × Option (List (Int × List UInt8 × Int)) × List UInt8 × Int × Bool →
    Option (Int × Int × Int × (Int × Int) × Int × Option (List (Int × List UInt8 × Int)) × List UInt8 × Int × Bool) :=
  fun s =>
    callO
      (view_Segment
        (s.fst, s.snd.fst, s.snd.snd.fst, s.snd.snd.snd.fst,
          if decide (s.snd.snd.snd.snd.snd.snd.fst = []) = true then 0 else s.snd.snd.snd.snd.fst,
          if decide (s.snd.snd.snd.snd.snd.snd.fst = []) = true then none else s.snd.snd.snd.snd.snd.fst,
          s.snd.snd.snd.snd.snd.snd.fst,
          if decide (s.snd.snd.snd.snd.snd.snd.fst = []) = true then 0 else s.snd.snd.snd.snd.snd.snd.snd.fst,
          s.snd.snd.snd.snd.snd.snd.snd.snd))
      fun r1 => some r1
end Go.Fn
/- bitext/history.Record$1 -/
namespace Go.Fn
open Go Go.Vs Go.Ve
set_option linter.unusedVariables false
def history_Record_1 : (Int × Int × Int × (Int × Int) × Int × Option (List (Int × List UInt8 × Int)) × List UInt8 × Int × Bool) ×
      (Int × Int × Int × (Int × Int) × Int × Option (List (Int × List UInt8 × Int)) × List UInt8 × Int × Bool) ×
        List UInt8 × Int × Bool →
    Int → Option Bool :=
  fun x id => some (x.snd.fst.fst != id || !x.snd.snd.snd.snd)
end Go.Fn
/- bitext/history.only -/
namespace Go.Fn
open Go Go.Vs Go.Ve
set_option linter.unusedVariables false
def history_only_r_l0 : Option
      (List
        ((Int × Int × Int × (Int × Int) × Int × Option (List (Int × List UInt8 × Int)) × List UInt8 × Int × Bool) ×
          (Int × Int × Int × (Int × Int) × Int × Option (List (Int × List UInt8 × Int)) × List UInt8 × Int × Bool) ×
            List UInt8 × Int × Bool)) →
    Int →
      Option
            (List
              ((Int × Int × Int × (Int × Int) × Int × Option (List (Int × List UInt8 × Int)) × List UInt8 × Int × Bool) ×
                (Int × Int × Int × (Int × Int) × Int × Option (List (Int × List UInt8 × Int)) × List UInt8 × Int × Bool) ×
                  List UInt8 × Int × Bool)) ×
          Int →
        Option
          (Option
                (List
                  ((Int ×
                      Int × Int × (Int × Int) × Int × Option (List (Int × List UInt8 × Int)) × List UInt8 × Int × Bool) ×
                    (Int ×
                        Int ×
                          Int × (Int × Int) × Int × Option (List (Int × List UInt8 × Int)) × List UInt8 × Int × Bool) ×
                      List UInt8 × Int × Bool)) ×
              Int ⊕
            Option
              (List
                ((Int ×
                    Int × Int × (Int × Int) × Int × Option (List (Int × List UInt8 × Int)) × List UInt8 × Int × Bool) ×
                  (Int ×
                      Int × Int × (Int × Int) × Int × Option (List (Int × List UInt8 × Int)) × List UInt8 × Int × Bool) ×
                    List UInt8 × Int × Bool))) :=
  fun l id s1 =>
    if decide (s1.snd < lenI (l.getD [])) = true then
      if decide (0 ≤ s1.snd ∧ s1.snd < lenI (l.getD [])) = true then
        callO
          (history_Record_1
            ((l.getD []).getD s1.snd.toNat
              ((0, 0, 0, (0, 0), 0, none, [], 0, false), (0, 0, 0, (0, 0), 0, none, [], 0, false), [], 0, false))
            id)
          fun r1 =>
          if r1 = true then
            callO
              (history_step
                ((l.getD []).getD s1.snd.toNat
                  ((0, 0, 0, (0, 0), 0, none, [], 0, false), (0, 0, 0, (0, 0), 0, none, [], 0, false), [], 0, false)))
              fun r2 =>
              if
                  (decide (0 + (s1.fst.getD []).length = (s1.fst.getD []).length) &&
                      (decide ((s1.fst.getD []).length + [r2].length ≤ 68719476736) && s1.fst.isSome == s1.fst.isSome)) =
                    true then
                some (Sum.inl (some (s1.fst.getD [] ++ [r2]), IntKind.i64.wrap (s1.snd + 1)))
              else none
          else some (Sum.inl (s1.fst, IntKind.i64.wrap (s1.snd + 1)))
      else none
    else some (Sum.inr s1.fst)
def history_only_r : Option
      (List
        ((Int × Int × Int × (Int × Int) × Int × Option (List (Int × List UInt8 × Int)) × List UInt8 × Int × Bool) ×
          (Int × Int × Int × (Int × Int) × Int × Option (List (Int × List UInt8 × Int)) × List UInt8 × Int × Bool) ×
            List UInt8 × Int × Bool)) →
    Int →
      Option
        (Option
          (List
            ((Int × Int × Int × (Int × Int) × Int × Option (List (Int × List UInt8 × Int)) × List UInt8 × Int × Bool) ×
              (Int × Int × Int × (Int × Int) × Int × Option (List (Int × List UInt8 × Int)) × List UInt8 × Int × Bool) ×
                List UInt8 × Int × Bool))) :=
  fun l id =>
    callO (loopR (history_only_r_l0 l id) (none, 0)) fun r1 =>
      if (r1.isSome == r1.isSome) = true then if (r1.isSome == r1.isSome) = true then some r1 else none else none
end Go.Fn
/- bitext/history.Record -/
namespace Go.Fn
open Go Go.Vs Go.Ve
set_option linter.unusedVariables false
def history_Record_d : Option
      (List
        ((Int × Int × Int × (Int × Int) × Int × Option (List (Int × List UInt8 × Int)) × List UInt8 × Int × Bool) ×
          (Int × Int × Int × (Int × Int) × Int × Option (List (Int × List UInt8 × Int)) × List UInt8 × Int × Bool) ×
            List UInt8 × Int × Bool)) →
    (Int × Int × Int × (Int × Int) × Int × Option (List (Int × List UInt8 × Int)) × List UInt8 × Int × Bool) ×
        (Int × Int × Int × (Int × Int) × Int × Option (List (Int × List UInt8 × Int)) × List UInt8 × Int × Bool) ×
          List UInt8 × Int × Bool →
      Option
        (Option
            (List
              ((Int × Int × Int × (Int × Int) × Int × Option (List (Int × List UInt8 × Int)) × List UInt8 × Int × Bool) ×
                (Int × Int × Int × (Int × Int) × Int × Option (List (Int × List UInt8 × Int)) × List UInt8 × Int × Bool) ×
                  List UInt8 × Int × Bool)) ×
          Int) :=
  fun l s =>
    if (decide (s.snd.fst.fst < 1) || (s.fst.fst != s.snd.fst.fst || s.snd.snd.snd.snd)) = true then some (none, 1)
    else
      callO (history_only_r l s.snd.fst.fst) fun r1 =>
        if (r1.isSome == r1.isSome) = true then
          if decide (lenI (r1.getD []) ≥ 4096) = true then some (none, 3)
          else
            callO (history_Plain s.fst) fun r2 =>
              callO (history_Plain s.snd.fst) fun r3 =>
                if
                    (decide (0 + (r1.getD []).length = (r1.getD []).length) &&
                        (decide ((r1.getD []).length + [(r2, r3, s.snd.snd)].length ≤ 68719476736) &&
                          r1.isSome == r1.isSome)) =
                      true then
                  some (some (r1.getD [] ++ [(r2, r3, s.snd.snd)]), 0)
                else none
        else none
end Go.Fn
/- bitext/history.every$1 -/
namespace Go.Fn
open Go Go.Vs Go.Ve
set_option linter.unusedVariables false
def history_every_1 : (Int × Int × Int × (Int × Int) × Int × Option (List (Int × List UInt8 × Int)) × List UInt8 × Int × Bool) ×
      (Int × Int × Int × (Int × Int) × Int × Option (List (Int × List UInt8 × Int)) × List UInt8 × Int × Bool) ×
        List UInt8 × Int × Bool →
    Option Bool :=
  fun a0 => some true
end Go.Fn
/- bitext/history.only -/
namespace Go.Fn
open Go Go.Vs Go.Ve
set_option linter.unusedVariables false
def history_only_e_l0 : Option
      (List
        ((Int × Int × Int × (Int × Int) × Int × Option (List (Int × List UInt8 × Int)) × List UInt8 × Int × Bool) ×
          (Int × Int × Int × (Int × Int) × Int × Option (List (Int × List UInt8 × Int)) × List UInt8 × Int × Bool) ×
            List UInt8 × Int × Bool)) →
    Option
          (List
            ((Int × Int × Int × (Int × Int) × Int × Option (List (Int × List UInt8 × Int)) × List UInt8 × Int × Bool) ×
              (Int × Int × Int × (Int × Int) × Int × Option (List (Int × List UInt8 × Int)) × List UInt8 × Int × Bool) ×
                List UInt8 × Int × Bool)) ×
        Int →
      Option
        (Option
              (List
                ((Int ×
                    Int × Int × (Int × Int) × Int × Option (List (Int × List UInt8 × Int)) × List UInt8 × Int × Bool) ×
                  (Int ×
                      Int × Int × (Int × Int) × Int × Option (List (Int × List UInt8 × Int)) × List UInt8 × Int × Bool) ×
                    List UInt8 × Int × Bool)) ×
            Int ⊕
          Option
            (List
              ((Int × Int × Int × (Int × Int) × Int × Option (List (Int × List UInt8 × Int)) × List UInt8 × Int × Bool) ×
                (Int × Int × Int × (Int × Int) × Int × Option (List (Int × List UInt8 × Int)) × List UInt8 × Int × Bool) ×
                  List UInt8 × Int × Bool))) :=
  fun l s1 =>
    if decide (s1.snd < lenI (l.getD [])) = true then
      if decide (0 ≤ s1.snd ∧ s1.snd < lenI (l.getD [])) = true then
        callO
          (history_every_1
            ((l.getD []).getD s1.snd.toNat
              ((0, 0, 0, (0, 0), 0, none, [], 0, false), (0, 0, 0, (0, 0), 0, none, [], 0, false), [], 0, false)))
          fun r1 =>
          if r1 = true then
            callO
              (history_step
                ((l.getD []).getD s1.snd.toNat
                  ((0, 0, 0, (0, 0), 0, none, [], 0, false), (0, 0, 0, (0, 0), 0, none, [], 0, false), [], 0, false)))
              fun r2 =>
              if
                  (decide (0 + (s1.fst.getD []).length = (s1.fst.getD []).length) &&
                      (decide ((s1.fst.getD []).length + [r2].length ≤ 68719476736) && s1.fst.isSome == s1.fst.isSome)) =
                    true then
                some (Sum.inl (some (s1.fst.getD [] ++ [r2]), IntKind.i64.wrap (s1.snd + 1)))
              else none
          else some (Sum.inl (s1.fst, IntKind.i64.wrap (s1.snd + 1)))
      else none
    else some (Sum.inr s1.fst)
def history_only_e : Option
      (List
        ((Int × Int × Int × (Int × Int) × Int × Option (List (Int × List UInt8 × Int)) × List UInt8 × Int × Bool) ×
          (Int × Int × Int × (Int × Int) × Int × Option (List (Int × List UInt8 × Int)) × List UInt8 × Int × Bool) ×
            List UInt8 × Int × Bool)) →
    Option
      (Option
        (List
          ((Int × Int × Int × (Int × Int) × Int × Option (List (Int × List UInt8 × Int)) × List UInt8 × Int × Bool) ×
            (Int × Int × Int × (Int × Int) × Int × Option (List (Int × List UInt8 × Int)) × List UInt8 × Int × Bool) ×
              List UInt8 × Int × Bool))) :=
  fun l =>
    callO (loopR (history_only_e_l0 l) (none, 0)) fun r1 =>
      if (r1.isSome == r1.isSome) = true then if (r1.isSome == r1.isSome) = true then some r1 else none else none
end Go.Fn
/- bitext/history.every -/
namespace Go.Fn
open Go Go.Vs Go.Ve
set_option linter.unusedVariables false
def history_every : Option
      (List
        ((Int × Int × Int × (Int × Int) × Int × Option (List (Int × List UInt8 × Int)) × List UInt8 × Int × Bool) ×
          (Int × Int × Int × (Int × Int) × Int × Option (List (Int × List UInt8 × Int)) × List UInt8 × Int × Bool) ×
            List UInt8 × Int × Bool)) →
    Option
      (Option
        (List
          ((Int × Int × Int × (Int × Int) × Int × Option (List (Int × List UInt8 × Int)) × List UInt8 × Int × Bool) ×
            (Int × Int × Int × (Int × Int) × Int × Option (List (Int × List UInt8 × Int)) × List UInt8 × Int × Bool) ×
              List UInt8 × Int × Bool))) :=
  fun l =>
    callO (history_only_e l) fun r1 =>
      if (r1.isSome == r1.isSome) = true then if (r1.isSome == r1.isSome) = true then some r1 else none else none
end Go.Fn
/- bitext/history.lastDone (a range over slices.Backward: by hand) -/
namespace Go.Fn
open Go Go.Vs Go.Ve
abbrev HStep : Type := ((Int × Int × Int × (Int × Int) × Int × Option (List (Int × List UInt8 × Int)) × List UInt8 × Int × Bool) × (Int × Int × Int × (Int × Int) × Int × Option (List (Int × List UInt8 × Int)) × List UInt8 × Int × Bool) × List UInt8 × Int × Bool)
def hHit (seg : Int) (x : HStep) : Bool := x.2.1.1 == seg && !x.2.2.2.2
/-- the last of the first n that hits; or -1 -/
def lastHit (l : List HStep) (seg : Int) : Nat → Int
  | 0 => -1
  | n + 1 => if hHit seg (l.getD n ((0, 0, 0, (0, 0), 0, none, [], 0, false), (0, 0, 0, (0, 0), 0, none, [], 0, false), [], 0, false)) then (n : Int) else lastHit l seg n
def history_lastDone (l : Option (List HStep)) (seg : Int) : Option Int :=
  if (l.getD []).length ≤ 4611686018427387904 then some (lastHit (l.getD []) seg (l.getD []).length) else none
end Go.Fn
/- bitext/history.Undo -/
namespace Go.Fn
open Go Go.Vs Go.Ve
set_option linter.unusedVariables false
def history_Undo : Option
      (List
        ((Int × Int × Int × (Int × Int) × Int × Option (List (Int × List UInt8 × Int)) × List UInt8 × Int × Bool) ×
          (Int × Int × Int × (Int × Int) × Int × Option (List (Int × List UInt8 × Int)) × List UInt8 × Int × Bool) ×
            List UInt8 × Int × Bool)) →
    Int →
      Option
        (Option
            (List
              ((Int × Int × Int × (Int × Int) × Int × Option (List (Int × List UInt8 × Int)) × List UInt8 × Int × Bool) ×
                (Int × Int × Int × (Int × Int) × Int × Option (List (Int × List UInt8 × Int)) × List UInt8 × Int × Bool) ×
                  List UInt8 × Int × Bool)) ×
          (Int × Int × Int × (Int × Int) × Int × Option (List (Int × List UInt8 × Int)) × List UInt8 × Int × Bool) × Int) :=
  fun l segment =>
    callO (history_lastDone l segment) fun r1 =>
      if decide (r1 < 0) = true then some (none, (0, 0, 0, (0, 0), 0, none, [], 0, false), 6)
      else
        if (decide (0 ≤ r1 ∧ r1 < lenI (l.getD [])) && decide (0 ≤ r1 ∧ r1 < lenI (l.getD []))) = true then
          if
              (!(((l.getD []).getD r1.toNat
                                    ((0, 0, 0, (0, 0), 0, none, [], 0, false), (0, 0, 0, (0, 0), 0, none, [], 0, false),
                                      [], 0, false)).fst.snd.snd.snd.fst.fst ==
                      ((l.getD []).getD r1.toNat
                                      ((0, 0, 0, (0, 0), 0, none, [], 0, false), (0, 0, 0, (0, 0), 0, none, [], 0, false),
                                        [], 0, false)).snd.fst.snd.snd.snd.fst.fst &&
                    (((l.getD []).getD r1.toNat
                                      ((0, 0, 0, (0, 0), 0, none, [], 0, false), (0, 0, 0, (0, 0), 0, none, [], 0, false),
                                        [], 0, false)).fst.snd.snd.snd.fst.snd ==
                        ((l.getD []).getD r1.toNat
                                        ((0, 0, 0, (0, 0), 0, none, [], 0, false),
                                          (0, 0, 0, (0, 0), 0, none, [], 0, false), [], 0,
                                          false)).snd.fst.snd.snd.snd.fst.snd &&
                      true))) =
                true then
            some (none, (0, 0, 0, (0, 0), 0, none, [], 0, false), 8)
          else
            callO (history_every l) fun r2 =>
              if (r2.isSome == r2.isSome) = true then
                if (decide (0 ≤ r1 ∧ r1 < lenI (r2.getD [])) && nlt (0 + r1.toNat) (r2.getD []).length) = true then
                  if decide (0 ≤ r1 ∧ r1 < lenI (l.getD [])) = true then
                    callO
                      (view_Segment
                        ((l.getD []).getD r1.toNat
                            ((0, 0, 0, (0, 0), 0, none, [], 0, false), (0, 0, 0, (0, 0), 0, none, [], 0, false), [], 0,
                              false)).fst)
                      fun r3 =>
                      some
                        (some
                            ((r2.getD []).set (0 + r1.toNat)
                              (((r2.getD []).getD (0 + r1.toNat)
                                    ((0, 0, 0, (0, 0), 0, none, [], 0, false), (0, 0, 0, (0, 0), 0, none, [], 0, false),
                                      [], 0, false)).fst,
                                ((r2.getD []).getD (0 + r1.toNat)
                                      ((0, 0, 0, (0, 0), 0, none, [], 0, false), (0, 0, 0, (0, 0), 0, none, [], 0, false),
                                        [], 0, false)).snd.fst,
                                ((r2.getD []).getD (0 + r1.toNat)
                                        ((0, 0, 0, (0, 0), 0, none, [], 0, false),
                                          (0, 0, 0, (0, 0), 0, none, [], 0, false), [], 0, false)).snd.snd.fst,
                                ((r2.getD []).getD (0 + r1.toNat)
                                          ((0, 0, 0, (0, 0), 0, none, [], 0, false),
                                            (0, 0, 0, (0, 0), 0, none, [], 0, false), [], 0, false)).snd.snd.snd.fst,
                                true)),
                          r3, 0)
                  else none
                else none
              else none
        else none
end Go.Fn
/- bitext/bitextlaw30.known -/
namespace Go.Fn
open Go Go.Vs Go.Ve
set_option linter.unusedVariables false
def bitextlaw30_known : Option Bool :=
  callO (bitextlaw30_draft 1 [120]) fun r1 =>
    callO (history_Record_d none ((1, 0, 0, (0, 5), 0, none, [], 0, false), r1, [97, 110, 110], 0, false)) fun r2 =>
      callO (bitextlaw30_draft 1 [120]) fun r3 =>
        callO (bitextlaw30_draft 1 [121]) fun r4 =>
          callO (history_Record_d r2.fst (r3, r4, [97, 110, 110], 3, false)) fun r5 =>
            callO (history_Undo r5.fst 1) fun r6 =>
              if
                  (r6.fst.isSome == r6.fst.isSome &&
                      (r6.fst.isSome == r6.fst.isSome && r6.fst.isSome == r6.fst.isSome)) =
                    true then
                if (r6.fst.isSome == r6.fst.isSome) = true then
                  callO (history_Undo r6.fst 1) fun r7 =>
                    if
                        (r7.fst.isSome == r7.fst.isSome &&
                            (r7.fst.isSome == r7.fst.isSome && r7.fst.isSome == r7.fst.isSome)) =
                          true then
                      if (r7.fst.isSome == r7.fst.isSome) = true then
                        callO (history_Undo r7.fst 1) fun r8 =>
                          if
                              (r8.fst.isSome == r8.fst.isSome &&
                                  (r8.fst.isSome == r8.fst.isSome && r8.fst.isSome == r8.fst.isSome)) =
                                true then
                            if (r2.snd == 0) = true then
                              if (r5.snd == 0) = true then
                                if (r6.snd.snd == 0) = true then
                                  if (r7.snd.snd == 0) = true then
                                    if (r8.snd.snd == 6) = true then
                                      callO (bitextlaw30_draft 1 [120]) fun r9 =>
                                        callO (bitextref26_SameSegment r6.snd.fst r9) fun r10 =>
                                          if r10 = true then
                                            callO
                                              (bitextref26_SameSegment r7.snd.fst
                                                (1, 0, 0, (0, 5), 0, none, [], 0, false))
                                              fun r11 =>
                                              if r11 = true then
                                                callO (history_Of r6.fst 1) fun r12 => some (lenI (r12.getD []) == 1)
                                              else some false
                                          else some false
                                    else some false
                                  else some false
                                else some false
                              else some false
                            else some false
                          else none
                      else none
                    else none
                else none
              else none
end Go.Fn
/- bitext/bitextmake.Place -/
namespace Go.Fn
open Go Go.Vs Go.Ve
set_option linter.unusedVariables false
def bitextmake_Place : Int → Int → Option Int :=
  fun x n =>
    if decide (n ≠ 0) = true then
      some (if decide (x.tmod n < 0) = true then IntKind.i64.wrap (x.tmod n + n) else x.tmod n)
    else none
end Go.Fn
/- bitext/history.Record -/
namespace Go.Fn
open Go Go.Vs Go.Ve
set_option linter.unusedVariables false
def history_Record : Option
      (List
        ((Int × Int × Int × (Int × Int) × Int × Option (List (Int × List UInt8 × Int)) × List UInt8 × Int × Bool) ×
          (Int × Int × Int × (Int × Int) × Int × Option (List (Int × List UInt8 × Int)) × List UInt8 × Int × Bool) ×
            List UInt8 × Int × Bool)) →
    (Int × Int × Int × (Int × Int) × Int × Option (List (Int × List UInt8 × Int)) × List UInt8 × Int × Bool) ×
        (Int × Int × Int × (Int × Int) × Int × Option (List (Int × List UInt8 × Int)) × List UInt8 × Int × Bool) ×
          List UInt8 × Int × Bool →
      Option
        (Option
            (List
              ((Int × Int × Int × (Int × Int) × Int × Option (List (Int × List UInt8 × Int)) × List UInt8 × Int × Bool) ×
                (Int × Int × Int × (Int × Int) × Int × Option (List (Int × List UInt8 × Int)) × List UInt8 × Int × Bool) ×
                  List UInt8 × Int × Bool)) ×
          Int) :=
  fun l s =>
    if (decide (s.snd.fst.fst < 1) || (s.fst.fst != s.snd.fst.fst || s.snd.snd.snd.snd)) = true then some (none, 1)
    else
      callO (history_only_r l s.snd.fst.fst) fun r1 =>
        if (r1.isSome == r1.isSome) = true then
          if decide (lenI (r1.getD []) ≥ 4096) = true then some (none, 3)
          else
            callO (history_Plain s.fst) fun r2 =>
              callO (history_Plain s.snd.fst) fun r3 =>
                if
                    (decide (0 + (r1.getD []).length = (r1.getD []).length) &&
                        (decide ((r1.getD []).length + [(r2, r3, s.snd.snd)].length ≤ 68719476736) &&
                          r1.isSome == r1.isSome)) =
                      true then
                  some (some (r1.getD [] ++ [(r2, r3, s.snd.snd)]), 0)
                else none
        else none
end Go.Fn
/- bitext/bitextlaw30.HistoryLimits -/
namespace Go.Fn
open Go Go.Vs Go.Ve
set_option linter.unusedVariables false
def bitextlaw30_HistoryLimits_l0 : Option
        (List
          ((Int × Int × Int × (Int × Int) × Int × Option (List (Int × List UInt8 × Int)) × List UInt8 × Int × Bool) ×
            (Int × Int × Int × (Int × Int) × Int × Option (List (Int × List UInt8 × Int)) × List UInt8 × Int × Bool) ×
              List UInt8 × Int × Bool)) ×
      Int →
    Option
      (Option
            (List
              ((Int × Int × Int × (Int × Int) × Int × Option (List (Int × List UInt8 × Int)) × List UInt8 × Int × Bool) ×
                (Int × Int × Int × (Int × Int) × Int × Option (List (Int × List UInt8 × Int)) × List UInt8 × Int × Bool) ×
                  List UInt8 × Int × Bool)) ×
          Int ⊕
        Option
          (List
            ((Int × Int × Int × (Int × Int) × Int × Option (List (Int × List UInt8 × Int)) × List UInt8 × Int × Bool) ×
              (Int × Int × Int × (Int × Int) × Int × Option (List (Int × List UInt8 × Int)) × List UInt8 × Int × Bool) ×
                List UInt8 × Int × Bool))) :=
  fun s1 =>
    if decide (s1.snd > 0) = true then
      if
          (decide (0 + (s1.fst.getD []).length = (s1.fst.getD []).length) &&
              (decide ((s1.fst.getD []).length + 1 ≤ 68719476736) && s1.fst.isSome == s1.fst.isSome)) =
            true then
        some
          (Sum.inl
            (some
                (s1.fst.getD [] ++
                  [((2, 0, 0, (0, 0), 0, none, [], 0, false), (2, 0, 0, (0, 0), 0, none, [], 0, false), [], 0, false)]),
              IntKind.i64.wrap (s1.snd - 1)))
      else none
    else some (Sum.inr s1.fst)
def bitextlaw30_HistoryLimits : Int → Bool → Option Bool :=
  fun n gone =>
    callO (bitextmake_Place n 3) fun r1 =>
      callO (loopR bitextlaw30_HistoryLimits_l0 (none, IntKind.i64.wrap (IntKind.i64.wrap (r1 + 4096) - 1))) fun r2 =>
        if
            (decide
                  (0 ≤ IntKind.i64.wrap (lenI (r2.getD []) - 1) ∧
                    IntKind.i64.wrap (lenI (r2.getD []) - 1) < lenI (r2.getD [])) &&
                nlt (0 + (IntKind.i64.wrap (lenI (r2.getD []) - 1)).toNat) (r2.getD []).length) =
              true then
          callO
            (history_Record
              (some
                ((r2.getD []).set (0 + (IntKind.i64.wrap (lenI (r2.getD []) - 1)).toNat)
                  (((r2.getD []).getD (0 + (IntKind.i64.wrap (lenI (r2.getD []) - 1)).toNat)
                        ((0, 0, 0, (0, 0), 0, none, [], 0, false), (0, 0, 0, (0, 0), 0, none, [], 0, false), [], 0,
                          false)).fst,
                    ((r2.getD []).getD (0 + (IntKind.i64.wrap (lenI (r2.getD []) - 1)).toNat)
                          ((0, 0, 0, (0, 0), 0, none, [], 0, false), (0, 0, 0, (0, 0), 0, none, [], 0, false), [], 0,
                            false)).snd.fst,
                    ((r2.getD []).getD (0 + (IntKind.i64.wrap (lenI (r2.getD []) - 1)).toNat)
                            ((0, 0, 0, (0, 0), 0, none, [], 0, false), (0, 0, 0, (0, 0), 0, none, [], 0, false), [], 0,
                              false)).snd.snd.fst,
                    ((r2.getD []).getD (0 + (IntKind.i64.wrap (lenI (r2.getD []) - 1)).toNat)
                              ((0, 0, 0, (0, 0), 0, none, [], 0, false), (0, 0, 0, (0, 0), 0, none, [], 0, false), [], 0,
                                false)).snd.snd.snd.fst,
                    gone)))
              ((2, 0, 0, (0, 0), 0, none, [], 0, false), (2, 0, 0, (0, 0), 0, none, [], 0, false), [], 0, false))
            fun r3 =>
            if
                (r3.fst.isSome == r3.fst.isSome && (r3.fst.isSome == r3.fst.isSome && r3.fst.isSome == r3.fst.isSome)) =
                  true then
              if
                  decide
                      ((if gone = true then
                          IntKind.i64.wrap
                            (IntKind.i64.wrap
                                (lenI
                                    ((r2.getD []).set (0 + (IntKind.i64.wrap (lenI (r2.getD []) - 1)).toNat)
                                      (((r2.getD []).getD (0 + (IntKind.i64.wrap (lenI (r2.getD []) - 1)).toNat)
                                            ((0, 0, 0, (0, 0), 0, none, [], 0, false),
                                              (0, 0, 0, (0, 0), 0, none, [], 0, false), [], 0, false)).fst,
                                        ((r2.getD []).getD (0 + (IntKind.i64.wrap (lenI (r2.getD []) - 1)).toNat)
                                              ((0, 0, 0, (0, 0), 0, none, [], 0, false),
                                                (0, 0, 0, (0, 0), 0, none, [], 0, false), [], 0, false)).snd.fst,
                                        ((r2.getD []).getD (0 + (IntKind.i64.wrap (lenI (r2.getD []) - 1)).toNat)
                                                ((0, 0, 0, (0, 0), 0, none, [], 0, false),
                                                  (0, 0, 0, (0, 0), 0, none, [], 0, false), [], 0, false)).snd.snd.fst,
                                        ((r2.getD []).getD (0 + (IntKind.i64.wrap (lenI (r2.getD []) - 1)).toNat)
                                                  ((0, 0, 0, (0, 0), 0, none, [], 0, false),
                                                    (0, 0, 0, (0, 0), 0, none, [], 0, false), [], 0,
                                                    false)).snd.snd.snd.fst,
                                        gone)) +
                                  1) -
                              1)
                        else
                          IntKind.i64.wrap
                            (lenI
                                ((r2.getD []).set (0 + (IntKind.i64.wrap (lenI (r2.getD []) - 1)).toNat)
                                  (((r2.getD []).getD (0 + (IntKind.i64.wrap (lenI (r2.getD []) - 1)).toNat)
                                        ((0, 0, 0, (0, 0), 0, none, [], 0, false),
                                          (0, 0, 0, (0, 0), 0, none, [], 0, false), [], 0, false)).fst,
                                    ((r2.getD []).getD (0 + (IntKind.i64.wrap (lenI (r2.getD []) - 1)).toNat)
                                          ((0, 0, 0, (0, 0), 0, none, [], 0, false),
                                            (0, 0, 0, (0, 0), 0, none, [], 0, false), [], 0, false)).snd.fst,
                                    ((r2.getD []).getD (0 + (IntKind.i64.wrap (lenI (r2.getD []) - 1)).toNat)
                                            ((0, 0, 0, (0, 0), 0, none, [], 0, false),
                                              (0, 0, 0, (0, 0), 0, none, [], 0, false), [], 0, false)).snd.snd.fst,
                                    ((r2.getD []).getD (0 + (IntKind.i64.wrap (lenI (r2.getD []) - 1)).toNat)
                                              ((0, 0, 0, (0, 0), 0, none, [], 0, false),
                                                (0, 0, 0, (0, 0), 0, none, [], 0, false), [], 0, false)).snd.snd.snd.fst,
                                    gone)) +
                              1)) >
                        4096) =
                    true then
                if (r3.snd == 3) = true then
                  if (lenI (r3.fst.getD []) == 0) = true then callO bitextlaw30_known fun r4 => some r4 else some false
                else some false
              else
                if (r3.snd == 0) = true then
                  if
                      (lenI (r3.fst.getD []) ==
                          if gone = true then
                            IntKind.i64.wrap
                              (IntKind.i64.wrap
                                  (lenI
                                      ((r2.getD []).set (0 + (IntKind.i64.wrap (lenI (r2.getD []) - 1)).toNat)
                                        (((r2.getD []).getD (0 + (IntKind.i64.wrap (lenI (r2.getD []) - 1)).toNat)
                                              ((0, 0, 0, (0, 0), 0, none, [], 0, false),
                                                (0, 0, 0, (0, 0), 0, none, [], 0, false), [], 0, false)).fst,
                                          ((r2.getD []).getD (0 + (IntKind.i64.wrap (lenI (r2.getD []) - 1)).toNat)
                                                ((0, 0, 0, (0, 0), 0, none, [], 0, false),
                                                  (0, 0, 0, (0, 0), 0, none, [], 0, false), [], 0, false)).snd.fst,
                                          ((r2.getD []).getD (0 + (IntKind.i64.wrap (lenI (r2.getD []) - 1)).toNat)
                                                  ((0, 0, 0, (0, 0), 0, none, [], 0, false),
                                                    (0, 0, 0, (0, 0), 0, none, [], 0, false), [], 0, false)).snd.snd.fst,
                                          ((r2.getD []).getD (0 + (IntKind.i64.wrap (lenI (r2.getD []) - 1)).toNat)
                                                    ((0, 0, 0, (0, 0), 0, none, [], 0, false),
                                                      (0, 0, 0, (0, 0), 0, none, [], 0, false), [], 0,
                                                      false)).snd.snd.snd.fst,
                                          gone)) +
                                    1) -
                                1)
                          else
                            IntKind.i64.wrap
                              (lenI
                                  ((r2.getD []).set (0 + (IntKind.i64.wrap (lenI (r2.getD []) - 1)).toNat)
                                    (((r2.getD []).getD (0 + (IntKind.i64.wrap (lenI (r2.getD []) - 1)).toNat)
                                          ((0, 0, 0, (0, 0), 0, none, [], 0, false),
                                            (0, 0, 0, (0, 0), 0, none, [], 0, false), [], 0, false)).fst,
                                      ((r2.getD []).getD (0 + (IntKind.i64.wrap (lenI (r2.getD []) - 1)).toNat)
                                            ((0, 0, 0, (0, 0), 0, none, [], 0, false),
                                              (0, 0, 0, (0, 0), 0, none, [], 0, false), [], 0, false)).snd.fst,
                                      ((r2.getD []).getD (0 + (IntKind.i64.wrap (lenI (r2.getD []) - 1)).toNat)
                                              ((0, 0, 0, (0, 0), 0, none, [], 0, false),
                                                (0, 0, 0, (0, 0), 0, none, [], 0, false), [], 0, false)).snd.snd.fst,
                                      ((r2.getD []).getD (0 + (IntKind.i64.wrap (lenI (r2.getD []) - 1)).toNat)
                                                ((0, 0, 0, (0, 0), 0, none, [], 0, false),
                                                  (0, 0, 0, (0, 0), 0, none, [], 0, false), [], 0,
                                                  false)).snd.snd.snd.fst,
                                      gone)) +
                                1)) =
                        true then
                    callO bitextlaw30_known fun r5 => some r5
                  else some false
                else some false
            else none
        else none
end Go.Fn
/- Plain laws: whole numbers of 64 bits, Place. -/
namespace Go.Fn
open Go Go.Vs Go.Ve
def In64 (n : Int) : Prop := -9223372036854775808 ≤ n ∧ n ≤ 9223372036854775807
theorem Wf_ints {o : Option (List Int)} (h : Wf (.sl (.int .i64)) o) : ∀ x ∈ o.getD [], In64 x := by
  cases o with
  | none => intro x hx; cases hx
  | some xs => exact h
theorem fdiv63 {n : Int} (h : In64 n) : n.fdiv 9223372036854775808 = if n < 0 then -1 else 0 := by
  rw [Int.fdiv_eq_ediv_of_nonneg _ (by decide)]
  unfold In64 at h
  split <;> omega
theorem wrap_u64 {n : Int} (h : In64 n) : IntKind.u64.wrap n = if n < 0 then n + 18446744073709551616 else n := by
  unfold In64 at h
  simp only [IntKind.wrap, IntKind.bits, IntKind.signed]
  simp
  split <;> omega
theorem place_eq {x n : Int} (hx : In64 x) (hn : 1 ≤ n) (hn2 : n ≤ 4611686018427387904) : bitextmake_Place x n = some (x % n) := by
  unfold In64 at hx
  unfold bitextmake_Place
  rw [if_pos (by simp; omega)]
  congr 1
  have h0 := Int.emod_nonneg x (show n ≠ 0 by omega)
  have h1 := Int.emod_lt_of_pos x (show 0 < n by omega)
  rcases Int.lt_or_le x 0 with h | h
  · have e : x.tmod n = if n ∣ x then 0 else x % n - n := by
      rw [Int.tmod_eq_emod]
      split <;> rename_i hd
      · rcases hd with hd | hd
        · omega
        · rw [if_pos hd]; have := Int.emod_eq_zero_of_dvd hd; omega
      · rw [if_neg (fun hd' => hd (.inr hd'))]
        omega
    rw [e]
    split <;> rename_i hd
    · simp [Int.emod_eq_zero_of_dvd hd]
    · rw [if_pos (by simp; omega), wrap_i64 (by omega) (by omega)]; omega
  · rw [Int.tmod_eq_emod_of_nonneg h, if_neg (by simp; omega)]
end Go.Fn
/- Plain laws: loops that look at things one by one and end at the first that tells. -/
namespace Go.Fn
open Go Go.Vs Go.Ve
/-! ## One step -/
theorem ifT {α : Sort _} {c : Prop} [Decidable c] {a b x : α} (h : c) (k : a = x) : (if c then a else b) = x := (if_pos h).trans k
theorem ifF {α : Sort _} {c : Prop} [Decidable c] {a b x : α} (h : ¬ c) (k : b = x) : (if c then a else b) = x := (if_neg h).trans k
/-- a condition that is a decided statement -/
theorem dcT {α : Sort _} {c : Prop} [Decidable c] {a b x : α} (h : c) (k : a = x) : (if decide c = true then a else b) = x := (if_pos (decide_eq_true h)).trans k
theorem dcF {α : Sort _} {c : Prop} [Decidable c] {a b x : α} (h : ¬ c) (k : b = x) : (if decide c = true then a else b) = x := (if_neg (by simpa using h)).trans k
/-- a condition that says nothing -/
theorem sfT {α : Sort _} {b : Bool} {x y z : α} (k : x = z) : (if (b == b) = true then x else y) = z := (if_pos (beq_self_eq_true b)).trans k
theorem callT {ρ α : Type} {o : Option ρ} {v : ρ} {f : ρ → Option α} {x : Option α} (h : o = some v) (k : f v = x) : callO o f = x := by rw [h]; exact k
/-- two cases on both sides -/
theorem ifL {α β : Sort _} {F : α → β} {c c' : Prop} [Decidable c] [Decidable c'] {a b : α} {A B : β} (h : c ↔ c') (h1 : c' → A = F a) (h2 : ¬ c' → B = F b) : (if c then A else B) = F (if c' then a else b) := by
  by_cases hc : c
  · rw [if_pos hc, if_pos (h.1 hc)]; exact h1 (h.1 hc)
  · rw [if_neg hc, if_neg fun q => hc (h.2 q)]; exact h2 fun q => hc (h.2 q)
/-- the first that tells, among k from i on -/
def scan {ρ : Type} (e : Nat → Option ρ) : Nat → Nat → Option ρ
  | _, 0 => none
  | i, k + 1 => match e i with
    | some r => some r
    | none => scan e (i + 1) k
theorem scan_none {ρ : Type} {e : Nat → Option ρ} : ∀ (k i : Nat), scan e i k = none ↔ ∀ j, i ≤ j → j < i + k → e j = none
  | 0, i => by simp [scan]; intro j h1 h2; omega
  | k + 1, i => by
    unfold scan
    constructor
    · intro h j h1 h2
      cases he : e i with
      | some r => rw [he] at h; cases h
      | none =>
        rw [he] at h
        rcases Nat.eq_or_lt_of_le h1 with rfl | h3
        · exact he
        · exact (scan_none k (i + 1)).1 h j h3 (by omega)
    · intro h
      rw [h i (Nat.le_refl _) (by omega)]
      exact (scan_none k (i + 1)).2 fun j h1 h2 => h j (by omega) (by omega)
theorem scan_some {ρ : Type} {e : Nat → Option ρ} {r : ρ} : ∀ {k i : Nat}, scan e i k = some r → ∃ j, i ≤ j ∧ j < i + k ∧ e j = some r
  | 0, i, h => by simp [scan] at h
  | k + 1, i, h => by
    unfold scan at h
    cases he : e i with
    | some x => rw [he] at h; cases h; exact ⟨i, Nat.le_refl _, by omega, he⟩
    | none =>
      rw [he] at h
      obtain ⟨j, h1, h2, h3⟩ := scan_some h
      exact ⟨j, by omega, by omega, h3⟩
theorem scan_congr {ρ : Type} {e e' : Nat → Option ρ} : ∀ (k i : Nat), (∀ j, i ≤ j → j < i + k → e j = e' j) → scan e i k = scan e' i k
  | 0, _, _ => rfl
  | k + 1, i, h => by
    unfold scan
    rw [h i (Nat.le_refl _) (by omega), scan_congr k (i + 1) fun j h1 h2 => h j (by omega) (by omega)]
def toSum {ρ : Type} : Option ρ → ρ ⊕ Unit
  | some r => .inl r
  | none => .inr ()
/-- what one round gives -/
def outS {ρ : Type} (i : Nat) (o : Option ρ) : Option (Int ⊕ ρ ⊕ Unit) := match o with
  | none => some (.inl ((i + 1 : Nat) : Int))
  | some r => some (.inr (.inl r))
theorem iterN_scan {ρ : Type} {f : Int → Option (Int ⊕ ρ ⊕ Unit)} (n : Nat) (e : Nat → Option ρ)
    (step : ∀ i, i < n → f (i : Int) = outS i (e i)) (stop : f (n : Int) = some (.inr (.inr ()))) :
    ∀ (k i m : Nat), i + k = n → k < m → iterN f m (i : Int) = some (toSum (scan e i k))
  | 0, i, m, hi, hm => by
    obtain ⟨m, rfl⟩ : ∃ q, m = q + 1 := ⟨m - 1, by omega⟩
    have : i = n := by omega
    subst this
    unfold iterN
    rw [stop]; rfl
  | k + 1, i, m, hi, hm => by
    obtain ⟨m, rfl⟩ : ∃ q, m = q + 1 := ⟨m - 1, by omega⟩
    unfold iterN scan
    rw [step i (by omega)]
    cases e i with
    | some r => rfl
    | none => exact iterN_scan n e step stop k (i + 1) m (by omega) (by omega)
theorem loopR_scan {ρ : Type} {f : Int → Option (Int ⊕ ρ ⊕ Unit)} (n : Nat) (e : Nat → Option ρ) (i : Nat)
    (step : ∀ i, i < n → f (i : Int) = outS i (e i)) (stop : f (n : Int) = some (.inr (.inr ()))) (hi : i ≤ n) (hn : n < fuel) :
    loopR f (i : Int) = some (toSum (scan e i (n - i))) :=
  iterN_scan n e step stop (n - i) i fuel (by omega) (by omega)
theorem loopR_scan0 {ρ : Type} {f : Int → Option (Int ⊕ ρ ⊕ Unit)} (n : Nat) (e : Nat → Option ρ)
    (step : ∀ i, i < n → f (i : Int) = outS i (e i)) (stop : f (n : Int) = some (.inr (.inr ()))) (hn : n < fuel) :
    loopR f 0 = some (toSum (scan e 0 n)) := loopR_scan n e 0 step stop (Nat.zero_le _) hn
theorem sum_scan {ρ α : Type} (o : Option ρ) (k : ρ → Option α) (d : Option α) : sumO (toSum o) k (fun _ => d) = match o with | some r => k r | none => d := by cases o <;> rfl
/-- a loop whose state after each round is known -/
theorem iterN_range {σ ρ : Type} {f : σ → Option (σ ⊕ ρ)} (n : Nat) (st : Nat → σ) {r : ρ} (step : ∀ i, i < n → f (st i) = some (.inl (st (i + 1)))) (stop : f (st n) = some (.inr r)) :
    ∀ (k i m : Nat), i + k = n → k < m → iterN f m (st i) = some r
  | 0, i, m, hi, hm => by
    obtain ⟨m, rfl⟩ : ∃ q, m = q + 1 := ⟨m - 1, by omega⟩
    have : i = n := by omega
    subst this
    unfold iterN
    rw [stop]
  | k + 1, i, m, hi, hm => by
    obtain ⟨m, rfl⟩ : ∃ q, m = q + 1 := ⟨m - 1, by omega⟩
    unfold iterN
    rw [step i (by omega)]
    exact iterN_range n st step stop k (i + 1) m (by omega) (by omega)
theorem loopR_range {σ ρ : Type} {f : σ → Option (σ ⊕ ρ)} (n : Nat) (st : Nat → σ) {r : ρ} (step : ∀ i, i < n → f (st i) = some (.inl (st (i + 1)))) (stop : f (st n) = some (.inr r)) (hn : n < fuel) : loopR f (st 0) = some r :=
  iterN_range n st step stop n 0 fuel (by omega) (by omega)
theorem guard_nlt2 {α : Type} {xs : List α} {i : Int} {r : Bool} : (decide (0 ≤ i ∧ i < lenI xs) && (nlt i.toNat xs.length && r)) = (decide (0 ≤ i ∧ i < lenI xs) && r) := by
  rw [← Bool.and_assoc, guard_nlt]
theorem guard0 {α : Type} {xs : List α} {k : Nat} (h : k < xs.length) : (decide (0 ≤ (k : Int) ∧ (k : Int) < lenI xs) && nlt (0 + ((k : Int)).toNat) xs.length) = true := by
  rw [Nat.zero_add, guard_nlt]; exact decide_eq_true ⟨by omega, by rw [lenI_eq]; omega⟩
/-- a list that begins as nil and to which is appended -/
def accL {α : Type} (l : List α) : Option (List α) := match l with
  | [] => none
  | x :: r => some (x :: r)
@[simp] theorem accL_getD {α : Type} (l : List α) : (accL l).getD [] = l := by cases l <;> rfl
theorem accL_snoc {α : Type} (l : List α) (x : α) : some ((accL l).getD [] ++ [x]) = accL (l ++ [x]) := by cases l <;> rfl
/-- a byte of a text -/
theorem byteI_lo (b : UInt8) : 0 ≤ byteI b := Int.natCast_nonneg _
theorem byteI_hi (b : UInt8) : byteI b < 256 := by unfold byteI; have := b.toNat_lt; omega
theorem byte_in {s : List UInt8} {k : Nat} (h : k < s.length) : (decide (0 ≤ (k : Int)) && nlt ((k : Int)).toNat s.length) = true := by
  rw [Bool.and_eq_true, decide_eq_true_iff, nlt_iff]; omega
theorem byteD {s : List UInt8} {k : Nat} (h : k < s.length) {d : UInt8} : s.getD ((k : Int)).toNat d = s[k] := by
  rw [Int.toNat_natCast, List.getD_eq_getElem?_getD, List.getElem?_eq_getElem h]; rfl
/-- a place of a list, by its number less one -/
theorem inRange {α : Type} {xs : List α} {p : Int} (h0 : 1 ≤ p) (h1 : p ≤ (xs.length : Int)) (h2 : (xs.length : Int) ≤ 4611686018427387904) :
    IntKind.i64.wrap (p - 1) = p - 1 ∧ decide (0 ≤ p - 1 ∧ p - 1 < lenI xs) = true := by
  refine ⟨wrap_i64 (by omega) (by omega), decide_eq_true ?_⟩
  rw [lenI_eq]; omega
end Go.Fn
/- History: the filter; HistoryLimits. -/
namespace Go.Fn
open Go Go.Vs Go.Ve
abbrev HSeg : Type := Int × Int × Int × (Int × Int) × Int × Option (List (Int × List UInt8 × Int)) × List UInt8 × Int × Bool
abbrev HStep0 : Type := HSeg × HSeg × List UInt8 × Int × Bool
set_option maxRecDepth 100000 in
theorem known30 : bitextlaw30_known = some true := by kernel_rfl
def stp (u : Bool) : HStep0 := ((2, 0, 0, (0, 0), 0, none, [], 0, false), (2, 0, 0, (0, 0), 0, none, [], 0, false), [], 0, u)
theorem step_stp (u : Bool) : history_step (stp u) = some (stp u) := by cases u <;> rfl
def keepP (id : Int) (x : HStep0) : Bool := x.2.1.1 != id || !x.2.2.2.2
theorem only_r_eq {l : Option (List HStep0)} {id : Int} (h : ∀ x ∈ l.getD [], history_step x = some x) (hl : (l.getD []).length ≤ 68719476735) :
    history_only_r l id = some (accL ((l.getD []).filter (keepP id))) := by
  have hloop : loopR (history_only_r_l0 l id) (none, 0) = some (accL ((l.getD []).filter (keepP id))) := by
    have := loopR_range (f := history_only_r_l0 l id) (l.getD []).length (fun i => (accL (((l.getD []).take i).filter (keepP id)), (i : Int))) (r := accL ((l.getD []).filter (keepP id))) ?_ ?_ ?_
    · simpa [accL] using this
    · intro i hi
      unfold history_only_r_l0
      dsimp only
      have hx : (l.getD []).getD ((i : Int)).toNat ((0, 0, 0, (0, 0), 0, none, [], 0, false), (0, 0, 0, (0, 0), 0, none, [], 0, false), [], 0, false) = (l.getD [])[i] := by
        rw [Int.toNat_natCast, List.getD_eq_getElem?_getD, List.getElem?_eq_getElem hi]; rfl
      have hw : IntKind.i64.wrap ((i : Int) + 1) = ((i + 1 : Nat) : Int) := by
        rw [wrap_i64 (by omega) (by omega)]; omega
      have hlen : (((l.getD []).take i).filter (keepP id)).length ≤ i := Nat.le_trans (List.length_filter_le _ _) (by simp; omega)
      have htake : (l.getD []).take (i + 1) = (l.getD []).take i ++ [(l.getD [])[i]] := by rw [List.take_add_one, List.getElem?_eq_getElem hi]; rfl
      refine dcT (by rw [lenI_eq]; exact_mod_cast hi) (dcT (by rw [lenI_eq]; exact ⟨by omega, by exact_mod_cast hi⟩) ?_)
      simp only [hx]
      refine callT (v := keepP id (l.getD [])[i]) rfl ?_
      cases hk : keepP id (l.getD [])[i] with
      | true =>
        refine ifT rfl (callT (h _ (List.getElem_mem hi)) (ifT ?_ ?_))
        · have hacc : ((accL (((l.getD []).take i).filter (keepP id))).getD []).length = (((l.getD []).take i).filter (keepP id)).length := by
            cases ((l.getD []).take i).filter (keepP id) <;> rfl
          rw [hacc]
          simp
          omega
        · rw [hw, accL_snoc, htake, List.filter_append, List.filter_cons, if_pos hk, List.filter_nil]
      | false =>
        refine ifF (by simp) ?_
        rw [hw, htake, List.filter_append, List.filter_cons, if_neg (by rw [hk]; simp), List.filter_nil, List.append_nil]
    · unfold history_only_r_l0
      refine dcF (by rw [lenI_eq]; omega) ?_
      simp
    · have : (l.getD []).length < 68719476736 := by omega
      exact Nat.lt_of_lt_of_le this (by decide)
  unfold history_only_r
  exact callT hloop (sfT (sfT rfl))
/-- history.Record at a list of steps that lie plain -/
theorem record_eq {l : Option (List HStep0)} {u : Bool} (h : ∀ x ∈ l.getD [], history_step x = some x) (hl : (l.getD []).length ≤ 68719476735) :
    history_Record l (stp false) = some (if 4096 ≤ ((l.getD []).filter (keepP 2)).length then (none, 3) else (some ((l.getD []).filter (keepP 2) ++ [stp false]), 0)) := by
  have hlen : ((l.getD []).filter (keepP 2)).length ≤ 68719476735 := Nat.le_trans (List.length_filter_le _ _) hl
  have hacc : ((accL ((l.getD []).filter (keepP 2))).getD []) = (l.getD []).filter (keepP 2) := by
    cases (l.getD []).filter (keepP 2) <;> rfl
  unfold history_Record
  refine ifF (by decide) (callT (only_r_eq h hl) (sfT ?_))
  rw [show (stp false).snd.fst.fst = 2 from rfl, hacc]
  by_cases hc : 4096 ≤ ((l.getD []).filter (keepP 2)).length
  · rw [if_pos hc]
    exact dcT (by rw [lenI_eq]; omega) rfl
  · rw [if_neg hc]
    refine dcF (by rw [lenI_eq]; omega) (callT (v := (stp false).1) (by rfl) (callT (v := (stp false).2.1) (by rfl) (ifT ?_ rfl)))
    simp
    omega
theorem fill_eq (w : Nat) (hw : w ≤ 1000000) : loopR bitextlaw30_HistoryLimits_l0 (none, (w : Int)) = some (accL (List.replicate w (stp false))) := by
  have := loopR_range (f := bitextlaw30_HistoryLimits_l0) w (fun i => (accL (List.replicate i (stp false)), ((w - i : Nat) : Int))) (r := accL (List.replicate w (stp false))) ?_ ?_ ?_
  · simpa [accL] using this
  · intro i hi
    unfold bitextlaw30_HistoryLimits_l0
    dsimp only
    have hacc : ((accL (List.replicate i (stp false))).getD []).length = i := by cases i <;> simp [accL, List.replicate]
    refine dcT (by omega) (ifT ?_ ?_)
    · rw [hacc]; simp; omega
    · have hw : IntKind.i64.wrap (((w - i : Nat) : Int) - 1) = ((w - (i + 1) : Nat) : Int) := by
        rw [wrap_i64 (by omega) (by omega)]; omega
      rw [hw]
      show some (Sum.inl (some ((accL (List.replicate i (stp false))).getD [] ++ [stp false]), _)) = _
      rw [accL_snoc, ← List.replicate_succ']
  · unfold bitextlaw30_HistoryLimits_l0
    exact dcF (by simp) rfl
  · exact Nat.lt_of_le_of_lt hw (by decide)
theorem limits_holds {n : Int} (gone : Bool) (hn : In64 n) : bitextlaw30_HistoryLimits n gone = some true := by
  have h0 := Int.emod_nonneg n (show (3 : Int) ≠ 0 by omega)
  have h1 := Int.emod_lt_of_pos n (show (0 : Int) < 3 by omega)
  unfold bitextlaw30_HistoryLimits
  refine callT (place_eq hn (by omega) (by omega)) ?_
  obtain ⟨w, hw⟩ : ∃ w : Nat, n % 3 + 4096 - 1 = ((w + 1 : Nat) : Int) := ⟨(n % 3 + 4094).toNat, by omega⟩
  rw [wrap_i64 (n := n % 3 + 4096) (by omega) (by omega), wrap_i64 (by omega) (by omega), hw]
  refine callT (fill_eq (w + 1) (by omega)) ?_
  have hacc : (accL (List.replicate (w + 1) (stp false))).getD [] = List.replicate (w + 1) (stp false) := rfl
  have hR : lenI (List.replicate (w + 1) (stp false)) = ((w + 1 : Nat) : Int) := by rw [lenI_eq]; simp
  have hW : IntKind.i64.wrap (((w + 1 : Nat) : Int) - 1) = (w : Int) := by rw [wrap_i64 (by omega) (by omega)]; omega
  have hg : (List.replicate (w + 1) (stp false)).getD w ((0, 0, 0, (0, 0), 0, none, [], 0, false), (0, 0, 0, (0, 0), 0, none, [], 0, false), [], 0, false) = stp false := by simp [List.getD_eq_getElem?_getD]
  have hset : (List.replicate (w + 1) (stp false)).set w ((stp false).fst, (stp false).snd.fst, (stp false).snd.snd.fst, (stp false).snd.snd.snd.fst, gone) = List.replicate w (stp false) ++ [stp gone] := by
    rw [List.replicate_succ']
    rw [List.set_append_right _ _ (by simp)]
    simp
    rfl
  simp only [hacc, hR, hW, Int.toNat_natCast, Nat.zero_add, hg, hset]
  refine ifT ?_ (callT (record_eq (l := some (List.replicate w (stp false) ++ [stp gone])) (u := gone) ?_ ?_) ?_)
  · simp [nlt]
    omega
  · intro x hx
    simp only [Option.getD_some, List.mem_append, List.mem_replicate, List.mem_singleton] at hx
    rcases hx with ⟨_, rfl⟩ | rfl
    · exact step_stp false
    · exact step_stp gone
  · simp
    omega
  · have hL : lenI (List.replicate w (stp false) ++ [stp gone]) = ((w + 1 : Nat) : Int) := by rw [lenI_eq]; simp
    have hK : ∀ u, keepP 2 (stp u) = !u := fun u => by cases u <;> rfl
    have hF : (List.replicate w (stp false)).filter (keepP 2) = List.replicate w (stp false) := by
      rw [List.filter_replicate, if_pos (by rw [hK]; rfl)]
    have hU : ((List.replicate w (stp false) ++ [stp gone]).filter (keepP 2)).length = if gone then w else w + 1 := by
      rw [List.filter_append, hF]
      cases gone <;> simp [List.filter_cons, hK]
    have e1 : IntKind.i64.wrap (((w + 1 : Nat) : Int) + 1) = ((w + 2 : Nat) : Int) := by rw [wrap_i64 (by omega) (by omega)]; omega
    have e2 : IntKind.i64.wrap (((w + 2 : Nat) : Int) - 1) = ((w + 1 : Nat) : Int) := by rw [wrap_i64 (by omega) (by omega)]; omega
    simp only [hL, e1, e2, Option.getD_some]
    by_cases hc : 4096 ≤ ((List.replicate w (stp false) ++ [stp gone]).filter (keepP 2)).length
    · rw [if_pos hc]
      refine ifT (by simp) (dcT ?_ (ifT rfl (ifT rfl (callT known30 rfl))))
      rw [hU] at hc
      cases gone <;> simp at hc ⊢ <;> omega
    · rw [if_neg hc]
      refine ifT (by simp) (dcF ?_ (ifT rfl (ifT ?_ (callT known30 rfl))))
      · rw [hU] at hc
        cases gone <;> simp at hc ⊢ <;> omega
      · rw [beq_iff_eq, lenI_eq]
        simp only [Option.getD_some, List.length_append, hU]
        cases gone <;> simp <;> omega
end Go.Fn
