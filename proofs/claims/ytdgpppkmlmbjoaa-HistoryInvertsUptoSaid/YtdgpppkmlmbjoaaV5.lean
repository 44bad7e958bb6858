/- The statement HistoryInvertsUptoSaid of the given program is proved here: for every input whose bulk is at most the bound of its row, the law returns true and changes nothing. Part 5 of 6. -/
import Derived.KernelRfl
import Derived.Test.YtdgpppkmlmbjoaaV4
/- bitext/bitextlaw30.draft -/
namespace Go.Fn
open Go Go.Vs Go.Ve
set_option linter.unusedVariables false
def bitextlaw30_draft : Int →
    List UInt8 →
      Option (Int × Int × Int × (Int × Int) × Int × Option (List (Int × List UInt8 × Int)) × List UInt8 × Int × Bool) :=
  fun id s => some (id, 0, 0, (0, 5), 2, some [(1, s, 0)], [97, 110, 110], 0, false)
end Go.Fn
/- bitext/bitextref3.Same -/
namespace Go.Fn
open Go Go.Vs Go.Ve
set_option linter.unusedVariables false
def bitextref3_Same_l0 : Option (List (Int × List UInt8 × Int)) → Option (List (Int × List UInt8 × Int)) → Int → Option (Int ⊕ Bool ⊕ Unit) :=
  fun a b s1 =>
    if decide (s1 < lenI (a.getD [])) = true then
      if (decide (0 ≤ s1 ∧ s1 < lenI (a.getD [])) && decide (0 ≤ s1 ∧ s1 < lenI (b.getD []))) = true then
        if
            (!(((a.getD []).getD s1.toNat (0, [], 0)).fst == ((b.getD []).getD s1.toNat (0, [], 0)).fst &&
                  (decide
                      (((a.getD []).getD s1.toNat (0, [], 0)).snd.fst = ((b.getD []).getD s1.toNat (0, [], 0)).snd.fst) &&
                    (((a.getD []).getD s1.toNat (0, [], 0)).snd.snd == ((b.getD []).getD s1.toNat (0, [], 0)).snd.snd &&
                      true)))) =
              true then
          some (Sum.inr (Sum.inl false))
        else some (Sum.inl (IntKind.i64.wrap (s1 + 1)))
      else none
    else some (Sum.inr (Sum.inr ()))
def bitextref3_Same : Option (List (Int × List UInt8 × Int)) → Option (List (Int × List UInt8 × Int)) → Option Bool :=
  fun a b =>
    if (lenI (a.getD []) != lenI (b.getD [])) = true then some false
    else callO (loopR (bitextref3_Same_l0 a b) 0) fun r1 => sumO r1 (fun r2 => some r2) fun r3 => some true
end Go.Fn
/- bitext/bitextref26.SameSegment -/
namespace Go.Fn
open Go Go.Vs Go.Ve
set_option linter.unusedVariables false
def bitextref26_SameSegment : Int × Int × Int × (Int × Int) × Int × Option (List (Int × List UInt8 × Int)) × List UInt8 × Int × Bool →
    Int × Int × Int × (Int × Int) × Int × Option (List (Int × List UInt8 × Int)) × List UInt8 × Int × Bool → Option Bool :=
  fun a0 a1 =>
    if (a0.fst == a1.fst) = true then
      if (a0.snd.fst == a1.snd.fst) = true then
        if (a0.snd.snd.fst == a1.snd.snd.fst) = true then
          if
              (a0.snd.snd.snd.fst.fst == a1.snd.snd.snd.fst.fst &&
                  (a0.snd.snd.snd.fst.snd == a1.snd.snd.snd.fst.snd && true)) =
                true then
            if (a0.snd.snd.snd.snd.fst == a1.snd.snd.snd.snd.fst) = true then
              callO (bitextref3_Same a0.snd.snd.snd.snd.snd.fst a1.snd.snd.snd.snd.snd.fst) fun r1 =>
                some
                  (r1 &&
                    (decide (a0.snd.snd.snd.snd.snd.snd.fst = a1.snd.snd.snd.snd.snd.snd.fst) &&
                      (a0.snd.snd.snd.snd.snd.snd.snd.fst == a1.snd.snd.snd.snd.snd.snd.snd.fst &&
                        a0.snd.snd.snd.snd.snd.snd.snd.snd == a1.snd.snd.snd.snd.snd.snd.snd.snd)))
            else some false
          else some false
        else some false
      else some false
    else some false
end Go.Fn
/- bitext/history.Of$1 -/
namespace Go.Fn
open Go Go.Vs Go.Ve
set_option linter.unusedVariables false
def history_Of_1 : (Int × Int × Int × (Int × Int) × Int × Option (List (Int × List UInt8 × Int)) × List UInt8 × Int × Bool) ×
      (Int × Int × Int × (Int × Int) × Int × Option (List (Int × List UInt8 × Int)) × List UInt8 × Int × Bool) ×
        List UInt8 × Int × Bool →
    Int → Option Bool :=
  fun s segment => some (s.snd.fst.fst == segment && !s.snd.snd.snd.snd)
end Go.Fn
/- slices.Clone[[]bitext/api.Item,bitext/api.Item] -/
namespace Go.Fn
open Go Go.Vs Go.Ve
set_option linter.unusedVariables false
def slices_Clone_api_Item : Option (List (Int × List UInt8 × Int)) → Option (Option (List (Int × List UInt8 × Int))) :=
  fun s =>
    if (!s.isSome) = true then some none
    else if (true && decide (0 + (s.getD []).length ≤ 68719476736)) = true then some (some ([] ++ s.getD [])) else none
end Go.Fn
/- bitext/view.Segment -/
namespace Go.Fn
open Go Go.Vs Go.Ve
set_option linter.unusedVariables false
def view_Segment : Int × Int × Int × (Int × Int) × Int × Option (List (Int × List UInt8 × Int)) × List UInt8 × Int × Bool →
    Option (Int × Int × Int × (Int × Int) × Int × Option (List (Int × List UInt8 × Int)) × List UInt8 × Int × Bool) :=
  fun s =>
    callO (slices_Clone_api_Item s.snd.snd.snd.snd.snd.fst) fun r1 =>
      if (r1.isSome == r1.isSome) = true then
        if (r1.isSome == r1.isSome) = true then
          some (s.fst, s.snd.fst, s.snd.snd.fst, s.snd.snd.snd.fst, s.snd.snd.snd.snd.fst, r1, s.snd.snd.snd.snd.snd.snd)
        else none
      else none
end Go.Fn
/- bitext/history.step -/
namespace Go.Fn
open Go Go.Vs Go.Ve
set_option linter.unusedVariables false
def history_step : (Int × Int × Int × (Int × Int) × Int × Option (List (Int × List UInt8 × Int)) × List UInt8 × Int × Bool) ×
      (Int × Int × Int × (Int × Int) × Int × Option (List (Int × List UInt8 × Int)) × List UInt8 × Int × Bool) ×
        List UInt8 × Int × Bool →
    Option
      ((Int × Int × Int × (Int × Int) × Int × Option (List (Int × List UInt8 × Int)) × List UInt8 × Int × Bool) ×
        (Int × Int × Int × (Int × Int) × Int × Option (List (Int × List UInt8 × Int)) × List UInt8 × Int × Bool) ×
          List UInt8 × Int × Bool) :=
  fun s => callO (view_Segment s.fst) fun r1 => callO (view_Segment s.snd.fst) fun r2 => some (r1, r2, s.snd.snd)
end Go.Fn
/- bitext/history.only -/
namespace Go.Fn
open Go Go.Vs Go.Ve
set_option linter.unusedVariables false
def history_only_o_l0 : Option
      (List
        ((Int × Int × Int × (Int × Int) × Int × Option (List (Int × List UInt8 × Int)) × List UInt8 × Int × Bool) ×
          (Int × Int × Int × (Int × Int) × Int × Option (List (Int × List UInt8 × Int)) × List UInt8 × Int × Bool) ×
            List UInt8 × Int × Bool)) →
    Int →
      Option
            (List
              ((Int × Int × Int × (Int × Int) × Int × Option (List (Int × List UInt8 × Int)) × List UInt8 × Int × Bool) ×
                (Int × Int × Int × (Int × Int) × Int × Option (List (Int × List UInt8 × Int)) × List UInt8 × Int × Bool) ×
                  List UInt8 × Int × Bool)) ×
          Int →
        Option
          (Option
                (List
                  ((Int ×
                      Int × Int × (Int × Int) × Int × Option (List (Int × List UInt8 × Int)) × List UInt8 × Int × Bool) ×
                    (Int ×
                        Int ×
                          Int × (Int × Int) × Int × Option (List (Int × List UInt8 × Int)) × List UInt8 × Int × Bool) ×
                      List UInt8 × Int × Bool)) ×
              Int ⊕
            Option
              (List
                ((Int ×
                    Int × Int × (Int × Int) × Int × Option (List (Int × List UInt8 × Int)) × List UInt8 × Int × Bool) ×
                  (Int ×
                      Int × Int × (Int × Int) × Int × Option (List (Int × List UInt8 × Int)) × List UInt8 × Int × Bool) ×
                    List UInt8 × Int × Bool))) :=
  fun l segment s1 =>
    if decide (s1.snd < lenI (l.getD [])) = true then
      if decide (0 ≤ s1.snd ∧ s1.snd < lenI (l.getD [])) = true then
        callO
          (history_Of_1
            ((l.getD []).getD s1.snd.toNat
              ((0, 0, 0, (0, 0), 0, none, [], 0, false), (0, 0, 0, (0, 0), 0, none, [], 0, false), [], 0, false))
            segment)
          fun r1 =>
          if r1 = true then
            callO
              (history_step
                ((l.getD []).getD s1.snd.toNat
                  ((0, 0, 0, (0, 0), 0, none, [], 0, false), (0, 0, 0, (0, 0), 0, none, [], 0, false), [], 0, false)))
              fun r2 =>
              if
                  (decide (0 + (s1.fst.getD []).length = (s1.fst.getD []).length) &&
                      (decide ((s1.fst.getD []).length + [r2].length ≤ 68719476736) && s1.fst.isSome == s1.fst.isSome)) =
                    true then
                some (Sum.inl (some (s1.fst.getD [] ++ [r2]), IntKind.i64.wrap (s1.snd + 1)))
              else none
          else some (Sum.inl (s1.fst, IntKind.i64.wrap (s1.snd + 1)))
      else none
    else some (Sum.inr s1.fst)
def history_only_o : Option
      (List
        ((Int × Int × Int × (Int × Int) × Int × Option (List (Int × List UInt8 × Int)) × List UInt8 × Int × Bool) ×
          (Int × Int × Int × (Int × Int) × Int × Option (List (Int × List UInt8 × Int)) × List UInt8 × Int × Bool) ×
            List UInt8 × Int × Bool)) →
    Int →
      Option
        (Option
          (List
            ((Int × Int × Int × (Int × Int) × Int × Option (List (Int × List UInt8 × Int)) × List UInt8 × Int × Bool) ×
              (Int × Int × Int × (Int × Int) × Int × Option (List (Int × List UInt8 × Int)) × List UInt8 × Int × Bool) ×
                List UInt8 × Int × Bool))) :=
  fun l segment =>
    callO (loopR (history_only_o_l0 l segment) (none, 0)) fun r1 =>
      if (r1.isSome == r1.isSome) = true then if (r1.isSome == r1.isSome) = true then some r1 else none else none
end Go.Fn
/- bitext/history.Of -/
namespace Go.Fn
open Go Go.Vs Go.Ve
set_option linter.unusedVariables false
def history_Of : Option
      (List
        ((Int × Int × Int × (Int × Int) × Int × Option (List (Int × List UInt8 × Int)) × List UInt8 × Int × Bool) ×
          (Int × Int × Int × (Int × Int) × Int × Option (List (Int × List UInt8 × Int)) × List UInt8 × Int × Bool) ×
            List UInt8 × Int × Bool)) →
    Int →
      Option
        (Option
          (List
            ((Int × Int × Int × (Int × Int) × Int × Option (List (Int × List UInt8 × Int)) × List UInt8 × Int × Bool) ×
              (Int × Int × Int × (Int × Int) × Int × Option (List (Int × List UInt8 × Int)) × List UInt8 × Int × Bool) ×
                List UInt8 × Int × Bool))) :=
  fun l segment =>
    callO (history_only_o l segment) fun r1 =>
      if (r1.isSome == r1.isSome) = true then if (r1.isSome == r1.isSome) = true then some r1 else none else none
end Go.Fn
/- bitext/history.Plain -/
namespace Go.Fn
open Go Go.Vs Go.Ve
set_option linter.unusedVariables false
def history_Plain : Int × Int × Int × (Int × Int) × Int × Option (List (Int × List UInt8 × Int)) × List UInt8 × Int × Bool →
    Option (Int × Int × Int × (Int × Int) × Int × Option (List (Int × List UInt8 × Int)) × List UInt8 × Int × Bool) :=
  fun s =>
    callO
      (view_Segment
        (s.fst, s.snd.fst, s.snd.snd.fst, s.snd.snd.snd.fst,
          if decide (s.snd.snd.snd.snd.snd.snd.fst = []) = true then 0 else s.snd.snd.snd.snd.fst,
          if decide (s.snd.snd.snd.snd.snd.snd.fst = []) = true then none else s.snd.snd.snd.snd.snd.fst,
          s.snd.snd.snd.snd.snd.snd.fst,
          if decide (s.snd.snd.snd.snd.snd.snd.fst = []) = true then 0 else s.snd.snd.snd.snd.snd.snd.snd.fst,
          s.snd.snd.snd.snd.snd.snd.snd.snd))
      fun r1 => some r1
end Go.Fn
/- bitext/history.Record$1 -/
namespace Go.Fn
open Go Go.Vs Go.Ve
set_option linter.unusedVariables false
def history_Record_1 : (Int × Int × Int × (Int × Int) × Int × Option (List (Int × List UInt8 × Int)) × List UInt8 × Int × Bool) ×
      (Int × Int × Int × (Int × Int) × Int × Option (List (Int × List UInt8 × Int)) × List UInt8 × Int × Bool) ×
        List UInt8 × Int × Bool →
    Int → Option Bool :=
  fun x id => some (x.snd.fst.fst != id || !x.snd.snd.snd.snd)
end Go.Fn
/- bitext/history.only -/
namespace Go.Fn
open Go Go.Vs Go.Ve
set_option linter.unusedVariables false
def history_only_r_l0 : Option
      (List
        ((Int × Int × Int × (Int × Int) × Int × Option (List (Int × List UInt8 × Int)) × List UInt8 × Int × Bool) ×
          (Int × Int × Int × (Int × Int) × Int × Option (List (Int × List UInt8 × Int)) × List UInt8 × Int × Bool) ×
            List UInt8 × Int × Bool)) →
    Int →
      Option
            (List
              ((Int × Int × Int × (Int × Int) × Int × Option (List (Int × List UInt8 × Int)) × List UInt8 × Int × Bool) ×
                (Int × Int × Int × (Int × Int) × Int × Option (List (Int × List UInt8 × Int)) × List UInt8 × Int × Bool) ×
                  List UInt8 × Int × Bool)) ×
          Int →
        Option
          (Option
                (List
                  ((Int ×
                      Int × Int × (Int × Int) × Int × Option (List (Int × List UInt8 × Int)) × List UInt8 × Int × Bool) ×
                    (Int ×
                        Int ×
                          Int × (Int × Int) × Int × Option (List (Int × List UInt8 × Int)) × List UInt8 × Int × Bool) ×
                      List UInt8 × Int × Bool)) ×
              Int ⊕
            Option
              (List
                ((Int ×
                    Int × Int × (Int × Int) × Int × Option (List (Int × List UInt8 × Int)) × List UInt8 × Int × Bool) ×
                  (Int ×
                      Int × Int × (Int × Int) × Int × Option (List (Int × List UInt8 × Int)) × List UInt8 × Int × Bool) ×
                    List UInt8 × Int × Bool))) :=
  fun l id s1 =>
    if decide (s1.snd < lenI (l.getD [])) = true then
      if decide (0 ≤ s1.snd ∧ s1.snd < lenI (l.getD [])) = true then
        callO
          (history_Record_1
            ((l.getD []).getD s1.snd.toNat
              ((0, 0, 0, (0, 0), 0, none, [], 0, false), (0, 0, 0, (0, 0), 0, none, [], 0, false), [], 0, false))
            id)
          fun r1 =>
          if r1 = true then
            callO
              (history_step
                ((l.getD []).getD s1.snd.toNat
                  ((0, 0, 0, (0, 0), 0, none, [], 0, false), (0, 0, 0, (0, 0), 0, none, [], 0, false), [], 0, false)))
              fun r2 =>
              if
                  (decide (0 + (s1.fst.getD []).length = (s1.fst.getD []).length) &&
                      (decide ((s1.fst.getD []).length + [r2].length ≤ 68719476736) && s1.fst.isSome == s1.fst.isSome)) =
                    true then
                some (Sum.inl (some (s1.fst.getD [] ++ [r2]), IntKind.i64.wrap (s1.snd + 1)))
              else none
          else some (Sum.inl (s1.fst, IntKind.i64.wrap (s1.snd + 1)))
      else none
    else some (Sum.inr s1.fst)
def history_only_r : Option
      (List
        ((Int × Int × Int × (Int × Int) × Int × Option (List (Int × List UInt8 × Int)) × List UInt8 × Int × Bool) ×
          (Int × Int × Int × (Int × Int) × Int × Option (List (Int × List UInt8 × Int)) × List UInt8 × Int × Bool) ×
            List UInt8 × Int × Bool)) →
    Int →
      Option
        (Option
          (List
            ((Int × Int × Int × (Int × Int) × Int × Option (List (Int × List UInt8 × Int)) × List UInt8 × Int × Bool) ×
              (Int × Int × Int × (Int × Int) × Int × Option (List (Int × List UInt8 × Int)) × List UInt8 × Int × Bool) ×
                List UInt8 × Int × Bool))) :=
  fun l id =>
    callO (loopR (history_only_r_l0 l id) (none, 0)) fun r1 =>
      if (r1.isSome == r1.isSome) = true then if (r1.isSome == r1.isSome) = true then some r1 else none else none
end Go.Fn
/- bitext/history.Record -/
namespace Go.Fn
open Go Go.Vs Go.Ve
set_option linter.unusedVariables false
def history_Record_d : Option
      (List
        ((Int × Int × Int × (Int × Int) × Int × Option (List (Int × List UInt8 × Int)) × List UInt8 × Int × Bool) ×
          (Int × Int × Int × (Int × Int) × Int × Option (List (Int × List UInt8 × Int)) × List UInt8 × Int × Bool) ×
            List UInt8 × Int × Bool)) →
    (Int × Int × Int × (Int × Int) × Int × Option (List (Int × List UInt8 × Int)) × List UInt8 × Int × Bool) ×
        (Int × Int × Int × (Int × Int) × Int × Option (List (Int × List UInt8 × Int)) × List UInt8 × Int × Bool) ×
          List UInt8 × Int × Bool →
      Option
        (Option
            (List
              ((Int × Int × Int × (Int × Int) × Int × Option (List (Int × List UInt8 × Int)) × List UInt8 × Int × Bool) ×
                (Int × Int × Int × (Int × Int) × Int × Option (List (Int × List UInt8 × Int)) × List UInt8 × Int × Bool) ×
                  List UInt8 × Int × Bool)) ×
          Int) :=
  fun l s =>
    if (decide (s.snd.fst.fst < 1) || (s.fst.fst != s.snd.fst.fst || s.snd.snd.snd.snd)) = true then some (none, 1)
    else
      callO (history_only_r l s.snd.fst.fst) fun r1 =>
        if (r1.isSome == r1.isSome) = true then
          if decide (lenI (r1.getD []) ≥ 4096) = true then some (none, 3)
          else
            callO (history_Plain s.fst) fun r2 =>
              callO (history_Plain s.snd.fst) fun r3 =>
                if
                    (decide (0 + (r1.getD []).length = (r1.getD []).length) &&
                        (decide ((r1.getD []).length + [(r2, r3, s.snd.snd)].length ≤ 68719476736) &&
                          r1.isSome == r1.isSome)) =
                      true then
                  some (some (r1.getD [] ++ [(r2, r3, s.snd.snd)]), 0)
                else none
        else none
end Go.Fn
/- bitext/history.every$1 -/
namespace Go.Fn
open Go Go.Vs Go.Ve
set_option linter.unusedVariables false
def history_every_1 : (Int × Int × Int × (Int × Int) × Int × Option (List (Int × List UInt8 × Int)) × List UInt8 × Int × Bool) ×
      (Int × Int × Int × (Int × Int) × Int × Option (List (Int × List UInt8 × Int)) × List UInt8 × Int × Bool) ×
        List UInt8 × Int × Bool →
    Option Bool :=
  fun a0 => some true
end Go.Fn
/- bitext/history.only -/
namespace Go.Fn
open Go Go.Vs Go.Ve
set_option linter.unusedVariables false
def history_only_e_l0 : Option
      (List
        ((Int × Int × Int × (Int × Int) × Int × Option (List (Int × List UInt8 × Int)) × List UInt8 × Int × Bool) ×
          (Int × Int × Int × (Int × Int) × Int × Option (List (Int × List UInt8 × Int)) × List UInt8 × Int × Bool) ×
            List UInt8 × Int × Bool)) →
    Option
          (List
            ((Int × Int × Int × (Int × Int) × Int × Option (List (Int × List UInt8 × Int)) × List UInt8 × Int × Bool) ×
              (Int × Int × Int × (Int × Int) × Int × Option (List (Int × List UInt8 × Int)) × List UInt8 × Int × Bool) ×
                List UInt8 × Int × Bool)) ×
        Int →
      Option
        (Option
              (List
                ((Int ×
                    Int × Int × (Int × Int) × Int × Option (List (Int × List UInt8 × Int)) × List UInt8 × Int × Bool) ×
                  (Int ×
                      Int × Int × (Int × Int) × Int × Option (List (Int × List UInt8 × Int)) × List UInt8 × Int × Bool) ×
                    List UInt8 × Int × Bool)) ×
            Int ⊕
          Option
            (List
              ((Int × Int × Int × (Int × Int) × Int × Option (List (Int × List UInt8 × Int)) × List UInt8 × Int × Bool) ×
                (Int × Int × Int × (Int × Int) × Int × Option (List (Int × List UInt8 × Int)) × List UInt8 × Int × Bool) ×
                  List UInt8 × Int × Bool))) :=
  fun l s1 =>
    if decide (s1.snd < lenI (l.getD [])) = true then
      if decide (0 ≤ s1.snd ∧ s1.snd < lenI (l.getD [])) = true then
        callO
          (history_every_1
            ((l.getD []).getD s1.snd.toNat
              ((0, 0, 0, (0, 0), 0, none, [], 0, false), (0, 0, 0, (0, 0), 0, none, [], 0, false), [], 0, false)))
          fun r1 =>
          if r1 = true then
            callO
              (history_step
                ((l.getD []).getD s1.snd.toNat
                  ((0, 0, 0, (0, 0), 0, none, [], 0, false), (0, 0, 0, (0, 0), 0, none, [], 0, false), [], 0, false)))
              fun r2 =>
              if
                  (decide (0 + (s1.fst.getD []).length = (s1.fst.getD []).length) &&
                      (decide ((s1.fst.getD []).length + [r2].length ≤ 68719476736) && s1.fst.isSome == s1.fst.isSome)) =
                    true then
                some (Sum.inl (some (s1.fst.getD [] ++ [r2]), IntKind.i64.wrap (s1.snd + 1)))
              else none
          else some (Sum.inl (s1.fst, IntKind.i64.wrap (s1.snd + 1)))
      else none
    else some (Sum.inr s1.fst)
def history_only_e : Option
      (List
        ((Int × Int × Int × (Int × Int) × Int × Option (List (Int × List UInt8 × Int)) × List UInt8 × Int × Bool) ×
          (Int × Int × Int × (Int × Int) × Int × Option (List (Int × List UInt8 × Int)) × List UInt8 × Int × Bool) ×
            List UInt8 × Int × Bool)) →
    Option
      (Option
        (List
          ((Int × Int × Int × (Int × Int) × Int × Option (List (Int × List UInt8 × Int)) × List UInt8 × Int × Bool) ×
            (Int × Int × Int × (Int × Int) × Int × Option (List (Int × List UInt8 × Int)) × List UInt8 × Int × Bool) ×
              List UInt8 × Int × Bool))) :=
  fun l =>
    callO (loopR (history_only_e_l0 l) (none, 0)) fun r1 =>
      if (r1.isSome == r1.isSome) = true then if (r1.isSome == r1.isSome) = true then some r1 else none else none
end Go.Fn
/- bitext/history.every -/
namespace Go.Fn
open Go Go.Vs Go.Ve
set_option linter.unusedVariables false
def history_every : Option
      (List
        ((Int × Int × Int × (Int × Int) × Int × Option (List (Int × List UInt8 × Int)) × List UInt8 × Int × Bool) ×
          (Int × Int × Int × (Int × Int) × Int × Option (List (Int × List UInt8 × Int)) × List UInt8 × Int × Bool) ×
            List UInt8 × Int × Bool)) →
    Option
      (Option
        (List
          ((Int × Int × Int × (Int × Int) × Int × Option (List (Int × List UInt8 × Int)) × List UInt8 × Int × Bool) ×
            (Int × Int × Int × (Int × Int) × Int × Option (List (Int × List UInt8 × Int)) × List UInt8 × Int × Bool) ×
              List UInt8 × Int × Bool))) :=
  fun l =>
    callO (history_only_e l) fun r1 =>
      if (r1.isSome == r1.isSome) = true then if (r1.isSome == r1.isSome) = true then some r1 else none else none
end Go.Fn
/- bitext/history.lastDone (a range over slices.Backward: by hand) -/
namespace Go.Fn
open Go Go.Vs Go.Ve
abbrev HStep : Type := ((Int × Int × Int × (Int × Int) × Int × Option (List (Int × List UInt8 × Int)) × List UInt8 × Int × Bool) × (Int × Int × Int × (Int × Int) × Int × Option (List (Int × List UInt8 × Int)) × List UInt8 × Int × Bool) × List UInt8 × Int × Bool)
def hHit (seg : Int) (x : HStep) : Bool := x.2.1.1 == seg && !x.2.2.2.2
/-- the last of the first n that hits; or -1 -/
def lastHit (l : List HStep) (seg : Int) : Nat → Int
  | 0 => -1
  | n + 1 => if hHit seg (l.getD n ((0, 0, 0, (0, 0), 0, none, [], 0, false), (0, 0, 0, (0, 0), 0, none, [], 0, false), [], 0, false)) then (n : Int) else lastHit l seg n
def history_lastDone (l : Option (List HStep)) (seg : Int) : Option Int :=
  if (l.getD []).length ≤ 4611686018427387904 then some (lastHit (l.getD []) seg (l.getD []).length) else none
end Go.Fn
/- bitext/history.Undo -/
namespace Go.Fn
open Go Go.Vs Go.Ve
set_option linter.unusedVariables false
def history_Undo : Option
      (List
        ((Int × Int × Int × (Int × Int) × Int × Option (List (Int × List UInt8 × Int)) × List UInt8 × Int × Bool) ×
          (Int × Int × Int × (Int × Int) × Int × Option (List (Int × List UInt8 × Int)) × List UInt8 × Int × Bool) ×
            List UInt8 × Int × Bool)) →
    Int →
      Option
        (Option
            (List
              ((Int × Int × Int × (Int × Int) × Int × Option (List (Int × List UInt8 × Int)) × List UInt8 × Int × Bool) ×
                (Int × Int × Int × (Int × Int) × Int × Option (List (Int × List UInt8 × Int)) × List UInt8 × Int × Bool) ×
                  List UInt8 × Int × Bool)) ×
          (Int × Int × Int × (Int × Int) × Int × Option (List (Int × List UInt8 × Int)) × List UInt8 × Int × Bool) × Int) :=
  fun l segment =>
    callO (history_lastDone l segment) fun r1 =>
      if decide (r1 < 0) = true then some (none, (0, 0, 0, (0, 0), 0, none, [], 0, false), 6)
      else
        if (decide (0 ≤ r1 ∧ r1 < lenI (l.getD [])) && decide (0 ≤ r1 ∧ r1 < lenI (l.getD []))) = true then
          if
              (!(((l.getD []).getD r1.toNat
                                    ((0, 0, 0, (0, 0), 0, none, [], 0, false), (0, 0, 0, (0, 0), 0, none, [], 0, false),
                                      [], 0, false)).fst.snd.snd.snd.fst.fst ==
                      ((l.getD []).getD r1.toNat
                                      ((0, 0, 0, (0, 0), 0, none, [], 0, false), (0, 0, 0, (0, 0), 0, none, [], 0, false),
                                        [], 0, false)).snd.fst.snd.snd.snd.fst.fst &&
                    (((l.getD []).getD r1.toNat
                                      ((0, 0, 0, (0, 0), 0, none, [], 0, false), (0, 0, 0, (0, 0), 0, none, [], 0, false),
                                        [], 0, false)).fst.snd.snd.snd.fst.snd ==
                        ((l.getD []).getD r1.toNat
                                        ((0, 0, 0, (0, 0), 0, none, [], 0, false),
                                          (0, 0, 0, (0, 0), 0, none, [], 0, false), [], 0,
                                          false)).snd.fst.snd.snd.snd.fst.snd &&
                      true))) =
                true then
            some (none, (0, 0, 0, (0, 0), 0, none, [], 0, false), 8)
          else
            callO (history_every l) fun r2 =>
              if (r2.isSome == r2.isSome) = true then
                if (decide (0 ≤ r1 ∧ r1 < lenI (r2.getD [])) && nlt (0 + r1.toNat) (r2.getD []).length) = true then
                  if decide (0 ≤ r1 ∧ r1 < lenI (l.getD [])) = true then
                    callO
                      (view_Segment
                        ((l.getD []).getD r1.toNat
                            ((0, 0, 0, (0, 0), 0, none, [], 0, false), (0, 0, 0, (0, 0), 0, none, [], 0, false), [], 0,
                              false)).fst)
                      fun r3 =>
                      some
                        (some
                            ((r2.getD []).set (0 + r1.toNat)
                              (((r2.getD []).getD (0 + r1.toNat)
                                    ((0, 0, 0, (0, 0), 0, none, [], 0, false), (0, 0, 0, (0, 0), 0, none, [], 0, false),
                                      [], 0, false)).fst,
                                ((r2.getD []).getD (0 + r1.toNat)
                                      ((0, 0, 0, (0, 0), 0, none, [], 0, false), (0, 0, 0, (0, 0), 0, none, [], 0, false),
                                        [], 0, false)).snd.fst,
                                ((r2.getD []).getD (0 + r1.toNat)
                                        ((0, 0, 0, (0, 0), 0, none, [], 0, false),
                                          (0, 0, 0, (0, 0), 0, none, [], 0, false), [], 0, false)).snd.snd.fst,
                                ((r2.getD []).getD (0 + r1.toNat)
                                          ((0, 0, 0, (0, 0), 0, none, [], 0, false),
                                            (0, 0, 0, (0, 0), 0, none, [], 0, false), [], 0, false)).snd.snd.snd.fst,
                                true)),
                          r3, 0)
                  else none
                else none
              else none
        else none
end Go.Fn
/- bitext/bitextlaw30.known -/
namespace Go.Fn
open Go Go.Vs Go.Ve
set_option linter.unusedVariables false
def bitextlaw30_known : Option Bool :=
  callO (bitextlaw30_draft 1 [120]) fun r1 =>
    callO (history_Record_d none ((1, 0, 0, (0, 5), 0, none, [], 0, false), r1, [97, 110, 110], 0, false)) fun r2 =>
      callO (bitextlaw30_draft 1 [120]) fun r3 =>
        callO (bitextlaw30_draft 1 [121]) fun r4 =>
          callO (history_Record_d r2.fst (r3, r4, [97, 110, 110], 3, false)) fun r5 =>
            callO (history_Undo r5.fst 1) fun r6 =>
              if
                  (r6.fst.isSome == r6.fst.isSome &&
                      (r6.fst.isSome == r6.fst.isSome && r6.fst.isSome == r6.fst.isSome)) =
                    true then
                if (r6.fst.isSome == r6.fst.isSome) = true then
                  callO (history_Undo r6.fst 1) fun r7 =>
                    if
                        (r7.fst.isSome == r7.fst.isSome &&
                            (r7.fst.isSome == r7.fst.isSome && r7.fst.isSome == r7.fst.isSome)) =
                          true then
                      if (r7.fst.isSome == r7.fst.isSome) = true then
                        callO (history_Undo r7.fst 1) fun r8 =>
                          if
                              (r8.fst.isSome == r8.fst.isSome &&
                                  (r8.fst.isSome == r8.fst.isSome && r8.fst.isSome == r8.fst.isSome)) =
                                true then
                            if (r2.snd == 0) = true then
                              if (r5.snd == 0) = true then
                                if (r6.snd.snd == 0) = true then
                                  if (r7.snd.snd == 0) = true then
                                    if (r8.snd.snd == 6) = true then
                                      callO (bitextlaw30_draft 1 [120]) fun r9 =>
                                        callO (bitextref26_SameSegment r6.snd.fst r9) fun r10 =>
                                          if r10 = true then
                                            callO
                                              (bitextref26_SameSegment r7.snd.fst
                                                (1, 0, 0, (0, 5), 0, none, [], 0, false))
                                              fun r11 =>
                                              if r11 = true then
                                                callO (history_Of r6.fst 1) fun r12 => some (lenI (r12.getD []) == 1)
                                              else some false
                                          else some false
                                    else some false
                                  else some false
                                else some false
                              else some false
                            else some false
                          else none
                      else none
                    else none
                else none
              else none
end Go.Fn
/- bitext/bitextlaw30.lastStep -/
namespace Go.Fn
open Go Go.Vs Go.Ve
set_option linter.unusedVariables false
def bitextlaw30_lastStep : Option
      (List
        ((Int × Int × Int × (Int × Int) × Int × Option (List (Int × List UInt8 × Int)) × List UInt8 × Int × Bool) ×
          (Int × Int × Int × (Int × Int) × Int × Option (List (Int × List UInt8 × Int)) × List UInt8 × Int × Bool) ×
            List UInt8 × Int × Bool)) →
    Int →
      Option
        ((Int × Int × Int × (Int × Int) × Int × Option (List (Int × List UInt8 × Int)) × List UInt8 × Int × Bool) ×
          (Int × Int × Int × (Int × Int) × Int × Option (List (Int × List UInt8 × Int)) × List UInt8 × Int × Bool) ×
            List UInt8 × Int × Bool) :=
  fun l segment =>
    callO (history_Of l segment) fun r1 =>
      if (r1.isSome == r1.isSome) = true then
        if (lenI (r1.getD []) == 0) = true then
          some ((0, 0, 0, (0, 0), 0, none, [], 0, false), (0, 0, 0, (0, 0), 0, none, [], 0, false), [], 0, false)
        else
          if
              (decide
                    (0 ≤ IntKind.i64.wrap (lenI (r1.getD []) - 1) ∧
                      IntKind.i64.wrap (lenI (r1.getD []) - 1) < lenI (r1.getD [])) &&
                  nlt (0 + (IntKind.i64.wrap (lenI (r1.getD []) - 1)).toNat) (r1.getD []).length) =
                true then
            some
              ((r1.getD []).getD (0 + (IntKind.i64.wrap (lenI (r1.getD []) - 1)).toNat)
                ((0, 0, 0, (0, 0), 0, none, [], 0, false), (0, 0, 0, (0, 0), 0, none, [], 0, false), [], 0, false))
          else none
      else none
end Go.Fn
/- bitext/bitextlaw30.long -/
namespace Go.Fn
open Go Go.Vs Go.Ve
set_option linter.unusedVariables false
def bitextlaw30_long_l0 : Option (List (Option (List Int))) → Int × Int → Option (Int × Int ⊕ Int) :=
  fun l s1 =>
    if decide (s1.snd < lenI (l.getD [])) = true then
      if decide (0 ≤ s1.snd ∧ s1.snd < lenI (l.getD [])) = true then
        some
          (Sum.inl
            (IntKind.i64.wrap (s1.fst + lenI (((l.getD []).getD s1.snd.toNat none).getD [])),
              IntKind.i64.wrap (s1.snd + 1)))
      else none
    else some (Sum.inr s1.fst)
def bitextlaw30_long : Option (List (Option (List Int))) → Option Bool :=
  fun l => callO (loopR (bitextlaw30_long_l0 l) (0, 0)) fun r1 => some (decide (r1 > 160))
end Go.Fn
/- bitext/bitextlaw30.from -/
namespace Go.Fn
open Go Go.Vs Go.Ve
set_option linter.unusedVariables false
def bitextlaw30_from : Option (List Int) → Option (Option (List Int) × Int) :=
  fun l => some (l, 0)
end Go.Fn
/- bitext/bitextmake.Place -/
namespace Go.Fn
open Go Go.Vs Go.Ve
set_option linter.unusedVariables false
def bitextmake_Place : Int → Int → Option Int :=
  fun x n =>
    if decide (n ≠ 0) = true then
      some (if decide (x.tmod n < 0) = true then IntKind.i64.wrap (x.tmod n + n) else x.tmod n)
    else none
end Go.Fn
/- (*bitext/bitextmake.Numbers).Next -/
namespace Go.Fn
open Go Go.Vs Go.Ve
set_option linter.unusedVariables false
def bitextmake_Numbers_Next : Int → Option (List Int) × Int → Option (Int × Int) :=
  fun n s =>
    if (!decide (s.snd < lenI (s.fst.getD [])) || decide (0 ≤ s.snd ∧ s.snd < lenI (s.fst.getD []))) = true then
      callO
        (bitextmake_Place (if decide (s.snd < lenI (s.fst.getD [])) = true then (s.fst.getD []).getD s.snd.toNat 0 else 0)
          n)
        fun r1 => some (r1, IntKind.i64.wrap (s.snd + 1))
    else none
end Go.Fn
/- bitext/bitextlaw30.step$1 -/
namespace Go.Fn
open Go Go.Vs Go.Ve
set_option linter.unusedVariables false
def bitextlaw30_step_1 : Int →
    Option (List Int) × Int →
      Option
        ((Int × Int × Int × (Int × Int) × Int × Option (List (Int × List UInt8 × Int)) × List UInt8 × Int × Bool) × Int) :=
  fun id s =>
    callO (bitextmake_Numbers_Next 3 s) fun r1 =>
      if decide (0 ≤ r1.fst ∧ r1.fst < 3) = true then
        if nlt (0 + r1.fst.toNat) 3 = true then
          callO (bitextlaw30_draft id ([[97], [98], [99]].getD (0 + r1.fst.toNat) [])) fun r2 =>
            callO (bitextmake_Numbers_Next 6 (s.fst, r1.snd)) fun r3 =>
              some
                ((r2.fst, r2.snd.fst, r2.snd.snd.fst,
                    (r2.snd.snd.snd.fst.fst,
                      if (r3.fst == 0) = true then r2.snd.snd.snd.fst.snd
                      else
                        if (r3.fst == 1) = true then r2.snd.snd.snd.fst.snd
                        else
                          if (r3.fst == 2) = true then r2.snd.snd.snd.fst.snd
                          else if (r3.fst == 3) = true then 9 else r2.snd.snd.snd.fst.snd),
                    if (r3.fst == 0) = true then 1
                    else if (r3.fst == 1) = true then 3 else if (r3.fst == 2) = true then 3 else r2.snd.snd.snd.snd.fst,
                    r2.snd.snd.snd.snd.snd.fst,
                    if (r3.fst == 0) = true then []
                    else if (r3.fst == 1) = true then [] else r2.snd.snd.snd.snd.snd.snd.fst,
                    if (r3.fst == 0) = true then r2.snd.snd.snd.snd.snd.snd.snd.fst
                    else if (r3.fst == 1) = true then 4 else r2.snd.snd.snd.snd.snd.snd.snd.fst,
                    r2.snd.snd.snd.snd.snd.snd.snd.snd),
                  r3.snd)
        else none
      else none
end Go.Fn
/- bitext/bitextlaw30.step -/
namespace Go.Fn
open Go Go.Vs Go.Ve
set_option linter.unusedVariables false
def bitextlaw30_step : Option (List Int) × Int →
    Option
      (((Int × Int × Int × (Int × Int) × Int × Option (List (Int × List UInt8 × Int)) × List UInt8 × Int × Bool) ×
          (Int × Int × Int × (Int × Int) × Int × Option (List (Int × List UInt8 × Int)) × List UInt8 × Int × Bool) ×
            List UInt8 × Int × Bool) ×
        Int) :=
  fun s =>
    callO (bitextmake_Numbers_Next 3 s) fun r1 =>
      callO (bitextlaw30_step_1 (IntKind.i64.wrap (1 + r1.fst)) (s.fst, r1.snd)) fun r2 =>
        callO (bitextlaw30_step_1 (IntKind.i64.wrap (1 + r1.fst)) (s.fst, r2.snd)) fun r3 =>
          callO (bitextmake_Numbers_Next 9 (s.fst, r3.snd)) fun r4 =>
            some ((r2.fst, r3.fst, [97, 110, 110], r4.fst, false), r4.snd)
end Go.Fn
/- bitext/bitextref28.Plain -/
namespace Go.Fn
open Go Go.Vs Go.Ve
set_option linter.unusedVariables false
def bitextref28_Plain : Int × Int × Int × (Int × Int) × Int × Option (List (Int × List UInt8 × Int)) × List UInt8 × Int × Bool →
    Option (Int × Int × Int × (Int × Int) × Int × Option (List (Int × List UInt8 × Int)) × List UInt8 × Int × Bool) :=
  fun s =>
    some
      (s.fst, s.snd.fst, s.snd.snd.fst, s.snd.snd.snd.fst,
        if decide (s.snd.snd.snd.snd.snd.snd.fst = []) = true then 0 else s.snd.snd.snd.snd.fst,
        if decide (s.snd.snd.snd.snd.snd.snd.fst = []) = true then none else s.snd.snd.snd.snd.snd.fst,
        s.snd.snd.snd.snd.snd.snd.fst,
        if decide (s.snd.snd.snd.snd.snd.snd.fst = []) = true then 0 else s.snd.snd.snd.snd.snd.snd.snd.fst,
        s.snd.snd.snd.snd.snd.snd.snd.snd)
end Go.Fn
/- bitext/bitextref28.Record -/
namespace Go.Fn
open Go Go.Vs Go.Ve
set_option linter.unusedVariables false
def bitextref28_Record_l0 : Option
      (List
        ((Int × Int × Int × (Int × Int) × Int × Option (List (Int × List UInt8 × Int)) × List UInt8 × Int × Bool) ×
          (Int × Int × Int × (Int × Int) × Int × Option (List (Int × List UInt8 × Int)) × List UInt8 × Int × Bool) ×
            List UInt8 × Int × Bool)) →
    (Int × Int × Int × (Int × Int) × Int × Option (List (Int × List UInt8 × Int)) × List UInt8 × Int × Bool) ×
        (Int × Int × Int × (Int × Int) × Int × Option (List (Int × List UInt8 × Int)) × List UInt8 × Int × Bool) ×
          List UInt8 × Int × Bool →
      Option
            (List
              ((Int × Int × Int × (Int × Int) × Int × Option (List (Int × List UInt8 × Int)) × List UInt8 × Int × Bool) ×
                (Int × Int × Int × (Int × Int) × Int × Option (List (Int × List UInt8 × Int)) × List UInt8 × Int × Bool) ×
                  List UInt8 × Int × Bool)) ×
          Int →
        Option
          (Option
                (List
                  ((Int ×
                      Int × Int × (Int × Int) × Int × Option (List (Int × List UInt8 × Int)) × List UInt8 × Int × Bool) ×
                    (Int ×
                        Int ×
                          Int × (Int × Int) × Int × Option (List (Int × List UInt8 × Int)) × List UInt8 × Int × Bool) ×
                      List UInt8 × Int × Bool)) ×
              Int ⊕
            Option
              (List
                ((Int ×
                    Int × Int × (Int × Int) × Int × Option (List (Int × List UInt8 × Int)) × List UInt8 × Int × Bool) ×
                  (Int ×
                      Int × Int × (Int × Int) × Int × Option (List (Int × List UInt8 × Int)) × List UInt8 × Int × Bool) ×
                    List UInt8 × Int × Bool))) :=
  fun l s s1 =>
    if decide (s1.snd < lenI (l.getD [])) = true then
      if
          (decide (0 ≤ s1.snd ∧ s1.snd < lenI (l.getD [])) &&
              (!(((l.getD []).getD s1.snd.toNat
                              ((0, 0, 0, (0, 0), 0, none, [], 0, false), (0, 0, 0, (0, 0), 0, none, [], 0, false), [], 0,
                                false)).snd.fst.fst !=
                      s.snd.fst.fst ||
                    !((l.getD []).getD s1.snd.toNat
                                ((0, 0, 0, (0, 0), 0, none, [], 0, false), (0, 0, 0, (0, 0), 0, none, [], 0, false), [],
                                  0, false)).snd.snd.snd.snd) ||
                decide (0 + (s1.fst.getD []).length = (s1.fst.getD []).length) &&
                  (decide
                      ((s1.fst.getD []).length +
                          [(l.getD []).getD s1.snd.toNat
                                ((0, 0, 0, (0, 0), 0, none, [], 0, false), (0, 0, 0, (0, 0), 0, none, [], 0, false), [],
                                  0, false)].length ≤
                        68719476736) &&
                    s1.fst.isSome == s1.fst.isSome))) =
            true then
        some
          (Sum.inl
            (if
                  (((l.getD []).getD s1.snd.toNat
                                ((0, 0, 0, (0, 0), 0, none, [], 0, false), (0, 0, 0, (0, 0), 0, none, [], 0, false), [],
                                  0, false)).snd.fst.fst !=
                        s.snd.fst.fst ||
                      !((l.getD []).getD s1.snd.toNat
                                  ((0, 0, 0, (0, 0), 0, none, [], 0, false), (0, 0, 0, (0, 0), 0, none, [], 0, false), [],
                                    0, false)).snd.snd.snd.snd) =
                    true then
                some
                  (s1.fst.getD [] ++
                    [(l.getD []).getD s1.snd.toNat
                        ((0, 0, 0, (0, 0), 0, none, [], 0, false), (0, 0, 0, (0, 0), 0, none, [], 0, false), [], 0,
                          false)])
              else s1.fst,
              IntKind.i64.wrap (s1.snd + 1)))
      else none
    else some (Sum.inr s1.fst)
def bitextref28_Record : Option
      (List
        ((Int × Int × Int × (Int × Int) × Int × Option (List (Int × List UInt8 × Int)) × List UInt8 × Int × Bool) ×
          (Int × Int × Int × (Int × Int) × Int × Option (List (Int × List UInt8 × Int)) × List UInt8 × Int × Bool) ×
            List UInt8 × Int × Bool)) →
    (Int × Int × Int × (Int × Int) × Int × Option (List (Int × List UInt8 × Int)) × List UInt8 × Int × Bool) ×
        (Int × Int × Int × (Int × Int) × Int × Option (List (Int × List UInt8 × Int)) × List UInt8 × Int × Bool) ×
          List UInt8 × Int × Bool →
      Option
        (Option
            (List
              ((Int × Int × Int × (Int × Int) × Int × Option (List (Int × List UInt8 × Int)) × List UInt8 × Int × Bool) ×
                (Int × Int × Int × (Int × Int) × Int × Option (List (Int × List UInt8 × Int)) × List UInt8 × Int × Bool) ×
                  List UInt8 × Int × Bool)) ×
          Int) :=
  fun l s =>
    if (decide (s.snd.fst.fst < 1) || (s.fst.fst != s.snd.fst.fst || s.snd.snd.snd.snd)) = true then some (none, 1)
    else
      callO (loopR (bitextref28_Record_l0 l s) (none, 0)) fun r1 =>
        if decide (lenI (r1.getD []) ≥ 4096) = true then some (none, 3)
        else
          callO (bitextref28_Plain s.fst) fun r2 =>
            callO (bitextref28_Plain s.snd.fst) fun r3 =>
              if
                  (decide (0 + (r1.getD []).length = (r1.getD []).length) &&
                      (decide ((r1.getD []).length + [(r2, r3, s.snd.snd)].length ≤ 68719476736) &&
                        r1.isSome == r1.isSome)) =
                    true then
                some (some (r1.getD [] ++ [(r2, r3, s.snd.snd)]), 0)
              else none
end Go.Fn
/- bitext/bitextref28.lastDone -/
namespace Go.Fn
open Go Go.Vs Go.Ve
set_option linter.unusedVariables false
def bitextref28_lastDone_l0 : Option
      (List
        ((Int × Int × Int × (Int × Int) × Int × Option (List (Int × List UInt8 × Int)) × List UInt8 × Int × Bool) ×
          (Int × Int × Int × (Int × Int) × Int × Option (List (Int × List UInt8 × Int)) × List UInt8 × Int × Bool) ×
            List UInt8 × Int × Bool)) →
    Int → Int × Int → Option (Int × Int ⊕ Int) :=
  fun l segment s1 =>
    if decide (s1.snd < lenI (l.getD [])) = true then
      if decide (0 ≤ s1.snd ∧ s1.snd < lenI (l.getD [])) = true then
        some
          (Sum.inl
            (if
                  (((l.getD []).getD s1.snd.toNat
                                ((0, 0, 0, (0, 0), 0, none, [], 0, false), (0, 0, 0, (0, 0), 0, none, [], 0, false), [],
                                  0, false)).snd.fst.fst ==
                        segment &&
                      !((l.getD []).getD s1.snd.toNat
                                  ((0, 0, 0, (0, 0), 0, none, [], 0, false), (0, 0, 0, (0, 0), 0, none, [], 0, false), [],
                                    0, false)).snd.snd.snd.snd) =
                    true then
                s1.snd
              else s1.fst,
              IntKind.i64.wrap (s1.snd + 1)))
      else none
    else some (Sum.inr s1.fst)
def bitextref28_lastDone : Option
      (List
        ((Int × Int × Int × (Int × Int) × Int × Option (List (Int × List UInt8 × Int)) × List UInt8 × Int × Bool) ×
          (Int × Int × Int × (Int × Int) × Int × Option (List (Int × List UInt8 × Int)) × List UInt8 × Int × Bool) ×
            List UInt8 × Int × Bool)) →
    Int → Option Int :=
  fun l segment => callO (loopR (bitextref28_lastDone_l0 l segment) (-1, 0)) fun r1 => some r1
end Go.Fn
/- bitext/bitextref28.marked -/
namespace Go.Fn
open Go Go.Vs Go.Ve
set_option linter.unusedVariables false
def bitextref28_marked : Option
      (List
        ((Int × Int × Int × (Int × Int) × Int × Option (List (Int × List UInt8 × Int)) × List UInt8 × Int × Bool) ×
          (Int × Int × Int × (Int × Int) × Int × Option (List (Int × List UInt8 × Int)) × List UInt8 × Int × Bool) ×
            List UInt8 × Int × Bool)) →
    Int →
      Bool →
        Option
          (Option
            (List
              ((Int × Int × Int × (Int × Int) × Int × Option (List (Int × List UInt8 × Int)) × List UInt8 × Int × Bool) ×
                (Int × Int × Int × (Int × Int) × Int × Option (List (Int × List UInt8 × Int)) × List UInt8 × Int × Bool) ×
                  List UInt8 × Int × Bool))) :=
  fun l i gone =>
    if (true && decide (0 + (l.getD []).length ≤ 68719476736)) = true then
      if (decide (0 ≤ i ∧ i < lenI ([] ++ l.getD [])) && nlt (0 + i.toNat) ([] ++ l.getD []).length) = true then
        some
          (some
            (([] ++ l.getD []).set (0 + i.toNat)
              ((([] ++ l.getD []).getD (0 + i.toNat)
                    ((0, 0, 0, (0, 0), 0, none, [], 0, false), (0, 0, 0, (0, 0), 0, none, [], 0, false), [], 0,
                      false)).fst,
                (([] ++ l.getD []).getD (0 + i.toNat)
                      ((0, 0, 0, (0, 0), 0, none, [], 0, false), (0, 0, 0, (0, 0), 0, none, [], 0, false), [], 0,
                        false)).snd.fst,
                (([] ++ l.getD []).getD (0 + i.toNat)
                        ((0, 0, 0, (0, 0), 0, none, [], 0, false), (0, 0, 0, (0, 0), 0, none, [], 0, false), [], 0,
                          false)).snd.snd.fst,
                (([] ++ l.getD []).getD (0 + i.toNat)
                          ((0, 0, 0, (0, 0), 0, none, [], 0, false), (0, 0, 0, (0, 0), 0, none, [], 0, false), [], 0,
                            false)).snd.snd.snd.fst,
                gone)))
      else none
    else none
end Go.Fn
/- bitext/bitextref28.Redo -/
namespace Go.Fn
open Go Go.Vs Go.Ve
set_option linter.unusedVariables false
def bitextref28_Redo_l0 : Option
      (List
        ((Int × Int × Int × (Int × Int) × Int × Option (List (Int × List UInt8 × Int)) × List UInt8 × Int × Bool) ×
          (Int × Int × Int × (Int × Int) × Int × Option (List (Int × List UInt8 × Int)) × List UInt8 × Int × Bool) ×
            List UInt8 × Int × Bool)) →
    Int →
      Int →
        Option
          (Int ⊕
            Option
                  (List
                    ((Int ×
                        Int ×
                          Int × (Int × Int) × Int × Option (List (Int × List UInt8 × Int)) × List UInt8 × Int × Bool) ×
                      (Int ×
                          Int ×
                            Int × (Int × Int) × Int × Option (List (Int × List UInt8 × Int)) × List UInt8 × Int × Bool) ×
                        List UInt8 × Int × Bool)) ×
                Int ×
                  Int × Int × Int × Int × Int × Int × Option (List (Int × List UInt8 × Int)) × List UInt8 × Int × Bool ⊕
              Unit) :=
  fun l segment s1 =>
    if decide (s1 < lenI (l.getD [])) = true then
      if decide (0 ≤ s1 ∧ s1 < lenI (l.getD [])) = true then
        if
            (((l.getD []).getD s1.toNat
                        ((0, 0, 0, (0, 0), 0, none, [], 0, false), (0, 0, 0, (0, 0), 0, none, [], 0, false), [], 0,
                          false)).snd.fst.fst ==
                segment) =
              true then
          callO (bitextref28_marked l s1 false) fun r1 =>
            if (decide (0 ≤ s1 ∧ s1 < lenI (l.getD [])) && r1.isSome == r1.isSome) = true then
              some
                (Sum.inr
                  (Sum.inl
                    (r1, 0,
                      ((l.getD []).getD s1.toNat
                              ((0, 0, 0, (0, 0), 0, none, [], 0, false), (0, 0, 0, (0, 0), 0, none, [], 0, false), [], 0,
                                false)).snd.fst.fst,
                      ((l.getD []).getD s1.toNat
                                ((0, 0, 0, (0, 0), 0, none, [], 0, false), (0, 0, 0, (0, 0), 0, none, [], 0, false), [],
                                  0, false)).snd.fst.snd.fst,
                      ((l.getD []).getD s1.toNat
                                  ((0, 0, 0, (0, 0), 0, none, [], 0, false), (0, 0, 0, (0, 0), 0, none, [], 0, false), [],
                                    0, false)).snd.fst.snd.snd.fst,
                      ((l.getD []).getD s1.toNat
                                      ((0, 0, 0, (0, 0), 0, none, [], 0, false), (0, 0, 0, (0, 0), 0, none, [], 0, false),
                                        [], 0, false)).snd.fst.snd.snd.snd.fst.fst,
                      ((l.getD []).getD s1.toNat
                                      ((0, 0, 0, (0, 0), 0, none, [], 0, false), (0, 0, 0, (0, 0), 0, none, [], 0, false),
                                        [], 0, false)).snd.fst.snd.snd.snd.fst.snd,
                      ((l.getD []).getD s1.toNat
                                    ((0, 0, 0, (0, 0), 0, none, [], 0, false), (0, 0, 0, (0, 0), 0, none, [], 0, false),
                                      [], 0, false)).snd.fst.snd.snd.snd.snd)))
            else none
        else some (Sum.inl (IntKind.i64.wrap (s1 + 1)))
      else none
    else some (Sum.inr (Sum.inr ()))
def bitextref28_Redo : Option
      (List
        ((Int × Int × Int × (Int × Int) × Int × Option (List (Int × List UInt8 × Int)) × List UInt8 × Int × Bool) ×
          (Int × Int × Int × (Int × Int) × Int × Option (List (Int × List UInt8 × Int)) × List UInt8 × Int × Bool) ×
            List UInt8 × Int × Bool)) →
    Int →
      Option
        (Option
            (List
              ((Int × Int × Int × (Int × Int) × Int × Option (List (Int × List UInt8 × Int)) × List UInt8 × Int × Bool) ×
                (Int × Int × Int × (Int × Int) × Int × Option (List (Int × List UInt8 × Int)) × List UInt8 × Int × Bool) ×
                  List UInt8 × Int × Bool)) ×
          (Int × Int × Int × (Int × Int) × Int × Option (List (Int × List UInt8 × Int)) × List UInt8 × Int × Bool) × Int) :=
  fun l segment =>
    callO (bitextref28_lastDone l segment) fun r1 =>
      callO (loopR (bitextref28_Redo_l0 l segment) (IntKind.i64.wrap (r1 + 1))) fun r2 =>
        sumO r2
          (fun r3 =>
            if (r3.fst.isSome == r3.fst.isSome) = true then
              some
                (r3.fst,
                  (r3.snd.snd.fst, r3.snd.snd.snd.fst, r3.snd.snd.snd.snd.fst,
                    (r3.snd.snd.snd.snd.snd.fst, r3.snd.snd.snd.snd.snd.snd.fst), r3.snd.snd.snd.snd.snd.snd.snd),
                  r3.snd.fst)
            else none)
          fun r4 => some (none, (0, 0, 0, (0, 0), 0, none, [], 0, false), 6)
end Go.Fn
/- bitext/bitextref28.Undo -/
namespace Go.Fn
open Go Go.Vs Go.Ve
set_option linter.unusedVariables false
def bitextref28_Undo : Option
      (List
        ((Int × Int × Int × (Int × Int) × Int × Option (List (Int × List UInt8 × Int)) × List UInt8 × Int × Bool) ×
          (Int × Int × Int × (Int × Int) × Int × Option (List (Int × List UInt8 × Int)) × List UInt8 × Int × Bool) ×
            List UInt8 × Int × Bool)) →
    Int →
      Option
        (Option
            (List
              ((Int × Int × Int × (Int × Int) × Int × Option (List (Int × List UInt8 × Int)) × List UInt8 × Int × Bool) ×
                (Int × Int × Int × (Int × Int) × Int × Option (List (Int × List UInt8 × Int)) × List UInt8 × Int × Bool) ×
                  List UInt8 × Int × Bool)) ×
          (Int × Int × Int × (Int × Int) × Int × Option (List (Int × List UInt8 × Int)) × List UInt8 × Int × Bool) × Int) :=
  fun l segment =>
    callO (bitextref28_lastDone l segment) fun r1 =>
      if decide (r1 < 0) = true then some (none, (0, 0, 0, (0, 0), 0, none, [], 0, false), 6)
      else
        if (decide (0 ≤ r1 ∧ r1 < lenI (l.getD [])) && decide (0 ≤ r1 ∧ r1 < lenI (l.getD []))) = true then
          if
              (!(((l.getD []).getD r1.toNat
                                    ((0, 0, 0, (0, 0), 0, none, [], 0, false), (0, 0, 0, (0, 0), 0, none, [], 0, false),
                                      [], 0, false)).fst.snd.snd.snd.fst.fst ==
                      ((l.getD []).getD r1.toNat
                                      ((0, 0, 0, (0, 0), 0, none, [], 0, false), (0, 0, 0, (0, 0), 0, none, [], 0, false),
                                        [], 0, false)).snd.fst.snd.snd.snd.fst.fst &&
                    (((l.getD []).getD r1.toNat
                                      ((0, 0, 0, (0, 0), 0, none, [], 0, false), (0, 0, 0, (0, 0), 0, none, [], 0, false),
                                        [], 0, false)).fst.snd.snd.snd.fst.snd ==
                        ((l.getD []).getD r1.toNat
                                        ((0, 0, 0, (0, 0), 0, none, [], 0, false),
                                          (0, 0, 0, (0, 0), 0, none, [], 0, false), [], 0,
                                          false)).snd.fst.snd.snd.snd.fst.snd &&
                      true))) =
                true then
            some (none, (0, 0, 0, (0, 0), 0, none, [], 0, false), 8)
          else
            callO (bitextref28_marked l r1 true) fun r2 =>
              if (decide (0 ≤ r1 ∧ r1 < lenI (l.getD [])) && r2.isSome == r2.isSome) = true then
                if (r2.isSome == r2.isSome) = true then
                  some
                    (r2,
                      ((l.getD []).getD r1.toNat
                          ((0, 0, 0, (0, 0), 0, none, [], 0, false), (0, 0, 0, (0, 0), 0, none, [], 0, false), [], 0,
                            false)).fst,
                      0)
                else none
              else none
        else none
end Go.Fn
/- bitext/bitextlaw30.steps -/
namespace Go.Fn
open Go Go.Vs Go.Ve
set_option linter.unusedVariables false
def bitextlaw30_steps_l0 : Option (List Int) × Int →
    Option
          (List
            ((Int × Int × Int × (Int × Int) × Int × Option (List (Int × List UInt8 × Int)) × List UInt8 × Int × Bool) ×
              (Int × Int × Int × (Int × Int) × Int × Option (List (Int × List UInt8 × Int)) × List UInt8 × Int × Bool) ×
                List UInt8 × Int × Bool)) ×
        Int × Int →
      Option
        (Option
              (List
                ((Int ×
                    Int × Int × (Int × Int) × Int × Option (List (Int × List UInt8 × Int)) × List UInt8 × Int × Bool) ×
                  (Int ×
                      Int × Int × (Int × Int) × Int × Option (List (Int × List UInt8 × Int)) × List UInt8 × Int × Bool) ×
                    List UInt8 × Int × Bool)) ×
            Int × Int ⊕
          Option
            (List
              ((Int × Int × Int × (Int × Int) × Int × Option (List (Int × List UInt8 × Int)) × List UInt8 × Int × Bool) ×
                (Int × Int × Int × (Int × Int) × Int × Option (List (Int × List UInt8 × Int)) × List UInt8 × Int × Bool) ×
                  List UInt8 × Int × Bool))) :=
  fun r1 s1 =>
    if decide (s1.snd.fst > 0) = true then
      callO (bitextlaw30_step (r1.fst, s1.snd.snd)) fun r2 =>
        callO (bitextref28_Record s1.fst r2.fst) fun r3 =>
          if
              (r3.fst.isSome == r3.fst.isSome &&
                  (r3.fst.isSome == r3.fst.isSome && r3.fst.isSome == r3.fst.isSome)) =
                true then
            callO (bitextmake_Numbers_Next 4 (r1.fst, r2.snd)) fun r4 =>
              if (r4.fst == 0) = true then
                callO (bitextmake_Numbers_Next 3 (r1.fst, r4.snd)) fun r5 =>
                  callO (bitextref28_Undo s1.fst (IntKind.i64.wrap (1 + r5.fst))) fun r6 =>
                    if
                        (r6.fst.isSome == r6.fst.isSome &&
                              (r6.fst.isSome == r6.fst.isSome && r6.fst.isSome == r6.fst.isSome) &&
                            (!r6.snd.snd == 0 || r6.fst.isSome == r6.fst.isSome)) =
                          true then
                      some
                        (Sum.inl
                          (if (r6.snd.snd == 0) = true then r6.fst else s1.fst, IntKind.i64.wrap (s1.snd.fst - 1),
                            r5.snd))
                    else none
              else
                if (r4.fst == 1) = true then
                  callO (bitextmake_Numbers_Next 3 (r1.fst, r4.snd)) fun r7 =>
                    callO (bitextref28_Redo s1.fst (IntKind.i64.wrap (1 + r7.fst))) fun r8 =>
                      if
                          (r8.fst.isSome == r8.fst.isSome &&
                                (r8.fst.isSome == r8.fst.isSome && r8.fst.isSome == r8.fst.isSome) &&
                              (!r8.snd.snd == 0 || r8.fst.isSome == r8.fst.isSome)) =
                            true then
                        some
                          (Sum.inl
                            (if (r8.snd.snd == 0) = true then r8.fst else s1.fst, IntKind.i64.wrap (s1.snd.fst - 1),
                              r7.snd))
                      else none
                else
                  if (!r3.snd == 0 || r3.fst.isSome == r3.fst.isSome) = true then
                    some
                      (Sum.inl
                        (if (r3.snd == 0) = true then r3.fst else s1.fst, IntKind.i64.wrap (s1.snd.fst - 1), r4.snd))
                  else none
          else none
    else some (Sum.inr s1.fst)
def bitextlaw30_steps : Option (List Int) →
    Option
      (Option
        (List
          ((Int × Int × Int × (Int × Int) × Int × Option (List (Int × List UInt8 × Int)) × List UInt8 × Int × Bool) ×
            (Int × Int × Int × (Int × Int) × Int × Option (List (Int × List UInt8 × Int)) × List UInt8 × Int × Bool) ×
              List UInt8 × Int × Bool))) :=
  fun l =>
    callO (bitextlaw30_from l) fun r1 =>
      callO (bitextmake_Numbers_Next 12 r1) fun r2 =>
        callO (loopR (bitextlaw30_steps_l0 r1) (none, r2)) fun r3 => some r3
end Go.Fn
/- bitext/bitextref28.SameSteps -/
namespace Go.Fn
open Go Go.Vs Go.Ve
set_option linter.unusedVariables false
def bitextref28_SameSteps_l0 : Option
      (List
        ((Int × Int × Int × (Int × Int) × Int × Option (List (Int × List UInt8 × Int)) × List UInt8 × Int × Bool) ×
          (Int × Int × Int × (Int × Int) × Int × Option (List (Int × List UInt8 × Int)) × List UInt8 × Int × Bool) ×
            List UInt8 × Int × Bool)) →
    Option
        (List
          ((Int × Int × Int × (Int × Int) × Int × Option (List (Int × List UInt8 × Int)) × List UInt8 × Int × Bool) ×
            (Int × Int × Int × (Int × Int) × Int × Option (List (Int × List UInt8 × Int)) × List UInt8 × Int × Bool) ×
              List UInt8 × Int × Bool)) →
      Int → Option (Int ⊕ Bool ⊕ Unit) :=
  fun a b s1 =>
    if decide (s1 < lenI (a.getD [])) = true then
      if decide (0 ≤ s1 ∧ s1 < lenI (a.getD [])) = true then
        if decide (0 ≤ s1 ∧ s1 < lenI (b.getD [])) = true then
          callO
            (bitextref26_SameSegment
              ((a.getD []).getD s1.toNat
                  ((0, 0, 0, (0, 0), 0, none, [], 0, false), (0, 0, 0, (0, 0), 0, none, [], 0, false), [], 0, false)).fst
              ((b.getD []).getD s1.toNat
                  ((0, 0, 0, (0, 0), 0, none, [], 0, false), (0, 0, 0, (0, 0), 0, none, [], 0, false), [], 0, false)).fst)
            fun r1 =>
            if (!r1) = true then some (Sum.inr (Sum.inl false))
            else
              if decide (0 ≤ s1 ∧ s1 < lenI (a.getD [])) = true then
                if decide (0 ≤ s1 ∧ s1 < lenI (b.getD [])) = true then
                  callO
                    (bitextref26_SameSegment
                      ((a.getD []).getD s1.toNat
                            ((0, 0, 0, (0, 0), 0, none, [], 0, false), (0, 0, 0, (0, 0), 0, none, [], 0, false), [], 0,
                              false)).snd.fst
                      ((b.getD []).getD s1.toNat
                            ((0, 0, 0, (0, 0), 0, none, [], 0, false), (0, 0, 0, (0, 0), 0, none, [], 0, false), [], 0,
                              false)).snd.fst)
                    fun r2 =>
                    if
                        (!r2 ||
                            decide (0 ≤ s1 ∧ s1 < lenI (a.getD [])) &&
                              (decide (0 ≤ s1 ∧ s1 < lenI (b.getD [])) &&
                                (!decide
                                      (((a.getD []).getD s1.toNat
                                                ((0, 0, 0, (0, 0), 0, none, [], 0, false),
                                                  (0, 0, 0, (0, 0), 0, none, [], 0, false), [], 0, false)).snd.snd.fst =
                                        ((b.getD []).getD s1.toNat
                                                ((0, 0, 0, (0, 0), 0, none, [], 0, false),
                                                  (0, 0, 0, (0, 0), 0, none, [], 0, false), [], 0, false)).snd.snd.fst) ||
                                  decide (0 ≤ s1 ∧ s1 < lenI (a.getD [])) &&
                                    (decide (0 ≤ s1 ∧ s1 < lenI (b.getD [])) &&
                                      (((a.getD []).getD s1.toNat
                                                    ((0, 0, 0, (0, 0), 0, none, [], 0, false),
                                                      (0, 0, 0, (0, 0), 0, none, [], 0, false), [], 0,
                                                      false)).snd.snd.snd.fst !=
                                          ((b.getD []).getD s1.toNat
                                                    ((0, 0, 0, (0, 0), 0, none, [], 0, false),
                                                      (0, 0, 0, (0, 0), 0, none, [], 0, false), [], 0,
                                                      false)).snd.snd.snd.fst ||
                                        decide (0 ≤ s1 ∧ s1 < lenI (a.getD [])) &&
                                          decide (0 ≤ s1 ∧ s1 < lenI (b.getD []))))))) =
                          true then
                      if
                          (!r2 ||
                              (!decide
                                    (((a.getD []).getD s1.toNat
                                              ((0, 0, 0, (0, 0), 0, none, [], 0, false),
                                                (0, 0, 0, (0, 0), 0, none, [], 0, false), [], 0, false)).snd.snd.fst =
                                      ((b.getD []).getD s1.toNat
                                              ((0, 0, 0, (0, 0), 0, none, [], 0, false),
                                                (0, 0, 0, (0, 0), 0, none, [], 0, false), [], 0, false)).snd.snd.fst) ||
                                (((a.getD []).getD s1.toNat
                                              ((0, 0, 0, (0, 0), 0, none, [], 0, false),
                                                (0, 0, 0, (0, 0), 0, none, [], 0, false), [], 0,
                                                false)).snd.snd.snd.fst !=
                                    ((b.getD []).getD s1.toNat
                                              ((0, 0, 0, (0, 0), 0, none, [], 0, false),
                                                (0, 0, 0, (0, 0), 0, none, [], 0, false), [], 0,
                                                false)).snd.snd.snd.fst ||
                                  !((a.getD []).getD s1.toNat
                                                ((0, 0, 0, (0, 0), 0, none, [], 0, false),
                                                  (0, 0, 0, (0, 0), 0, none, [], 0, false), [], 0,
                                                  false)).snd.snd.snd.snd ==
                                      ((b.getD []).getD s1.toNat
                                                ((0, 0, 0, (0, 0), 0, none, [], 0, false),
                                                  (0, 0, 0, (0, 0), 0, none, [], 0, false), [], 0,
                                                  false)).snd.snd.snd.snd))) =
                            true then
                        some (Sum.inr (Sum.inl false))
                      else some (Sum.inl (IntKind.i64.wrap (s1 + 1)))
                    else none
                else none
              else none
        else none
      else none
    else some (Sum.inr (Sum.inr ()))
def bitextref28_SameSteps : Option
      (List
        ((Int × Int × Int × (Int × Int) × Int × Option (List (Int × List UInt8 × Int)) × List UInt8 × Int × Bool) ×
          (Int × Int × Int × (Int × Int) × Int × Option (List (Int × List UInt8 × Int)) × List UInt8 × Int × Bool) ×
            List UInt8 × Int × Bool)) →
    Option
        (List
          ((Int × Int × Int × (Int × Int) × Int × Option (List (Int × List UInt8 × Int)) × List UInt8 × Int × Bool) ×
            (Int × Int × Int × (Int × Int) × Int × Option (List (Int × List UInt8 × Int)) × List UInt8 × Int × Bool) ×
              List UInt8 × Int × Bool)) →
      Option Bool :=
  fun a b =>
    if (lenI (a.getD []) != lenI (b.getD [])) = true then some false
    else callO (loopR (bitextref28_SameSteps_l0 a b) 0) fun r1 => sumO r1 (fun r2 => some r2) fun r3 => some true
end Go.Fn
/- bitext/history.Redo -/
namespace Go.Fn
open Go Go.Vs Go.Ve
set_option linter.unusedVariables false
def history_Redo_l0 : Option
      (List
        ((Int × Int × Int × (Int × Int) × Int × Option (List (Int × List UInt8 × Int)) × List UInt8 × Int × Bool) ×
          (Int × Int × Int × (Int × Int) × Int × Option (List (Int × List UInt8 × Int)) × List UInt8 × Int × Bool) ×
            List UInt8 × Int × Bool)) →
    Int →
      Int →
        Option
          (Int ⊕
            List
                  ((Int ×
                      Int × Int × (Int × Int) × Int × Option (List (Int × List UInt8 × Int)) × List UInt8 × Int × Bool) ×
                    (Int ×
                        Int ×
                          Int × (Int × Int) × Int × Option (List (Int × List UInt8 × Int)) × List UInt8 × Int × Bool) ×
                      List UInt8 × Int × Bool) ×
                Int ×
                  Int × Int × Int × Int × Int × Int × Option (List (Int × List UInt8 × Int)) × List UInt8 × Int × Bool ⊕
              Unit) :=
  fun l segment s1 =>
    if decide (s1 < lenI (l.getD [])) = true then
      if decide (0 ≤ s1 ∧ s1 < lenI (l.getD [])) = true then
        if
            (((l.getD []).getD s1.toNat
                        ((0, 0, 0, (0, 0), 0, none, [], 0, false), (0, 0, 0, (0, 0), 0, none, [], 0, false), [], 0,
                          false)).snd.fst.fst ==
                segment) =
              true then
          callO (history_every l) fun r1 =>
            if (r1.isSome == r1.isSome) = true then
              if (decide (0 ≤ s1 ∧ s1 < lenI (r1.getD [])) && nlt (0 + s1.toNat) (r1.getD []).length) = true then
                if decide (0 ≤ s1 ∧ s1 < lenI (l.getD [])) = true then
                  callO
                    (view_Segment
                      ((l.getD []).getD s1.toNat
                            ((0, 0, 0, (0, 0), 0, none, [], 0, false), (0, 0, 0, (0, 0), 0, none, [], 0, false), [], 0,
                              false)).snd.fst)
                    fun r2 =>
                    some
                      (Sum.inr
                        (Sum.inl
                          ((r1.getD []).set (0 + s1.toNat)
                              (((r1.getD []).getD (0 + s1.toNat)
                                    ((0, 0, 0, (0, 0), 0, none, [], 0, false), (0, 0, 0, (0, 0), 0, none, [], 0, false),
                                      [], 0, false)).fst,
                                ((r1.getD []).getD (0 + s1.toNat)
                                      ((0, 0, 0, (0, 0), 0, none, [], 0, false), (0, 0, 0, (0, 0), 0, none, [], 0, false),
                                        [], 0, false)).snd.fst,
                                ((r1.getD []).getD (0 + s1.toNat)
                                        ((0, 0, 0, (0, 0), 0, none, [], 0, false),
                                          (0, 0, 0, (0, 0), 0, none, [], 0, false), [], 0, false)).snd.snd.fst,
                                ((r1.getD []).getD (0 + s1.toNat)
                                          ((0, 0, 0, (0, 0), 0, none, [], 0, false),
                                            (0, 0, 0, (0, 0), 0, none, [], 0, false), [], 0, false)).snd.snd.snd.fst,
                                false),
                            0, r2.fst, r2.snd.fst, r2.snd.snd.fst, r2.snd.snd.snd.fst.fst, r2.snd.snd.snd.fst.snd,
                            r2.snd.snd.snd.snd)))
                else none
              else none
            else none
        else some (Sum.inl (IntKind.i64.wrap (s1 + 1)))
      else none
    else some (Sum.inr (Sum.inr ()))
def history_Redo : Option
      (List
        ((Int × Int × Int × (Int × Int) × Int × Option (List (Int × List UInt8 × Int)) × List UInt8 × Int × Bool) ×
          (Int × Int × Int × (Int × Int) × Int × Option (List (Int × List UInt8 × Int)) × List UInt8 × Int × Bool) ×
            List UInt8 × Int × Bool)) →
    Int →
      Option
        (Option
            (List
              ((Int × Int × Int × (Int × Int) × Int × Option (List (Int × List UInt8 × Int)) × List UInt8 × Int × Bool) ×
                (Int × Int × Int × (Int × Int) × Int × Option (List (Int × List UInt8 × Int)) × List UInt8 × Int × Bool) ×
                  List UInt8 × Int × Bool)) ×
          (Int × Int × Int × (Int × Int) × Int × Option (List (Int × List UInt8 × Int)) × List UInt8 × Int × Bool) × Int) :=
  fun l segment =>
    callO (history_lastDone l segment) fun r1 =>
      callO (loopR (history_Redo_l0 l segment) (IntKind.i64.wrap (r1 + 1))) fun r2 =>
        sumO r2
          (fun r3 =>
            some
              (some r3.fst,
                (r3.snd.snd.fst, r3.snd.snd.snd.fst, r3.snd.snd.snd.snd.fst,
                  (r3.snd.snd.snd.snd.snd.fst, r3.snd.snd.snd.snd.snd.snd.fst), r3.snd.snd.snd.snd.snd.snd.snd),
                r3.snd.fst))
          fun r4 => some (none, (0, 0, 0, (0, 0), 0, none, [], 0, false), 6)
end Go.Fn
/- bitext/bitextlaw30.HistoryInverts -/
namespace Go.Fn
open Go Go.Vs Go.Ve
set_option linter.unusedVariables false
def bitextlaw30_HistoryInverts : Option (List Int) → Int → Option Bool :=
  fun a0 a1 =>
    callO (bitextlaw30_long (some [a0])) fun r1 =>
      if r1 = true then callO bitextlaw30_known fun r2 => some r2
      else
        callO (bitextlaw30_steps a0) fun r3 =>
          callO (bitextmake_Place a1 3) fun r4 =>
            callO (history_Undo r3 (IntKind.i64.wrap (1 + r4))) fun r5 =>
              if
                  (r5.fst.isSome == r5.fst.isSome &&
                      (r5.fst.isSome == r5.fst.isSome && r5.fst.isSome == r5.fst.isSome)) =
                    true then
                if (r5.snd.snd == 0) = true then
                  if (r5.fst.isSome == r5.fst.isSome) = true then
                    callO (history_Redo r5.fst (IntKind.i64.wrap (1 + r4))) fun r6 =>
                      if
                          (r6.fst.isSome == r6.fst.isSome &&
                              (r6.fst.isSome == r6.fst.isSome && r6.fst.isSome == r6.fst.isSome)) =
                            true then
                        callO (history_Of r3 (IntKind.i64.wrap (1 + r4))) fun r7 =>
                          if (r7.isSome == r7.isSome) = true then
                            if (r6.snd.snd != 0) = true then some false
                            else
                              if (r6.fst.isSome == r6.fst.isSome) = true then
                                callO (bitextref28_SameSteps r6.fst r3) fun r8 =>
                                  if (!r8) = true then some false
                                  else
                                    if (lenI (r7.getD []) == 0) = true then some false
                                    else
                                      if
                                          decide
                                              (0 ≤ IntKind.i64.wrap (lenI (r7.getD []) - 1) ∧
                                                IntKind.i64.wrap (lenI (r7.getD []) - 1) < lenI (r7.getD [])) =
                                            true then
                                        if
                                            nlt (0 + (IntKind.i64.wrap (lenI (r7.getD []) - 1)).toNat)
                                                (r7.getD []).length =
                                              true then
                                          callO
                                            (bitextref26_SameSegment
                                              ((r7.getD []).getD (0 + (IntKind.i64.wrap (lenI (r7.getD []) - 1)).toNat)
                                                  ((0, 0, 0, (0, 0), 0, none, [], 0, false),
                                                    (0, 0, 0, (0, 0), 0, none, [], 0, false), [], 0, false)).fst
                                              r5.snd.fst)
                                            fun r9 =>
                                            if (!r9) = true then some false
                                            else
                                              if
                                                  decide
                                                      (0 ≤ IntKind.i64.wrap (lenI (r7.getD []) - 1) ∧
                                                        IntKind.i64.wrap (lenI (r7.getD []) - 1) < lenI (r7.getD [])) =
                                                    true then
                                                if
                                                    nlt (0 + (IntKind.i64.wrap (lenI (r7.getD []) - 1)).toNat)
                                                        (r7.getD []).length =
                                                      true then
                                                  callO
                                                    (bitextref26_SameSegment
                                                      ((r7.getD []).getD
                                                            (0 + (IntKind.i64.wrap (lenI (r7.getD []) - 1)).toNat)
                                                            ((0, 0, 0, (0, 0), 0, none, [], 0, false),
                                                              (0, 0, 0, (0, 0), 0, none, [], 0, false), [], 0,
                                                              false)).snd.fst
                                                      r6.snd.fst)
                                                    fun r10 =>
                                                    if (!r10) = true then some false
                                                    else
                                                      callO (history_Redo r3 (IntKind.i64.wrap (1 + r4))) fun r11 =>
                                                        if
                                                            (r11.fst.isSome == r11.fst.isSome &&
                                                                (r11.fst.isSome == r11.fst.isSome &&
                                                                  r11.fst.isSome == r11.fst.isSome)) =
                                                              true then
                                                          if (r11.snd.snd == 0) = true then
                                                            if (r11.fst.isSome == r11.fst.isSome) = true then
                                                              callO
                                                                (bitextlaw30_lastStep r11.fst (IntKind.i64.wrap (1 + r4)))
                                                                fun r12 =>
                                                                if
                                                                    (r11.snd.fst.snd.snd.snd.fst.fst ==
                                                                          r12.fst.snd.snd.snd.fst.fst &&
                                                                        (r11.snd.fst.snd.snd.snd.fst.snd ==
                                                                            r12.fst.snd.snd.snd.fst.snd &&
                                                                          true)) =
                                                                      true then
                                                                  callO (history_Undo r11.fst (IntKind.i64.wrap (1 + r4)))
                                                                    fun r13 =>
                                                                    if
                                                                        (r13.fst.isSome == r13.fst.isSome &&
                                                                            (r13.fst.isSome == r13.fst.isSome &&
                                                                              r13.fst.isSome == r13.fst.isSome)) =
                                                                          true then
                                                                      if (r13.snd.snd != 0) = true then some false
                                                                      else
                                                                        if (r13.fst.isSome == r13.fst.isSome) = true then
                                                                          callO (bitextref28_SameSteps r13.fst r3)
                                                                            fun r14 =>
                                                                            if (!r14) = true then some false
                                                                            else
                                                                              callO
                                                                                (bitextlaw30_lastStep r11.fst
                                                                                  (IntKind.i64.wrap (1 + r4)))
                                                                                fun r15 =>
                                                                                callO
                                                                                  (bitextref26_SameSegment r15.fst
                                                                                    r13.snd.fst)
                                                                                  fun r16 =>
                                                                                  if (!r16) = true then some false
                                                                                  else
                                                                                    callO bitextlaw30_known fun r17 =>
                                                                                      some r17
                                                                        else none
                                                                    else none
                                                                else callO bitextlaw30_known fun r18 => some r18
                                                            else none
                                                          else callO bitextlaw30_known fun r19 => some r19
                                                        else none
                                                else none
                                              else none
                                        else none
                                      else none
                              else none
                          else none
                      else none
                  else none
                else
                  callO (history_Redo r3 (IntKind.i64.wrap (1 + r4))) fun r20 =>
                    if
                        (r20.fst.isSome == r20.fst.isSome &&
                            (r20.fst.isSome == r20.fst.isSome && r20.fst.isSome == r20.fst.isSome)) =
                          true then
                      if (r20.snd.snd == 0) = true then
                        if (r20.fst.isSome == r20.fst.isSome) = true then
                          callO (bitextlaw30_lastStep r20.fst (IntKind.i64.wrap (1 + r4))) fun r21 =>
                            if
                                (r20.snd.fst.snd.snd.snd.fst.fst == r21.fst.snd.snd.snd.fst.fst &&
                                    (r20.snd.fst.snd.snd.snd.fst.snd == r21.fst.snd.snd.snd.fst.snd && true)) =
                                  true then
                              callO (history_Undo r20.fst (IntKind.i64.wrap (1 + r4))) fun r22 =>
                                if
                                    (r22.fst.isSome == r22.fst.isSome &&
                                        (r22.fst.isSome == r22.fst.isSome && r22.fst.isSome == r22.fst.isSome)) =
                                      true then
                                  if (r22.snd.snd != 0) = true then some false
                                  else
                                    if (r22.fst.isSome == r22.fst.isSome) = true then
                                      callO (bitextref28_SameSteps r22.fst r3) fun r23 =>
                                        if (!r23) = true then some false
                                        else
                                          callO (bitextlaw30_lastStep r20.fst (IntKind.i64.wrap (1 + r4))) fun r24 =>
                                            callO (bitextref26_SameSegment r24.fst r22.snd.fst) fun r25 =>
                                              if (!r25) = true then some false
                                              else callO bitextlaw30_known fun r26 => some r26
                                    else none
                                else none
                            else callO bitextlaw30_known fun r27 => some r27
                        else none
                      else callO bitextlaw30_known fun r28 => some r28
                    else none
              else none
end Go.Fn
/- Plain laws: whole numbers of 64 bits, Place. -/
namespace Go.Fn
open Go Go.Vs Go.Ve
def In64 (n : Int) : Prop := -9223372036854775808 ≤ n ∧ n ≤ 9223372036854775807
theorem Wf_ints {o : Option (List Int)} (h : Wf (.sl (.int .i64)) o) : ∀ x ∈ o.getD [], In64 x := by
  cases o with
  | none => intro x hx; cases hx
  | some xs => exact h
theorem fdiv63 {n : Int} (h : In64 n) : n.fdiv 9223372036854775808 = if n < 0 then -1 else 0 := by
  rw [Int.fdiv_eq_ediv_of_nonneg _ (by decide)]
  unfold In64 at h
  split <;> omega
theorem wrap_u64 {n : Int} (h : In64 n) : IntKind.u64.wrap n = if n < 0 then n + 18446744073709551616 else n := by
  unfold In64 at h
  simp only [IntKind.wrap, IntKind.bits, IntKind.signed]
  simp
  split <;> omega
theorem place_eq {x n : Int} (hx : In64 x) (hn : 1 ≤ n) (hn2 : n ≤ 4611686018427387904) : bitextmake_Place x n = some (x % n) := by
  unfold In64 at hx
  unfold bitextmake_Place
  rw [if_pos (by simp; omega)]
  congr 1
  have h0 := Int.emod_nonneg x (show n ≠ 0 by omega)
  have h1 := Int.emod_lt_of_pos x (show 0 < n by omega)
  rcases Int.lt_or_le x 0 with h | h
  · have e : x.tmod n = if n ∣ x then 0 else x % n - n := by
      rw [Int.tmod_eq_emod]
      split <;> rename_i hd
      · rcases hd with hd | hd
        · omega
        · rw [if_pos hd]; have := Int.emod_eq_zero_of_dvd hd; omega
      · rw [if_neg (fun hd' => hd (.inr hd'))]
        omega
    rw [e]
    split <;> rename_i hd
    · simp [Int.emod_eq_zero_of_dvd hd]
    · rw [if_pos (by simp; omega), wrap_i64 (by omega) (by omega)]; omega
  · rw [Int.tmod_eq_emod_of_nonneg h, if_neg (by simp; omega)]
end Go.Fn
/- Plain laws: loops that look at things one by one and end at the first that tells. -/
namespace Go.Fn
open Go Go.Vs Go.Ve
/-! ## One step -/
theorem ifT {α : Sort _} {c : Prop} [Decidable c] {a b x : α} (h : c) (k : a = x) : (if c then a else b) = x := (if_pos h).trans k
theorem ifF {α : Sort _} {c : Prop} [Decidable c] {a b x : α} (h : ¬ c) (k : b = x) : (if c then a else b) = x := (if_neg h).trans k
/-- a condition that is a decided statement -/
theorem dcT {α : Sort _} {c : Prop} [Decidable c] {a b x : α} (h : c) (k : a = x) : (if decide c = true then a else b) = x := (if_pos (decide_eq_true h)).trans k
theorem dcF {α : Sort _} {c : Prop} [Decidable c] {a b x : α} (h : ¬ c) (k : b = x) : (if decide c = true then a else b) = x := (if_neg (by simpa using h)).trans k
/-- a condition that says nothing -/
theorem sfT {α : Sort _} {b : Bool} {x y z : α} (k : x = z) : (if (b == b) = true then x else y) = z := (if_pos (beq_self_eq_true b)).trans k
theorem callT {ρ α : Type} {o : Option ρ} {v : ρ} {f : ρ → Option α} {x : Option α} (h : o = some v) (k : f v = x) : callO o f = x := by rw [h]; exact k
/-- two cases on both sides -/
theorem ifL {α β : Sort _} {F : α → β} {c c' : Prop} [Decidable c] [Decidable c'] {a b : α} {A B : β} (h : c ↔ c') (h1 : c' → A = F a) (h2 : ¬ c' → B = F b) : (if c then A else B) = F (if c' then a else b) := by
  by_cases hc : c
  · rw [if_pos hc, if_pos (h.1 hc)]; exact h1 (h.1 hc)
  · rw [if_neg hc, if_neg fun q => hc (h.2 q)]; exact h2 fun q => hc (h.2 q)
/-- the first that tells, among k from i on -/
def scan {ρ : Type} (e : Nat → Option ρ) : Nat → Nat → Option ρ
  | _, 0 => none
  | i, k + 1 => match e i with
    | some r => some r
    | none => scan e (i + 1) k
theorem scan_none {ρ : Type} {e : Nat → Option ρ} : ∀ (k i : Nat), scan e i k = none ↔ ∀ j, i ≤ j → j < i + k → e j = none
  | 0, i => by simp [scan]; intro j h1 h2; omega
  | k + 1, i => by
    unfold scan
    constructor
    · intro h j h1 h2
      cases he : e i with
      | some r => rw [he] at h; cases h
      | none =>
        rw [he] at h
        rcases Nat.eq_or_lt_of_le h1 with rfl | h3
        · exact he
        · exact (scan_none k (i + 1)).1 h j h3 (by omega)
    · intro h
      rw [h i (Nat.le_refl _) (by omega)]
      exact (scan_none k (i + 1)).2 fun j h1 h2 => h j (by omega) (by omega)
theorem scan_some {ρ : Type} {e : Nat → Option ρ} {r : ρ} : ∀ {k i : Nat}, scan e i k = some r → ∃ j, i ≤ j ∧ j < i + k ∧ e j = some r
  | 0, i, h => by simp [scan] at h
  | k + 1, i, h => by
    unfold scan at h
    cases he : e i with
    | some x => rw [he] at h; cases h; exact ⟨i, Nat.le_refl _, by omega, he⟩
    | none =>
      rw [he] at h
      obtain ⟨j, h1, h2, h3⟩ := scan_some h
      exact ⟨j, by omega, by omega, h3⟩
theorem scan_congr {ρ : Type} {e e' : Nat → Option ρ} : ∀ (k i : Nat), (∀ j, i ≤ j → j < i + k → e j = e' j) → scan e i k = scan e' i k
  | 0, _, _ => rfl
  | k + 1, i, h => by
    unfold scan
    rw [h i (Nat.le_refl _) (by omega), scan_congr k (i + 1) fun j h1 h2 => h j (by omega) (by omega)]
def toSum {ρ : Type} : Option ρ → ρ ⊕ Unit
  | some r => .inl r
  | none => .inr ()
/-- what one round gives -/
def outS {ρ : Type} (i : Nat) (o : Option ρ) : Option (Int ⊕ ρ ⊕ Unit) := match o with
  | none => some (.inl ((i + 1 : Nat) : Int))
  | some r => some (.inr (.inl r))
theorem iterN_scan {ρ : Type} {f : Int → Option (Int ⊕ ρ ⊕ Unit)} (n : Nat) (e : Nat → Option ρ)
    (step : ∀ i, i < n → f (i : Int) = outS i (e i)) (stop : f (n : Int) = some (.inr (.inr ()))) :
    ∀ (k i m : Nat), i + k = n → k < m → iterN f m (i : Int) = some (toSum (scan e i k))
  | 0, i, m, hi, hm => by
    obtain ⟨m, rfl⟩ : ∃ q, m = q + 1 := ⟨m - 1, by omega⟩
    have : i = n := by omega
    subst this
    unfold iterN
    rw [stop]; rfl
  | k + 1, i, m, hi, hm => by
    obtain ⟨m, rfl⟩ : ∃ q, m = q + 1 := ⟨m - 1, by omega⟩
    unfold iterN scan
    rw [step i (by omega)]
    cases e i with
    | some r => rfl
    | none => exact iterN_scan n e step stop k (i + 1) m (by omega) (by omega)
theorem loopR_scan {ρ : Type} {f : Int → Option (Int ⊕ ρ ⊕ Unit)} (n : Nat) (e : Nat → Option ρ) (i : Nat)
    (step : ∀ i, i < n → f (i : Int) = outS i (e i)) (stop : f (n : Int) = some (.inr (.inr ()))) (hi : i ≤ n) (hn : n < fuel) :
    loopR f (i : Int) = some (toSum (scan e i (n - i))) :=
  iterN_scan n e step stop (n - i) i fuel (by omega) (by omega)
theorem loopR_scan0 {ρ : Type} {f : Int → Option (Int ⊕ ρ ⊕ Unit)} (n : Nat) (e : Nat → Option ρ)
    (step : ∀ i, i < n → f (i : Int) = outS i (e i)) (stop : f (n : Int) = some (.inr (.inr ()))) (hn : n < fuel) :
    loopR f 0 = some (toSum (scan e 0 n)) := loopR_scan n e 0 step stop (Nat.zero_le _) hn
theorem sum_scan {ρ α : Type} (o : Option ρ) (k : ρ → Option α) (d : Option α) : sumO (toSum o) k (fun _ => d) = match o with | some r => k r | none => d := by cases o <;> rfl
/-- a loop whose state after each round is known -/
theorem iterN_range {σ ρ : Type} {f : σ → Option (σ ⊕ ρ)} (n : Nat) (st : Nat → σ) {r : ρ} (step : ∀ i, i < n → f (st i) = some (.inl (st (i + 1)))) (stop : f (st n) = some (.inr r)) :
    ∀ (k i m : Nat), i + k = n → k < m → iterN f m (st i) = some r
  | 0, i, m, hi, hm => by
    obtain ⟨m, rfl⟩ : ∃ q, m = q + 1 := ⟨m - 1, by omega⟩
    have : i = n := by omega
    subst this
    unfold iterN
    rw [stop]
  | k + 1, i, m, hi, hm => by
    obtain ⟨m, rfl⟩ : ∃ q, m = q + 1 := ⟨m - 1, by omega⟩
    unfold iterN
    rw [step i (by omega)]
    exact iterN_range n st step stop k (i + 1) m (by omega) (by omega)
theorem loopR_range {σ ρ : Type} {f : σ → Option (σ ⊕ ρ)} (n : Nat) (st : Nat → σ) {r : ρ} (step : ∀ i, i < n → f (st i) = some (.inl (st (i + 1)))) (stop : f (st n) = some (.inr r)) (hn : n < fuel) : loopR f (st 0) = some r :=
  iterN_range n st step stop n 0 fuel (by omega) (by omega)
theorem guard_nlt2 {α : Type} {xs : List α} {i : Int} {r : Bool} : (decide (0 ≤ i ∧ i < lenI xs) && (nlt i.toNat xs.length && r)) = (decide (0 ≤ i ∧ i < lenI xs) && r) := by
  rw [← Bool.and_assoc, guard_nlt]
theorem guard0 {α : Type} {xs : List α} {k : Nat} (h : k < xs.length) : (decide (0 ≤ (k : Int) ∧ (k : Int) < lenI xs) && nlt (0 + ((k : Int)).toNat) xs.length) = true := by
  rw [Nat.zero_add, guard_nlt]; exact decide_eq_true ⟨by omega, by rw [lenI_eq]; omega⟩
/-- a list that begins as nil and to which is appended -/
def accL {α : Type} (l : List α) : Option (List α) := match l with
  | [] => none
  | x :: r => some (x :: r)
@[simp] theorem accL_getD {α : Type} (l : List α) : (accL l).getD [] = l := by cases l <;> rfl
theorem accL_snoc {α : Type} (l : List α) (x : α) : some ((accL l).getD [] ++ [x]) = accL (l ++ [x]) := by cases l <;> rfl
/-- a byte of a text -/
theorem byteI_lo (b : UInt8) : 0 ≤ byteI b := Int.natCast_nonneg _
theorem byteI_hi (b : UInt8) : byteI b < 256 := by unfold byteI; have := b.toNat_lt; omega
theorem byte_in {s : List UInt8} {k : Nat} (h : k < s.length) : (decide (0 ≤ (k : Int)) && nlt ((k : Int)).toNat s.length) = true := by
  rw [Bool.and_eq_true, decide_eq_true_iff, nlt_iff]; omega
theorem byteD {s : List UInt8} {k : Nat} (h : k < s.length) {d : UInt8} : s.getD ((k : Int)).toNat d = s[k] := by
  rw [Int.toNat_natCast, List.getD_eq_getElem?_getD, List.getElem?_eq_getElem h]; rfl
/-- a place of a list, by its number less one -/
theorem inRange {α : Type} {xs : List α} {p : Int} (h0 : 1 ≤ p) (h1 : p ≤ (xs.length : Int)) (h2 : (xs.length : Int) ≤ 4611686018427387904) :
    IntKind.i64.wrap (p - 1) = p - 1 ∧ decide (0 ≤ p - 1 ∧ p - 1 < lenI xs) = true := by
  refine ⟨wrap_i64 (by omega) (by omega), decide_eq_true ?_⟩
  rw [lenI_eq]; omega
end Go.Fn
/- bitext/history.Record -/
namespace Go.Fn
open Go Go.Vs Go.Ve
set_option linter.unusedVariables false
def history_Record : Option
      (List
        ((Int × Int × Int × (Int × Int) × Int × Option (List (Int × List UInt8 × Int)) × List UInt8 × Int × Bool) ×
          (Int × Int × Int × (Int × Int) × Int × Option (List (Int × List UInt8 × Int)) × List UInt8 × Int × Bool) ×
            List UInt8 × Int × Bool)) →
    (Int × Int × Int × (Int × Int) × Int × Option (List (Int × List UInt8 × Int)) × List UInt8 × Int × Bool) ×
        (Int × Int × Int × (Int × Int) × Int × Option (List (Int × List UInt8 × Int)) × List UInt8 × Int × Bool) ×
          List UInt8 × Int × Bool →
      Option
        (Option
            (List
              ((Int × Int × Int × (Int × Int) × Int × Option (List (Int × List UInt8 × Int)) × List UInt8 × Int × Bool) ×
                (Int × Int × Int × (Int × Int) × Int × Option (List (Int × List UInt8 × Int)) × List UInt8 × Int × Bool) ×
                  List UInt8 × Int × Bool)) ×
          Int) :=
  fun l s =>
    if (decide (s.snd.fst.fst < 1) || (s.fst.fst != s.snd.fst.fst || s.snd.snd.snd.snd)) = true then some (none, 1)
    else
      callO (history_only_r l s.snd.fst.fst) fun r1 =>
        if (r1.isSome == r1.isSome) = true then
          if decide (lenI (r1.getD []) ≥ 4096) = true then some (none, 3)
          else
            callO (history_Plain s.fst) fun r2 =>
              callO (history_Plain s.snd.fst) fun r3 =>
                if
                    (decide (0 + (r1.getD []).length = (r1.getD []).length) &&
                        (decide ((r1.getD []).length + [(r2, r3, s.snd.snd)].length ≤ 68719476736) &&
                          r1.isSome == r1.isSome)) =
                      true then
                  some (some (r1.getD [] ++ [(r2, r3, s.snd.snd)]), 0)
                else none
        else none
end Go.Fn
/- bitext/bitextlaw30.HistoryLimits -/
namespace Go.Fn
open Go Go.Vs Go.Ve
set_option linter.unusedVariables false
def bitextlaw30_HistoryLimits_l0 : Option
        (List
          ((Int × Int × Int × (Int × Int) × Int × Option (List (Int × List UInt8 × Int)) × List UInt8 × Int × Bool) ×
            (Int × Int × Int × (Int × Int) × Int × Option (List (Int × List UInt8 × Int)) × List UInt8 × Int × Bool) ×
              List UInt8 × Int × Bool)) ×
      Int →
    Option
      (Option
            (List
              ((Int × Int × Int × (Int × Int) × Int × Option (List (Int × List UInt8 × Int)) × List UInt8 × Int × Bool) ×
                (Int × Int × Int × (Int × Int) × Int × Option (List (Int × List UInt8 × Int)) × List UInt8 × Int × Bool) ×
                  List UInt8 × Int × Bool)) ×
          Int ⊕
        Option
          (List
            ((Int × Int × Int × (Int × Int) × Int × Option (List (Int × List UInt8 × Int)) × List UInt8 × Int × Bool) ×
              (Int × Int × Int × (Int × Int) × Int × Option (List (Int × List UInt8 × Int)) × List UInt8 × Int × Bool) ×
                List UInt8 × Int × Bool))) :=
  fun s1 =>
    if decide (s1.snd > 0) = true then
      if
          (decide (0 + (s1.fst.getD []).length = (s1.fst.getD []).length) &&
              (decide ((s1.fst.getD []).length + 1 ≤ 68719476736) && s1.fst.isSome == s1.fst.isSome)) =
            true then
        some
          (Sum.inl
            (some
                (s1.fst.getD [] ++
                  [((2, 0, 0, (0, 0), 0, none, [], 0, false), (2, 0, 0, (0, 0), 0, none, [], 0, false), [], 0, false)]),
              IntKind.i64.wrap (s1.snd - 1)))
      else none
    else some (Sum.inr s1.fst)
def bitextlaw30_HistoryLimits : Int → Bool → Option Bool :=
  fun n gone =>
    callO (bitextmake_Place n 3) fun r1 =>
      callO (loopR bitextlaw30_HistoryLimits_l0 (none, IntKind.i64.wrap (IntKind.i64.wrap (r1 + 4096) - 1))) fun r2 =>
        if
            (decide
                  (0 ≤ IntKind.i64.wrap (lenI (r2.getD []) - 1) ∧
                    IntKind.i64.wrap (lenI (r2.getD []) - 1) < lenI (r2.getD [])) &&
                nlt (0 + (IntKind.i64.wrap (lenI (r2.getD []) - 1)).toNat) (r2.getD []).length) =
              true then
          callO
            (history_Record
              (some
                ((r2.getD []).set (0 + (IntKind.i64.wrap (lenI (r2.getD []) - 1)).toNat)
                  (((r2.getD []).getD (0 + (IntKind.i64.wrap (lenI (r2.getD []) - 1)).toNat)
                        ((0, 0, 0, (0, 0), 0, none, [], 0, false), (0, 0, 0, (0, 0), 0, none, [], 0, false), [], 0,
                          false)).fst,
                    ((r2.getD []).getD (0 + (IntKind.i64.wrap (lenI (r2.getD []) - 1)).toNat)
                          ((0, 0, 0, (0, 0), 0, none, [], 0, false), (0, 0, 0, (0, 0), 0, none, [], 0, false), [], 0,
                            false)).snd.fst,
                    ((r2.getD []).getD (0 + (IntKind.i64.wrap (lenI (r2.getD []) - 1)).toNat)
                            ((0, 0, 0, (0, 0), 0, none, [], 0, false), (0, 0, 0, (0, 0), 0, none, [], 0, false), [], 0,
                              false)).snd.snd.fst,
                    ((r2.getD []).getD (0 + (IntKind.i64.wrap (lenI (r2.getD []) - 1)).toNat)
                              ((0, 0, 0, (0, 0), 0, none, [], 0, false), (0, 0, 0, (0, 0), 0, none, [], 0, false), [], 0,
                                false)).snd.snd.snd.fst,
                    gone)))
              ((2, 0, 0, (0, 0), 0, none, [], 0, false), (2, 0, 0, (0, 0), 0, none, [], 0, false), [], 0, false))
            fun r3 =>
            if
                (r3.fst.isSome == r3.fst.isSome && (r3.fst.isSome == r3.fst.isSome && r3.fst.isSome == r3.fst.isSome)) =
                  true then
              if
                  decide
                      ((if gone = true then
                          IntKind.i64.wrap
                            (IntKind.i64.wrap
                                (lenI
                                    ((r2.getD []).set (0 + (IntKind.i64.wrap (lenI (r2.getD []) - 1)).toNat)
                                      (((r2.getD []).getD (0 + (IntKind.i64.wrap (lenI (r2.getD []) - 1)).toNat)
                                            ((0, 0, 0, (0, 0), 0, none, [], 0, false),
                                              (0, 0, 0, (0, 0), 0, none, [], 0, false), [], 0, false)).fst,
                                        ((r2.getD []).getD (0 + (IntKind.i64.wrap (lenI (r2.getD []) - 1)).toNat)
                                              ((0, 0, 0, (0, 0), 0, none, [], 0, false),
                                                (0, 0, 0, (0, 0), 0, none, [], 0, false), [], 0, false)).snd.fst,
                                        ((r2.getD []).getD (0 + (IntKind.i64.wrap (lenI (r2.getD []) - 1)).toNat)
                                                ((0, 0, 0, (0, 0), 0, none, [], 0, false),
                                                  (0, 0, 0, (0, 0), 0, none, [], 0, false), [], 0, false)).snd.snd.fst,
                                        ((r2.getD []).getD (0 + (IntKind.i64.wrap (lenI (r2.getD []) - 1)).toNat)
                                                  ((0, 0, 0, (0, 0), 0, none, [], 0, false),
                                                    (0, 0, 0, (0, 0), 0, none, [], 0, false), [], 0,
                                                    false)).snd.snd.snd.fst,
                                        gone)) +
                                  1) -
                              1)
                        else
                          IntKind.i64.wrap
                            (lenI
                                ((r2.getD []).set (0 + (IntKind.i64.wrap (lenI (r2.getD []) - 1)).toNat)
                                  (((r2.getD []).getD (0 + (IntKind.i64.wrap (lenI (r2.getD []) - 1)).toNat)
                                        ((0, 0, 0, (0, 0), 0, none, [], 0, false),
                                          (0, 0, 0, (0, 0), 0, none, [], 0, false), [], 0, false)).fst,
                                    ((r2.getD []).getD (0 + (IntKind.i64.wrap (lenI (r2.getD []) - 1)).toNat)
                                          ((0, 0, 0, (0, 0), 0, none, [], 0, false),
                                            (0, 0, 0, (0, 0), 0, none, [], 0, false), [], 0, false)).snd.fst,
                                    ((r2.getD []).getD (0 + (IntKind.i64.wrap (lenI (r2.getD []) - 1)).toNat)
                                            ((0, 0, 0, (0, 0), 0, none, [], 0, false),
                                              (0, 0, 0, (0, 0), 0, none, [], 0, false), [], 0, false)).snd.snd.fst,
                                    ((r2.getD []).getD (0 + (IntKind.i64.wrap (lenI (r2.getD []) - 1)).toNat)
                                              ((0, 0, 0, (0, 0), 0, none, [], 0, false),
                                                (0, 0, 0, (0, 0), 0, none, [], 0, false), [], 0, false)).snd.snd.snd.fst,
                                    gone)) +
                              1)) >
                        4096) =
                    true then
                if (r3.snd == 3) = true then
                  if (lenI (r3.fst.getD []) == 0) = true then callO bitextlaw30_known fun r4 => some r4 else some false
                else some false
              else
                if (r3.snd == 0) = true then
                  if
                      (lenI (r3.fst.getD []) ==
                          if gone = true then
                            IntKind.i64.wrap
                              (IntKind.i64.wrap
                                  (lenI
                                      ((r2.getD []).set (0 + (IntKind.i64.wrap (lenI (r2.getD []) - 1)).toNat)
                                        (((r2.getD []).getD (0 + (IntKind.i64.wrap (lenI (r2.getD []) - 1)).toNat)
                                              ((0, 0, 0, (0, 0), 0, none, [], 0, false),
                                                (0, 0, 0, (0, 0), 0, none, [], 0, false), [], 0, false)).fst,
                                          ((r2.getD []).getD (0 + (IntKind.i64.wrap (lenI (r2.getD []) - 1)).toNat)
                                                ((0, 0, 0, (0, 0), 0, none, [], 0, false),
                                                  (0, 0, 0, (0, 0), 0, none, [], 0, false), [], 0, false)).snd.fst,
                                          ((r2.getD []).getD (0 + (IntKind.i64.wrap (lenI (r2.getD []) - 1)).toNat)
                                                  ((0, 0, 0, (0, 0), 0, none, [], 0, false),
                                                    (0, 0, 0, (0, 0), 0, none, [], 0, false), [], 0, false)).snd.snd.fst,
                                          ((r2.getD []).getD (0 + (IntKind.i64.wrap (lenI (r2.getD []) - 1)).toNat)
                                                    ((0, 0, 0, (0, 0), 0, none, [], 0, false),
                                                      (0, 0, 0, (0, 0), 0, none, [], 0, false), [], 0,
                                                      false)).snd.snd.snd.fst,
                                          gone)) +
                                    1) -
                                1)
                          else
                            IntKind.i64.wrap
                              (lenI
                                  ((r2.getD []).set (0 + (IntKind.i64.wrap (lenI (r2.getD []) - 1)).toNat)
                                    (((r2.getD []).getD (0 + (IntKind.i64.wrap (lenI (r2.getD []) - 1)).toNat)
                                          ((0, 0, 0, (0, 0), 0, none, [], 0, false),
                                            (0, 0, 0, (0, 0), 0, none, [], 0, false), [], 0, false)).fst,
                                      ((r2.getD []).getD (0 + (IntKind.i64.wrap (lenI (r2.getD []) - 1)).toNat)
                                            ((0, 0, 0, (0, 0), 0, none, [], 0, false),
                                              (0, 0, 0, (0, 0), 0, none, [], 0, false), [], 0, false)).snd.fst,
                                      ((r2.getD []).getD (0 + (IntKind.i64.wrap (lenI (r2.getD []) - 1)).toNat)
                                              ((0, 0, 0, (0, 0), 0, none, [], 0, false),
                                                (0, 0, 0, (0, 0), 0, none, [], 0, false), [], 0, false)).snd.snd.fst,
                                      ((r2.getD []).getD (0 + (IntKind.i64.wrap (lenI (r2.getD []) - 1)).toNat)
                                                ((0, 0, 0, (0, 0), 0, none, [], 0, false),
                                                  (0, 0, 0, (0, 0), 0, none, [], 0, false), [], 0,
                                                  false)).snd.snd.snd.fst,
                                      gone)) +
                                1)) =
                        true then
                    callO bitextlaw30_known fun r5 => some r5
                  else some false
                else some false
            else none
        else none
end Go.Fn
/- History: the filter; HistoryLimits. -/
namespace Go.Fn
open Go Go.Vs Go.Ve
abbrev HSeg : Type := Int × Int × Int × (Int × Int) × Int × Option (List (Int × List UInt8 × Int)) × List UInt8 × Int × Bool
abbrev HStep0 : Type := HSeg × HSeg × List UInt8 × Int × Bool
set_option maxRecDepth 100000 in
theorem known30 : bitextlaw30_known = some true := by kernel_rfl
def stp (u : Bool) : HStep0 := ((2, 0, 0, (0, 0), 0, none, [], 0, false), (2, 0, 0, (0, 0), 0, none, [], 0, false), [], 0, u)
theorem step_stp (u : Bool) : history_step (stp u) = some (stp u) := by cases u <;> rfl
def keepP (id : Int) (x : HStep0) : Bool := x.2.1.1 != id || !x.2.2.2.2
theorem only_r_eq {l : Option (List HStep0)} {id : Int} (h : ∀ x ∈ l.getD [], history_step x = some x) (hl : (l.getD []).length ≤ 68719476735) :
    history_only_r l id = some (accL ((l.getD []).filter (keepP id))) := by
  have hloop : loopR (history_only_r_l0 l id) (none, 0) = some (accL ((l.getD []).filter (keepP id))) := by
    have := loopR_range (f := history_only_r_l0 l id) (l.getD []).length (fun i => (accL (((l.getD []).take i).filter (keepP id)), (i : Int))) (r := accL ((l.getD []).filter (keepP id))) ?_ ?_ ?_
    · simpa [accL] using this
    · intro i hi
      unfold history_only_r_l0
      dsimp only
      have hx : (l.getD []).getD ((i : Int)).toNat ((0, 0, 0, (0, 0), 0, none, [], 0, false), (0, 0, 0, (0, 0), 0, none, [], 0, false), [], 0, false) = (l.getD [])[i] := by
        rw [Int.toNat_natCast, List.getD_eq_getElem?_getD, List.getElem?_eq_getElem hi]; rfl
      have hw : IntKind.i64.wrap ((i : Int) + 1) = ((i + 1 : Nat) : Int) := by
        rw [wrap_i64 (by omega) (by omega)]; omega
      have hlen : (((l.getD []).take i).filter (keepP id)).length ≤ i := Nat.le_trans (List.length_filter_le _ _) (by simp; omega)
      have htake : (l.getD []).take (i + 1) = (l.getD []).take i ++ [(l.getD [])[i]] := by rw [List.take_add_one, List.getElem?_eq_getElem hi]; rfl
      refine dcT (by rw [lenI_eq]; exact_mod_cast hi) (dcT (by rw [lenI_eq]; exact ⟨by omega, by exact_mod_cast hi⟩) ?_)
      simp only [hx]
      refine callT (v := keepP id (l.getD [])[i]) rfl ?_
      cases hk : keepP id (l.getD [])[i] with
      | true =>
        refine ifT rfl (callT (h _ (List.getElem_mem hi)) (ifT ?_ ?_))
        · have hacc : ((accL (((l.getD []).take i).filter (keepP id))).getD []).length = (((l.getD []).take i).filter (keepP id)).length := by
            cases ((l.getD []).take i).filter (keepP id) <;> rfl
          rw [hacc]
          simp
          omega
        · rw [hw, accL_snoc, htake, List.filter_append, List.filter_cons, if_pos hk, List.filter_nil]
      | false =>
        refine ifF (by simp) ?_
        rw [hw, htake, List.filter_append, List.filter_cons, if_neg (by rw [hk]; simp), List.filter_nil, List.append_nil]
    · unfold history_only_r_l0
      refine dcF (by rw [lenI_eq]; omega) ?_
      simp
    · have : (l.getD []).length < 68719476736 := by omega
      exact Nat.lt_of_lt_of_le this (by decide)
  unfold history_only_r
  exact callT hloop (sfT (sfT rfl))
/-- history.Record at a list of steps that lie plain -/
theorem record_eq {l : Option (List HStep0)} {u : Bool} (h : ∀ x ∈ l.getD [], history_step x = some x) (hl : (l.getD []).length ≤ 68719476735) :
    history_Record l (stp false) = some (if 4096 ≤ ((l.getD []).filter (keepP 2)).length then (none, 3) else (some ((l.getD []).filter (keepP 2) ++ [stp false]), 0)) := by
  have hlen : ((l.getD []).filter (keepP 2)).length ≤ 68719476735 := Nat.le_trans (List.length_filter_le _ _) hl
  have hacc : ((accL ((l.getD []).filter (keepP 2))).getD []) = (l.getD []).filter (keepP 2) := by
    cases (l.getD []).filter (keepP 2) <;> rfl
  unfold history_Record
  refine ifF (by decide) (callT (only_r_eq h hl) (sfT ?_))
  rw [show (stp false).snd.fst.fst = 2 from rfl, hacc]
  by_cases hc : 4096 ≤ ((l.getD []).filter (keepP 2)).length
  · rw [if_pos hc]
    exact dcT (by rw [lenI_eq]; omega) rfl
  · rw [if_neg hc]
    refine dcF (by rw [lenI_eq]; omega) (callT (v := (stp false).1) (by rfl) (callT (v := (stp false).2.1) (by rfl) (ifT ?_ rfl)))
    simp
    omega
theorem fill_eq (w : Nat) (hw : w ≤ 1000000) : loopR bitextlaw30_HistoryLimits_l0 (none, (w : Int)) = some (accL (List.replicate w (stp false))) := by
  have := loopR_range (f := bitextlaw30_HistoryLimits_l0) w (fun i => (accL (List.replicate i (stp false)), ((w - i : Nat) : Int))) (r := accL (List.replicate w (stp false))) ?_ ?_ ?_
  · simpa [accL] using this
  · intro i hi
    unfold bitextlaw30_HistoryLimits_l0
    dsimp only
    have hacc : ((accL (List.replicate i (stp false))).getD []).length = i := by cases i <;> simp [accL, List.replicate]
    refine dcT (by omega) (ifT ?_ ?_)
    · rw [hacc]; simp; omega
    · have hw : IntKind.i64.wrap (((w - i : Nat) : Int) - 1) = ((w - (i + 1) : Nat) : Int) := by
        rw [wrap_i64 (by omega) (by omega)]; omega
      rw [hw]
      show some (Sum.inl (some ((accL (List.replicate i (stp false))).getD [] ++ [stp false]), _)) = _
      rw [accL_snoc, ← List.replicate_succ']
  · unfold bitextlaw30_HistoryLimits_l0
    exact dcF (by simp) rfl
  · exact Nat.lt_of_le_of_lt hw (by decide)
theorem limits_holds {n : Int} (gone : Bool) (hn : In64 n) : bitextlaw30_HistoryLimits n gone = some true := by
  have h0 := Int.emod_nonneg n (show (3 : Int) ≠ 0 by omega)
  have h1 := Int.emod_lt_of_pos n (show (0 : Int) < 3 by omega)
  unfold bitextlaw30_HistoryLimits
  refine callT (place_eq hn (by omega) (by omega)) ?_
  obtain ⟨w, hw⟩ : ∃ w : Nat, n % 3 + 4096 - 1 = ((w + 1 : Nat) : Int) := ⟨(n % 3 + 4094).toNat, by omega⟩
  rw [wrap_i64 (n := n % 3 + 4096) (by omega) (by omega), wrap_i64 (by omega) (by omega), hw]
  refine callT (fill_eq (w + 1) (by omega)) ?_
  have hacc : (accL (List.replicate (w + 1) (stp false))).getD [] = List.replicate (w + 1) (stp false) := rfl
  have hR : lenI (List.replicate (w + 1) (stp false)) = ((w + 1 : Nat) : Int) := by rw [lenI_eq]; simp
  have hW : IntKind.i64.wrap (((w + 1 : Nat) : Int) - 1) = (w : Int) := by rw [wrap_i64 (by omega) (by omega)]; omega
  have hg : (List.replicate (w + 1) (stp false)).getD w ((0, 0, 0, (0, 0), 0, none, [], 0, false), (0, 0, 0, (0, 0), 0, none, [], 0, false), [], 0, false) = stp false := by simp [List.getD_eq_getElem?_getD]
  have hset : (List.replicate (w + 1) (stp false)).set w ((stp false).fst, (stp false).snd.fst, (stp false).snd.snd.fst, (stp false).snd.snd.snd.fst, gone) = List.replicate w (stp false) ++ [stp gone] := by
    rw [List.replicate_succ']
    rw [List.set_append_right _ _ (by simp)]
    simp
    rfl
  simp only [hacc, hR, hW, Int.toNat_natCast, Nat.zero_add, hg, hset]
  refine ifT ?_ (callT (record_eq (l := some (List.replicate w (stp false) ++ [stp gone])) (u := gone) ?_ ?_) ?_)
  · simp [nlt]
    omega
  · intro x hx
    simp only [Option.getD_some, List.mem_append, List.mem_replicate, List.mem_singleton] at hx
    rcases hx with ⟨_, rfl⟩ | rfl
    · exact step_stp false
    · exact step_stp gone
  · simp
    omega
  · have hL : lenI (List.replicate w (stp false) ++ [stp gone]) = ((w + 1 : Nat) : Int) := by rw [lenI_eq]; simp
    have hK : ∀ u, keepP 2 (stp u) = !u := fun u => by cases u <;> rfl
    have hF : (List.replicate w (stp false)).filter (keepP 2) = List.replicate w (stp false) := by
      rw [List.filter_replicate, if_pos (by rw [hK]; rfl)]
    have hU : ((List.replicate w (stp false) ++ [stp gone]).filter (keepP 2)).length = if gone then w else w + 1 := by
      rw [List.filter_append, hF]
      cases gone <;> simp [List.filter_cons, hK]
    have e1 : IntKind.i64.wrap (((w + 1 : Nat) : Int) + 1) = ((w + 2 : Nat) : Int) := by rw [wrap_i64 (by omega) (by omega)]; omega
    have e2 : IntKind.i64.wrap (((w + 2 : Nat) : Int) - 1) = ((w + 1 : Nat) : Int) := by rw [wrap_i64 (by omega) (by omega)]; omega
    simp only [hL, e1, e2, Option.getD_some]
    by_cases hc : 4096 ≤ ((List.replicate w (stp false) ++ [stp gone]).filter (keepP 2)).length
    · rw [if_pos hc]
      refine ifT (by simp) (dcT ?_ (ifT rfl (ifT rfl (callT known30 rfl))))
      rw [hU] at hc
      cases gone <;> simp at hc ⊢ <;> omega
    · rw [if_neg hc]
      refine ifT (by simp) (dcF ?_ (ifT rfl (ifT ?_ (callT known30 rfl))))
      · rw [hU] at hc
        cases gone <;> simp at hc ⊢ <;> omega
      · rw [beq_iff_eq, lenI_eq]
        simp only [Option.getD_some, List.length_append, hU]
        cases gone <;> simp <;> omega
end Go.Fn
/- bitext/bitextlaw30.big -/
namespace Go.Fn
open Go Go.Vs Go.Ve
set_option linter.unusedVariables false
def bitextlaw30_big_l0 : Option
      (List
        ((Int × Int × Int × (Int × Int) × Int × Option (List (Int × List UInt8 × Int)) × List UInt8 × Int × Bool) ×
          (Int × Int × Int × (Int × Int) × Int × Option (List (Int × List UInt8 × Int)) × List UInt8 × Int × Bool) ×
            List UInt8 × Int × Bool)) →
    Int × Int → Option (Int × Int ⊕ Int) :=
  fun l s1 =>
    if decide (s1.snd < lenI (l.getD [])) = true then
      if decide (0 ≤ s1.snd ∧ s1.snd < lenI (l.getD [])) = true then
        some
          (Sum.inl
            (IntKind.i64.wrap
                (s1.fst +
                  IntKind.i64.wrap
                    (lenI
                        (((l.getD []).getD s1.snd.toNat
                                            ((0, 0, 0, (0, 0), 0, none, [], 0, false),
                                              (0, 0, 0, (0, 0), 0, none, [], 0, false), [], 0,
                                              false)).fst.snd.snd.snd.snd.snd.fst.getD
                          []) +
                      lenI
                        (((l.getD []).getD s1.snd.toNat
                                              ((0, 0, 0, (0, 0), 0, none, [], 0, false),
                                                (0, 0, 0, (0, 0), 0, none, [], 0, false), [], 0,
                                                false)).snd.fst.snd.snd.snd.snd.snd.fst.getD
                          []))),
              IntKind.i64.wrap (s1.snd + 1)))
      else none
    else some (Sum.inr s1.fst)
def bitextlaw30_big : Option
      (List
        ((Int × Int × Int × (Int × Int) × Int × Option (List (Int × List UInt8 × Int)) × List UInt8 × Int × Bool) ×
          (Int × Int × Int × (Int × Int) × Int × Option (List (Int × List UInt8 × Int)) × List UInt8 × Int × Bool) ×
            List UInt8 × Int × Bool)) →
    Option Bool :=
  fun l => callO (loopR (bitextlaw30_big_l0 l) (lenI (l.getD []), 0)) fun r1 => some (decide (r1 > 200))
end Go.Fn
/- bitext/bitextref28.Of -/
namespace Go.Fn
open Go Go.Vs Go.Ve
set_option linter.unusedVariables false
def bitextref28_Of_l0 : Option
      (List
        ((Int × Int × Int × (Int × Int) × Int × Option (List (Int × List UInt8 × Int)) × List UInt8 × Int × Bool) ×
          (Int × Int × Int × (Int × Int) × Int × Option (List (Int × List UInt8 × Int)) × List UInt8 × Int × Bool) ×
            List UInt8 × Int × Bool)) →
    Int →
      Option
            (List
              ((Int × Int × Int × (Int × Int) × Int × Option (List (Int × List UInt8 × Int)) × List UInt8 × Int × Bool) ×
                (Int × Int × Int × (Int × Int) × Int × Option (List (Int × List UInt8 × Int)) × List UInt8 × Int × Bool) ×
                  List UInt8 × Int × Bool)) ×
          Int →
        Option
          (Option
                (List
                  ((Int ×
                      Int × Int × (Int × Int) × Int × Option (List (Int × List UInt8 × Int)) × List UInt8 × Int × Bool) ×
                    (Int ×
                        Int ×
                          Int × (Int × Int) × Int × Option (List (Int × List UInt8 × Int)) × List UInt8 × Int × Bool) ×
                      List UInt8 × Int × Bool)) ×
              Int ⊕
            Option
              (List
                ((Int ×
                    Int × Int × (Int × Int) × Int × Option (List (Int × List UInt8 × Int)) × List UInt8 × Int × Bool) ×
                  (Int ×
                      Int × Int × (Int × Int) × Int × Option (List (Int × List UInt8 × Int)) × List UInt8 × Int × Bool) ×
                    List UInt8 × Int × Bool))) :=
  fun l segment s1 =>
    if decide (s1.snd < lenI (l.getD [])) = true then
      if
          (decide (0 ≤ s1.snd ∧ s1.snd < lenI (l.getD [])) &&
              (!(((l.getD []).getD s1.snd.toNat
                              ((0, 0, 0, (0, 0), 0, none, [], 0, false), (0, 0, 0, (0, 0), 0, none, [], 0, false), [], 0,
                                false)).snd.fst.fst ==
                      segment &&
                    !((l.getD []).getD s1.snd.toNat
                                ((0, 0, 0, (0, 0), 0, none, [], 0, false), (0, 0, 0, (0, 0), 0, none, [], 0, false), [],
                                  0, false)).snd.snd.snd.snd) ||
                decide (0 + (s1.fst.getD []).length = (s1.fst.getD []).length) &&
                  (decide
                      ((s1.fst.getD []).length +
                          [(l.getD []).getD s1.snd.toNat
                                ((0, 0, 0, (0, 0), 0, none, [], 0, false), (0, 0, 0, (0, 0), 0, none, [], 0, false), [],
                                  0, false)].length ≤
                        68719476736) &&
                    s1.fst.isSome == s1.fst.isSome))) =
            true then
        some
          (Sum.inl
            (if
                  (((l.getD []).getD s1.snd.toNat
                                ((0, 0, 0, (0, 0), 0, none, [], 0, false), (0, 0, 0, (0, 0), 0, none, [], 0, false), [],
                                  0, false)).snd.fst.fst ==
                        segment &&
                      !((l.getD []).getD s1.snd.toNat
                                  ((0, 0, 0, (0, 0), 0, none, [], 0, false), (0, 0, 0, (0, 0), 0, none, [], 0, false), [],
                                    0, false)).snd.snd.snd.snd) =
                    true then
                some
                  (s1.fst.getD [] ++
                    [(l.getD []).getD s1.snd.toNat
                        ((0, 0, 0, (0, 0), 0, none, [], 0, false), (0, 0, 0, (0, 0), 0, none, [], 0, false), [], 0,
                          false)])
              else s1.fst,
              IntKind.i64.wrap (s1.snd + 1)))
      else none
    else some (Sum.inr s1.fst)
def bitextref28_Of : Option
      (List
        ((Int × Int × Int × (Int × Int) × Int × Option (List (Int × List UInt8 × Int)) × List UInt8 × Int × Bool) ×
          (Int × Int × Int × (Int × Int) × Int × Option (List (Int × List UInt8 × Int)) × List UInt8 × Int × Bool) ×
            List UInt8 × Int × Bool)) →
    Int →
      Option
        (Option
          (List
            ((Int × Int × Int × (Int × Int) × Int × Option (List (Int × List UInt8 × Int)) × List UInt8 × Int × Bool) ×
              (Int × Int × Int × (Int × Int) × Int × Option (List (Int × List UInt8 × Int)) × List UInt8 × Int × Bool) ×
                List UInt8 × Int × Bool))) :=
  fun l segment =>
    callO (loopR (bitextref28_Of_l0 l segment) (none, 0)) fun r1 =>
      if (r1.isSome == r1.isSome) = true then if (r1.isSome == r1.isSome) = true then some r1 else none else none
end Go.Fn
/- bitext/bitextlaw30.HistoryLists -/
namespace Go.Fn
open Go Go.Vs Go.Ve
set_option linter.unusedVariables false
def bitextlaw30_HistoryLists_l1 : Option
      (List
        ((Int × Int × Int × (Int × Int) × Int × Option (List (Int × List UInt8 × Int)) × List UInt8 × Int × Bool) ×
          (Int × Int × Int × (Int × Int) × Int × Option (List (Int × List UInt8 × Int)) × List UInt8 × Int × Bool) ×
            List UInt8 × Int × Bool)) →
    Int →
      Option
          (List
            ((Int × Int × Int × (Int × Int) × Int × Option (List (Int × List UInt8 × Int)) × List UInt8 × Int × Bool) ×
              (Int × Int × Int × (Int × Int) × Int × Option (List (Int × List UInt8 × Int)) × List UInt8 × Int × Bool) ×
                List UInt8 × Int × Bool)) →
        Int → Int → Option (Int ⊕ Bool ⊕ Unit) :=
  fun l segment r1 s1 s2 =>
    if decide (s2 < lenI [segment, 1, 2]) = true then
      if (decide (0 ≤ s2 ∧ s2 < lenI [segment, 1, 2]) && nlt (0 + s2.toNat) [segment, 1, 2].length) = true then
        callO (history_Of ([l, r1].getD (0 + s1.toNat) none) ([segment, 1, 2].getD (0 + s2.toNat) 0)) fun r2 =>
          callO (bitextref28_Of ([l, r1].getD (0 + s1.toNat) none) ([segment, 1, 2].getD (0 + s2.toNat) 0)) fun r3 =>
            if (r2.isSome == r2.isSome) = true then
              if (r3.isSome == r3.isSome) = true then
                callO (bitextref28_SameSteps r2 r3) fun r4 =>
                  if (!r4) = true then some (Sum.inr (Sum.inl false)) else some (Sum.inl (IntKind.i64.wrap (s2 + 1)))
              else none
            else none
      else none
    else some (Sum.inr (Sum.inr ()))
def bitextlaw30_HistoryLists_l0 : Option
      (List
        ((Int × Int × Int × (Int × Int) × Int × Option (List (Int × List UInt8 × Int)) × List UInt8 × Int × Bool) ×
          (Int × Int × Int × (Int × Int) × Int × Option (List (Int × List UInt8 × Int)) × List UInt8 × Int × Bool) ×
            List UInt8 × Int × Bool)) →
    Int →
      Option
          (List
            ((Int × Int × Int × (Int × Int) × Int × Option (List (Int × List UInt8 × Int)) × List UInt8 × Int × Bool) ×
              (Int × Int × Int × (Int × Int) × Int × Option (List (Int × List UInt8 × Int)) × List UInt8 × Int × Bool) ×
                List UInt8 × Int × Bool)) →
        Int → Option (Int ⊕ Bool ⊕ Unit) :=
  fun l segment r1 s1 =>
    if decide (s1 < lenI [l, r1]) = true then
      if (decide (0 ≤ s1 ∧ s1 < lenI [l, r1]) && nlt (0 + s1.toNat) [l, r1].length) = true then
        callO (loopR (bitextlaw30_HistoryLists_l1 l segment r1 s1) 0) fun r2 =>
          sumO r2 (fun r3 => some (Sum.inr (Sum.inl r3))) fun r4 => some (Sum.inl (IntKind.i64.wrap (s1 + 1)))
      else none
    else some (Sum.inr (Sum.inr ()))
def bitextlaw30_HistoryLists : Option
      (List
        ((Int × Int × Int × (Int × Int) × Int × Option (List (Int × List UInt8 × Int)) × List UInt8 × Int × Bool) ×
          (Int × Int × Int × (Int × Int) × Int × Option (List (Int × List UInt8 × Int)) × List UInt8 × Int × Bool) ×
            List UInt8 × Int × Bool)) →
    Int →
      Int × Int × Int × (Int × Int) × Int × Option (List (Int × List UInt8 × Int)) × List UInt8 × Int × Bool →
        Option (List Int) → Option Bool :=
  fun l segment x k =>
    callO (bitextlaw30_long (some [k])) fun r1 =>
      if r1 = true then callO bitextlaw30_known fun r2 => some r2
      else
        callO (bitextlaw30_big l) fun r3 =>
          if (r3 || decide (lenI (x.snd.snd.snd.snd.snd.fst.getD []) > 50)) = true then
            callO bitextlaw30_known fun r4 => some r4
          else
            callO (bitextlaw30_steps k) fun r5 =>
              callO (loopR (bitextlaw30_HistoryLists_l0 l segment r5) 0) fun r6 =>
                sumO r6 (fun r7 => some r7) fun r8 =>
                  callO (history_Plain x) fun r9 =>
                    callO (bitextref28_Plain x) fun r10 =>
                      callO (bitextref26_SameSegment r9 r10) fun r11 =>
                        if r11 = true then
                          callO (history_Plain r9) fun r12 =>
                            callO (bitextref26_SameSegment r12 r9) fun r13 =>
                              if r13 = true then
                                if decide (x.snd.snd.snd.snd.snd.snd.fst = []) = true then
                                  callO bitextlaw30_known fun r14 => some r14
                                else
                                  callO (bitextref3_Same r9.snd.snd.snd.snd.snd.fst x.snd.snd.snd.snd.snd.fst) fun r15 =>
                                    if r15 = true then callO bitextlaw30_known fun r16 => some r16 else some false
                              else some false
                        else some false
end Go.Fn
/- History: what lies plain is cloned as it is; Of on both sides; reflexive comparisons. -/
namespace Go.Fn
open Go Go.Vs Go.Ve
def SegOk (s : HSeg) : Prop := (s.2.2.2.2.2.1.getD []).length ≤ 68719476736
def StepOk (x : HStep0) : Prop := SegOk x.1 ∧ SegOk x.2.1
theorem clone_eq {o : Option (List (Int × List UInt8 × Int))} (h : (o.getD []).length ≤ 68719476736) : slices_Clone_api_Item o = some o := by
  unfold slices_Clone_api_Item
  cases o with
  | none => rfl
  | some xs =>
    refine ifF (by simp) (ifT ?_ (by simp))
    simp at h ⊢
    exact h
theorem segment_eq {s : HSeg} (h : SegOk s) : view_Segment s = some s := by
  unfold view_Segment
  exact callT (clone_eq h) (sfT (sfT rfl))
theorem step_eq {x : HStep0} (h : StepOk x) : history_step x = some x := by
  unfold history_step
  exact callT (segment_eq h.1) (callT (segment_eq h.2) rfl)
def ofP (id : Int) (x : HStep0) : Bool := x.2.1.1 == id && !x.2.2.2.2
theorem only_o_eq {l : Option (List HStep0)} {id : Int} (h : ∀ x ∈ l.getD [], history_step x = some x) (hl : (l.getD []).length ≤ 68719476735) :
    history_only_o l id = some (accL ((l.getD []).filter (ofP id))) := by
  have hloop : loopR (history_only_o_l0 l id) (none, 0) = some (accL ((l.getD []).filter (ofP id))) := by
    have := loopR_range (f := history_only_o_l0 l id) (l.getD []).length (fun i => (accL (((l.getD []).take i).filter (ofP id)), (i : Int))) (r := accL ((l.getD []).filter (ofP id))) ?_ ?_ ?_
    · simpa [accL] using this
    · intro i hi
      unfold history_only_o_l0
      dsimp only
      have hx : (l.getD []).getD ((i : Int)).toNat ((0, 0, 0, (0, 0), 0, none, [], 0, false), (0, 0, 0, (0, 0), 0, none, [], 0, false), [], 0, false) = (l.getD [])[i] := by
        rw [Int.toNat_natCast, List.getD_eq_getElem?_getD, List.getElem?_eq_getElem hi]; rfl
      have hw : IntKind.i64.wrap ((i : Int) + 1) = ((i + 1 : Nat) : Int) := by
        rw [wrap_i64 (by omega) (by omega)]; omega
      have hlen : (((l.getD []).take i).filter (ofP id)).length ≤ i := Nat.le_trans (List.length_filter_le _ _) (by simp; omega)
      have htake : (l.getD []).take (i + 1) = (l.getD []).take i ++ [(l.getD [])[i]] := by rw [List.take_add_one, List.getElem?_eq_getElem hi]; rfl
      refine dcT (by rw [lenI_eq]; exact_mod_cast hi) (dcT (by rw [lenI_eq]; exact ⟨by omega, by exact_mod_cast hi⟩) ?_)
      simp only [hx]
      refine callT (v := ofP id (l.getD [])[i]) rfl ?_
      cases hk : ofP id (l.getD [])[i] with
      | true =>
        refine ifT rfl (callT (h _ (List.getElem_mem hi)) (ifT ?_ ?_))
        · have hacc : ((accL (((l.getD []).take i).filter (ofP id))).getD []).length = (((l.getD []).take i).filter (ofP id)).length := by
            cases ((l.getD []).take i).filter (ofP id) <;> rfl
          rw [hacc]
          simp
          omega
        · rw [hw, accL_snoc, htake, List.filter_append, List.filter_cons, if_pos hk, List.filter_nil]
      | false =>
        refine ifF (by simp) ?_
        rw [hw, htake, List.filter_append, List.filter_cons, if_neg (by rw [hk]; simp), List.filter_nil, List.append_nil]
    · unfold history_only_o_l0
      refine dcF (by rw [lenI_eq]; omega) ?_
      simp
    · have : (l.getD []).length < 68719476736 := by omega
      exact Nat.lt_of_lt_of_le this (by decide)
  unfold history_only_o
  exact callT hloop (sfT (sfT rfl))
theorem of_eq {l : Option (List HStep0)} {id : Int} (h : ∀ x ∈ l.getD [], StepOk x) (hl : (l.getD []).length ≤ 68719476735) :
    history_Of l id = some (accL ((l.getD []).filter (ofP id))) := by
  unfold history_Of
  exact callT (only_o_eq (fun x hx => step_eq (h x hx)) hl) (sfT (sfT rfl))
theorem r28of_eq {l : Option (List HStep0)} {id : Int} (hl : (l.getD []).length ≤ 68719476735) :
    bitextref28_Of l id = some (accL ((l.getD []).filter (ofP id))) := by
  have hloop : loopR (bitextref28_Of_l0 l id) (none, 0) = some (accL ((l.getD []).filter (ofP id))) := by
    have := loopR_range (f := bitextref28_Of_l0 l id) (l.getD []).length (fun i => (accL (((l.getD []).take i).filter (ofP id)), (i : Int))) (r := accL ((l.getD []).filter (ofP id))) ?_ ?_ ?_
    · simpa [accL] using this
    · intro i hi
      unfold bitextref28_Of_l0
      dsimp only
      have hx : (l.getD []).getD ((i : Int)).toNat ((0, 0, 0, (0, 0), 0, none, [], 0, false), (0, 0, 0, (0, 0), 0, none, [], 0, false), [], 0, false) = (l.getD [])[i] := by
        rw [Int.toNat_natCast, List.getD_eq_getElem?_getD, List.getElem?_eq_getElem hi]; rfl
      have hw : IntKind.i64.wrap ((i : Int) + 1) = ((i + 1 : Nat) : Int) := by
        rw [wrap_i64 (by omega) (by omega)]; omega
      have hlen : (((l.getD []).take i).filter (ofP id)).length ≤ i := Nat.le_trans (List.length_filter_le _ _) (by simp; omega)
      have htake : (l.getD []).take (i + 1) = (l.getD []).take i ++ [(l.getD [])[i]] := by rw [List.take_add_one, List.getElem?_eq_getElem hi]; rfl
      have hacc : ((accL (((l.getD []).take i).filter (ofP id))).getD []).length = (((l.getD []).take i).filter (ofP id)).length := by
        cases ((l.getD []).take i).filter (ofP id) <;> rfl
      have hb : decide (0 ≤ (i : Int) ∧ (i : Int) < lenI (l.getD [])) = true := decide_eq_true (by rw [lenI_eq]; omega)
      have hc : decide ((((l.getD []).take i).filter (ofP id)).length + 1 ≤ 68719476736) = true := decide_eq_true (by omega)
      refine dcT (by rw [lenI_eq]; omega) (ifT ?_ ?_)
      · rw [hb, hacc, hx]
        simp [hc]
        omega
      · rw [hw, hx, accL_snoc, htake, List.filter_append, List.filter_cons, List.filter_nil]
        show some (Sum.inl (if ofP id (l.getD [])[i] = true then _ else _, _)) = _
        cases hk : ofP id (l.getD [])[i] <;> simp
    · unfold bitextref28_Of_l0
      refine dcF (by rw [lenI_eq]; omega) ?_
      simp
    · have : (l.getD []).length < 68719476736 := by omega
      exact Nat.lt_of_lt_of_le this (by decide)
  unfold bitextref28_Of
  exact callT hloop (sfT (sfT rfl))
theorem same_refl {o : Option (List (Int × List UInt8 × Int))} (h : (o.getD []).length ≤ 68719476736) : bitextref3_Same o o = some true := by
  unfold bitextref3_Same
  refine ifF (by simp) (callT (v := .inr ()) ?_ rfl)
  refine loopR_range (f := bitextref3_Same_l0 o o) (o.getD []).length (fun i => (i : Int)) (r := .inr ()) ?_ ?_ (Nat.lt_of_le_of_lt h (by decide))
  · intro i hi
    unfold bitextref3_Same_l0
    have hb : decide (0 ≤ (i : Int) ∧ (i : Int) < lenI (o.getD [])) = true := decide_eq_true (by rw [lenI_eq]; omega)
    refine dcT (by rw [lenI_eq]; omega) (ifT (by rw [hb]; rfl) (ifF (by simp) ?_))
    rw [wrap_i64 (by omega) (by omega)]
    simp
  · unfold bitextref3_Same_l0
    exact dcF (by rw [lenI_eq]; omega) rfl
theorem sameSeg_refl {s : HSeg} (h : SegOk s) : bitextref26_SameSegment s s = some true := by
  unfold bitextref26_SameSegment
  refine ifT (by simp) (ifT (by simp) (ifT (by simp) (ifT (by simp) (ifT (by simp) (callT (same_refl h) (by simp))))))
theorem mem_getD {xs : List HStep0} {i : Nat} (hi : i < xs.length) : xs.getD i ((0, 0, 0, (0, 0), 0, none, [], 0, false), (0, 0, 0, (0, 0), 0, none, [], 0, false), [], 0, false) ∈ xs := by
  rw [List.getD_eq_getElem?_getD, List.getElem?_eq_getElem hi]
  exact List.getElem_mem hi
theorem sameSteps_refl {o : Option (List HStep0)} (h : ∀ x ∈ o.getD [], StepOk x) (hl : (o.getD []).length ≤ 68719476736) : bitextref28_SameSteps o o = some true := by
  unfold bitextref28_SameSteps
  refine ifF (by simp) (callT (v := .inr ()) ?_ rfl)
  refine loopR_range (f := bitextref28_SameSteps_l0 o o) (o.getD []).length (fun i => (i : Int)) (r := .inr ()) ?_ ?_ (Nat.lt_of_le_of_lt hl (by decide))
  · intro i hi
    unfold bitextref28_SameSteps_l0
    have hb : decide (0 ≤ (i : Int) ∧ (i : Int) < lenI (o.getD [])) = true := decide_eq_true (by rw [lenI_eq]; omega)
    have hx := h _ (mem_getD hi)
    rw [Int.toNat_natCast]
    generalize (o.getD []).getD i ((0, 0, 0, (0, 0), 0, none, [], 0, false), (0, 0, 0, (0, 0), 0, none, [], 0, false), [], 0, false) = x at hx
    refine dcT (by rw [lenI_eq]; omega) (ifT hb (ifT hb (callT (sameSeg_refl hx.1) (ifF (by simp) (ifT hb (ifT hb (callT (sameSeg_refl hx.2) (ifT ?_ (ifF ?_ ?_)))))))))
    · rw [hb]; simp
    · simp
    · rw [wrap_i64 (by omega) (by omega)]
      simp
  · unfold bitextref28_SameSteps_l0
    exact dcF (by rw [lenI_eq]; omega) rfl
def plainS (s : HSeg) : HSeg := (s.1, s.2.1, s.2.2.1, s.2.2.2.1, if s.2.2.2.2.2.2.1 = [] then 0 else s.2.2.2.2.1, if s.2.2.2.2.2.2.1 = [] then none else s.2.2.2.2.2.1, s.2.2.2.2.2.2.1, if s.2.2.2.2.2.2.1 = [] then 0 else s.2.2.2.2.2.2.2.1, s.2.2.2.2.2.2.2.2)
theorem plainS_ok {s : HSeg} (h : SegOk s) : SegOk (plainS s) := by
  unfold SegOk plainS at *
  dsimp only
  split
  · simp
  · exact h
theorem r28plain_eq (s : HSeg) : bitextref28_Plain s = some (plainS s) := by
  unfold bitextref28_Plain plainS
  simp only [decide_eq_true_eq]
theorem plain_eq {s : HSeg} (h : SegOk s) : history_Plain s = some (plainS s) := by
  unfold history_Plain
  have e : ∀ t, t = plainS s → view_Segment t = some (plainS s) := fun t ht => by rw [ht]; exact segment_eq (plainS_ok h)
  refine callT (e _ ?_) rfl
  unfold plainS
  simp only [decide_eq_true_eq]
theorem plain_idem (s : HSeg) : plainS (plainS s) = plainS s := by
  unfold plainS
  by_cases h : s.2.2.2.2.2.2.1 = [] <;> simp [h]
def ListOk (o : Option (List HStep0)) : Prop := (∀ x ∈ o.getD [], StepOk x) ∧ (o.getD []).length ≤ 68719476735
theorem filter_ok {o : Option (List HStep0)} (h : ListOk o) (p : HStep0 → Bool) : ListOk (accL ((o.getD []).filter p)) := by
  refine ⟨fun x hx => ?_, ?_⟩
  · rw [accL_getD] at hx
    exact h.1 x (List.mem_filter.1 hx).1
  · rw [accL_getD]
    exact Nat.le_trans (List.length_filter_le _ _) h.2
theorem lists_l1 {l r : Option (List HStep0)} {seg : Int} {s1 : Int} (h : ListOk ([l, r].getD (0 + s1.toNat) none)) :
    loopR (bitextlaw30_HistoryLists_l1 l seg r s1) 0 = some (.inr ()) := by
  refine loopR_range (f := bitextlaw30_HistoryLists_l1 l seg r s1) 3 (fun i => (i : Int)) (r := .inr ()) ?_ ?_ (by decide)
  · intro i hi
    unfold bitextlaw30_HistoryLists_l1
    refine dcT (by show (i : Int) < 3; omega) (ifT (guard0 (xs := [seg, 1, 2]) hi) (callT (of_eq h.1 h.2) (callT (r28of_eq h.2) (sfT (sfT (callT (sameSteps_refl (filter_ok h _).1 (Nat.le_succ_of_le (filter_ok h _).2)) (ifF (by simp) ?_)))))))
    rw [wrap_i64 (by omega) (by omega)]
    simp
  · unfold bitextlaw30_HistoryLists_l1
    exact dcF (by show ¬ ((3 : Nat) : Int) < 3; omega) rfl
theorem lists_l0 {l r : Option (List HStep0)} {seg : Int} (h1 : ListOk l) (h2 : ListOk r) :
    loopR (bitextlaw30_HistoryLists_l0 l seg r) 0 = some (.inr ()) := by
  refine loopR_range (f := bitextlaw30_HistoryLists_l0 l seg r) 2 (fun i => (i : Int)) (r := .inr ()) ?_ ?_ (by decide)
  · intro i hi
    unfold bitextlaw30_HistoryLists_l0
    refine dcT (by show (i : Int) < 2; omega) (ifT (guard0 (xs := [l, r]) hi) (callT (lists_l1 ?_) ?_))
    · have : i = 0 ∨ i = 1 := by omega
      rcases this with rfl | rfl
      · exact h1
      · exact h2
    · show some (Sum.inl _) = _
      rw [wrap_i64 (by omega) (by omega)]
      simp
  · unfold bitextlaw30_HistoryLists_l0
    exact dcF (by show ¬ ((2 : Nat) : Int) < 2; omega) rfl
/-- HistoryLists, from what 'steps' gives -/
theorem lists_core {l : Option (List HStep0)} {seg : Int} {x : HSeg} {k : Option (List Int)} (hl : ListOk l) (hx : SegOk x) {b : Bool} (hlong : bitextlaw30_long (some [k]) = some b) {b' : Bool} (hbig : bitextlaw30_big l = some b')
    (hs : b = false → ∃ r, bitextlaw30_steps k = some r ∧ ListOk r) : bitextlaw30_HistoryLists l seg x k = some true := by
  unfold bitextlaw30_HistoryLists
  refine callT hlong ?_
  cases b with
  | true => exact ifT rfl (callT known30 rfl)
  | false =>
    obtain ⟨r, hr, hrk⟩ := hs rfl
    refine ifF (by simp) (callT hbig ?_)
    by_cases hb : (b' || decide (lenI (x.snd.snd.snd.snd.snd.fst.getD []) > 50)) = true
    · exact ifT hb (callT known30 rfl)
    · refine ifF hb (callT hr (callT (lists_l0 hl hrk) ?_))
      show callO (history_Plain x) _ = _
      refine callT (plain_eq hx) (callT (r28plain_eq x) (callT (sameSeg_refl (plainS_ok hx)) (ifT rfl (callT (plain_eq (plainS_ok hx)) ?_))))
      rw [plain_idem]
      refine callT (sameSeg_refl (plainS_ok hx)) (ifT rfl ?_)
      by_cases hn : x.snd.snd.snd.snd.snd.snd.fst = []
      · exact dcT hn (callT known30 rfl)
      · refine dcF hn (callT (v := true) ?_ (ifT rfl (callT known30 rfl)))
        rw [show (plainS x).snd.snd.snd.snd.snd.fst = x.snd.snd.snd.snd.snd.fst by unfold plainS; simp [hn]]
        exact same_refl hx
end Go.Fn
/- Plain laws of the makers of inputs: numbers one after another. -/
namespace Go.Fn
open Go Go.Vs Go.Ve
/-- numbers that are left, of which c are used -/
def Num (s : Option (List Int) × Int) (c : Int) : Prop := (∀ x ∈ s.1.getD [], In64 x) ∧ 0 ≤ s.2 ∧ s.2 ≤ c
theorem Num.le {s : Option (List Int) × Int} {c d : Int} (h : Num s c) (hd : c ≤ d) : Num s d := ⟨h.1, h.2.1, by have := h.2.2; omega⟩
theorem Num.at {L : Option (List Int)} {k c k' c' : Int} (h : Num (L, k) c) (h0 : 0 ≤ k') (h1 : k' ≤ c') : Num (L, k') c' := ⟨h.1, h0, h1⟩
theorem Next_ok {L : Option (List Int)} {k c n : Int} (h : Num (L, k) c) (hc : c ≤ 1099511627776) (hn : 1 ≤ n) (hn2 : n ≤ 4611686018427387904) :
    Ok (bitextmake_Numbers_Next n (L, k)) fun r => 0 ≤ r.1 ∧ r.1 < n ∧ Num (L, r.2) (c + 1) := by
  obtain ⟨h1, h2, h3⟩ := h
  simp only at h1 h2 h3
  unfold bitextmake_Numbers_Next
  show Ok (if (!decide (k < lenI (L.getD [])) || decide (0 ≤ k ∧ k < lenI (L.getD []))) = true then callO (bitextmake_Place (if decide (k < lenI (L.getD [])) = true then (L.getD []).getD k.toNat 0 else 0) n) (fun r0 => some (r0, IntKind.i64.wrap (k + 1))) else none) _
  have hl : lenI (L.getD []) = ((L.getD []).length : Int) := rfl
  refine Ok.pos ?_ ?_
  · rw [Bool.or_eq_true, Bool.not_eq_true', decide_eq_false_iff_not, decide_eq_true_iff]
    omega
  · have hx : In64 (if decide (k < lenI (L.getD [])) = true then (L.getD []).getD k.toNat 0 else 0) := by
      split
      · rename_i hk
        have hk := of_decide_eq_true hk
        have hlt : k.toNat < (L.getD []).length := by omega
        rw [List.getD_eq_getElem?_getD, List.getElem?_eq_getElem hlt]
        exact h1 _ (List.getElem_mem hlt)
      · unfold In64; omega
    rw [place_eq hx hn hn2, callO_some]
    refine Ok.ret ⟨Int.emod_nonneg _ (show n ≠ 0 by omega), Int.emod_lt_of_pos _ (show 0 < n by omega), ?_⟩
    rw [wrap_i64 (by omega) (by omega)]
    exact ⟨h1, by simp only; omega, by simp only; omega⟩
/-- a text taken out of a table -/
theorem table_ok {ws : List (List UInt8)} {x n : Int} (Q : List UInt8 → Prop) (h0 : 0 ≤ x) (h1 : x < n) (hn : n = ws.length) (h : ∀ w ∈ ws, Q w) : Q (ws.getD (0 + x.toNat) []) := by
  have : 0 + x.toNat < ws.length := by omega
  rw [List.getD_eq_getElem?_getD, List.getElem?_eq_getElem this]
  exact h _ (List.getElem_mem this)
end Go.Fn
/- History: what 'steps' gives is well-formed. -/
namespace Go.Fn
open Go Go.Vs Go.Ve
theorem cnt_total {f : Int × Int → Option ((Int × Int) ⊕ Int)} (n : Nat) (g : Int × Int → Int) (hn : n ≤ 4611686018427387904)
    (hf : ∀ s, f s = if decide (s.2 < (n : Int)) = true then if decide (0 ≤ s.2 ∧ s.2 < (n : Int)) = true then some (.inl (g s, IntKind.i64.wrap (s.2 + 1))) else none else some (.inr s.1)) (a : Int) : ∃ r, loopR f (a, 0) = some r := by
  have := loopR_inv (f := f) (fun s => 0 ≤ s.2 ∧ s.2 ≤ (n : Int)) (fun s => (n - s.2).toNat) (fun _ => True) ?_ (a, 0) ⟨by simp, by simp⟩ ?_
  · obtain ⟨r, h, _⟩ := this
    exact ⟨r, h⟩
  · rintro ⟨a, i⟩ ⟨h0, h1⟩
    simp only at h0 h1
    rw [hf]
    by_cases h : i < (n : Int)
    · rw [if_pos (decide_eq_true h), if_pos (decide_eq_true ⟨h0, h⟩)]
      simp only
      rw [wrap_i64 (by omega) (by omega)]
      omega
    · rw [if_neg (by simpa using h)]
      trivial
  · simp only
    exact Nat.lt_of_le_of_lt (show _ ≤ 4611686018427387904 by omega) (by decide)
theorem long_total (l : Option (List (Option (List Int)))) (h : (l.getD []).length ≤ 4611686018427387904) : ∃ b, bitextlaw30_long l = some b := by
  obtain ⟨r, hr⟩ := cnt_total (f := bitextlaw30_long_l0 l) (l.getD []).length _ h (fun s => rfl) 0
  exact ⟨_, callT hr rfl⟩
theorem big_total (l : Option (List HStep0)) (h : (l.getD []).length ≤ 4611686018427387904) : ∃ b, bitextlaw30_big l = some b := by
  obtain ⟨r, hr⟩ := cnt_total (f := bitextlaw30_big_l0 l) (l.getD []).length _ h (fun s => rfl) (lenI (l.getD []))
  exact ⟨_, callT hr rfl⟩
theorem step1_ok {L : Option (List Int)} {k c id : Int} (h : Num (L, k) c) (hc : c ≤ 1000000) : Ok (bitextlaw30_step_1 id (L, k)) fun r => SegOk r.1 ∧ Num (L, r.2) (c + 2) := by
  unfold bitextlaw30_step_1
  refine Ok.call (Next_ok h (by omega) (by decide) (by decide)) fun r hr => ?_
  obtain ⟨r0, r1, rn⟩ := hr
  refine Ok.grd ⟨r0, r1⟩ (Ok.pos (by rw [nlt_iff]; omega) ?_)
  refine Ok.call (R := fun r2 => (r2.2.2.2.2.2.1.getD []).length ≤ 1) (Ok.of_eq rfl (by simp)) fun r2 hr2 => ?_
  refine Ok.call (Next_ok rn (by omega) (by decide) (by decide)) fun r3 hr3 => Ok.ret ⟨?_, hr3.2.2.le (by omega)⟩
  unfold SegOk
  show (r2.2.2.2.2.2.1.getD []).length ≤ _
  omega
theorem step_ok {L : Option (List Int)} {k c : Int} (h : Num (L, k) c) (hc : c ≤ 100000) : Ok (bitextlaw30_step (L, k)) fun r => StepOk r.1 ∧ Num (L, r.2) (c + 6) := by
  unfold bitextlaw30_step
  refine Ok.call (Next_ok h (by omega) (by decide) (by decide)) fun r hr => ?_
  refine Ok.call (step1_ok hr.2.2 (by omega)) fun r2 h2 => ?_
  refine Ok.call (step1_ok h2.2 (by omega)) fun r3 h3 => ?_
  refine Ok.call (Next_ok h3.2 (by omega) (by decide) (by decide)) fun r4 h4 => Ok.ret ⟨⟨h2.1, h3.1⟩, h4.2.2.le (by omega)⟩
theorem r28record_loop {l : Option (List HStep0)} {s : HStep0} (hl : (l.getD []).length ≤ 68719476735) : loopR (bitextref28_Record_l0 l s) (none, 0) = some (accL ((l.getD []).filter (keepP s.2.1.1))) := by
  have hloop : loopR (bitextref28_Record_l0 l s) (none, 0) = some (accL ((l.getD []).filter (keepP s.2.1.1))) := by
    have := loopR_range (f := bitextref28_Record_l0 l s) (l.getD []).length (fun i => (accL (((l.getD []).take i).filter (keepP s.2.1.1)), (i : Int))) (r := accL ((l.getD []).filter (keepP s.2.1.1))) ?_ ?_ ?_
    · simpa [accL] using this
    · intro i hi
      unfold bitextref28_Record_l0
      dsimp only
      have hx : (l.getD []).getD ((i : Int)).toNat ((0, 0, 0, (0, 0), 0, none, [], 0, false), (0, 0, 0, (0, 0), 0, none, [], 0, false), [], 0, false) = (l.getD [])[i] := by
        rw [Int.toNat_natCast, List.getD_eq_getElem?_getD, List.getElem?_eq_getElem hi]; rfl
      have hw : IntKind.i64.wrap ((i : Int) + 1) = ((i + 1 : Nat) : Int) := by
        rw [wrap_i64 (by omega) (by omega)]; omega
      have hlen : (((l.getD []).take i).filter (keepP s.2.1.1)).length ≤ i := Nat.le_trans (List.length_filter_le _ _) (by simp; omega)
      have htake : (l.getD []).take (i + 1) = (l.getD []).take i ++ [(l.getD [])[i]] := by rw [List.take_add_one, List.getElem?_eq_getElem hi]; rfl
      have hacc : ((accL (((l.getD []).take i).filter (keepP s.2.1.1))).getD []).length = (((l.getD []).take i).filter (keepP s.2.1.1)).length := by
        cases ((l.getD []).take i).filter (keepP s.2.1.1) <;> rfl
      have hb : decide (0 ≤ (i : Int) ∧ (i : Int) < lenI (l.getD [])) = true := decide_eq_true (by rw [lenI_eq]; omega)
      have hc : decide ((((l.getD []).take i).filter (keepP s.2.1.1)).length + 1 ≤ 68719476736) = true := decide_eq_true (by omega)
      refine dcT (by rw [lenI_eq]; omega) (ifT ?_ ?_)
      · rw [hb, hacc, hx]
        simp [hc]
        omega
      · rw [hw, hx, accL_snoc, htake, List.filter_append, List.filter_cons, List.filter_nil]
        show some (Sum.inl (if keepP s.2.1.1 (l.getD [])[i] = true then _ else _, _)) = _
        cases hk : keepP s.2.1.1 (l.getD [])[i] <;> simp
    · unfold bitextref28_Record_l0
      refine dcF (by rw [lenI_eq]; omega) ?_
      simp
    · have : (l.getD []).length < 68719476736 := by omega
      exact Nat.lt_of_lt_of_le this (by decide)
  exact hloop
/-- a list of at most n steps that lie plain -/
def ListN (n : Int) (o : Option (List HStep0)) : Prop := (∀ x ∈ o.getD [], StepOk x) ∧ ((o.getD []).length : Int) ≤ n
theorem ListN.ok {n : Int} {o : Option (List HStep0)} (h : ListN n o) (hn : n ≤ 1000000) : ListOk o := ⟨h.1, by have := h.2; omega⟩
theorem ListN.le {n m : Int} {o : Option (List HStep0)} (h : ListN n o) (hm : n ≤ m) : ListN m o := ⟨h.1, by have := h.2; omega⟩
theorem ListN.nil {n : Int} (hn : 0 ≤ n) : ListN n none := ⟨by simp, by simpa using hn⟩
theorem r28record_ok {n : Int} {l : Option (List HStep0)} {s : HStep0} (h : ListN n l) (hn : n ≤ 1000000) (hs : StepOk s) : Ok (bitextref28_Record l s) fun r => ListN (n + 1) r.1 := by
  have hlen := (h.ok hn).2
  have h2 := h.2
  have hf : ((l.getD []).filter (keepP s.2.1.1)).length ≤ (l.getD []).length := List.length_filter_le _ _
  unfold bitextref28_Record
  refine Ok.ite (fun _ => Ok.ret (ListN.nil (by omega))) fun _ => ?_
  rw [r28record_loop hlen, callO_some, accL_getD]
  refine Ok.dec (fun _ => Ok.ret (ListN.nil (by omega))) fun _ => ?_
  rw [r28plain_eq, callO_some, r28plain_eq, callO_some]
  refine Ok.pos ?_ (Ok.ret ⟨?_, ?_⟩)
  · simp
    omega
  · intro x hx
    simp only [Option.getD_some, List.mem_append, List.mem_singleton] at hx
    rcases hx with hx | rfl
    · exact h.1 x (List.mem_filter.1 hx).1
    · exact ⟨plainS_ok hs.1, plainS_ok hs.2⟩
  · simp only [Option.getD_some, List.length_append, List.length_singleton]
    omega
theorem getD_ok {n : Int} {l : Option (List HStep0)} (h : ListN n l) {i : Nat} (hi : i < (l.getD []).length) : StepOk ((l.getD []).getD i ((0, 0, 0, (0, 0), 0, none, [], 0, false), (0, 0, 0, (0, 0), 0, none, [], 0, false), [], 0, false)) := h.1 _ (mem_getD hi)
theorem marked_ok {n : Int} {l : Option (List HStep0)} (h : ListN n l) (hn : n ≤ 1000000) {i : Int} (b : Bool) (h0 : 0 ≤ i) (h1 : i < ((l.getD []).length : Int)) : Ok (bitextref28_marked l i b) fun r => ListN n r := by
  have h2 := h.2
  unfold bitextref28_marked
  simp only [List.nil_append, Nat.zero_add]
  refine Ok.pos (by simp; omega) (Ok.pos ?_ (Ok.ret ⟨fun x hx => ?_, ?_⟩))
  · rw [Bool.and_eq_true, decide_eq_true_iff, nlt_iff, lenI_eq]
    omega
  · simp only [Option.getD_some] at hx
    rcases List.mem_or_eq_of_mem_set hx with hx | rfl
    · exact h.1 x hx
    · exact getD_ok h (by omega)
  · simpa using h2
theorem r28last_ok {n : Int} {l : Option (List HStep0)} (h : ListN n l) (hn : n ≤ 1000000) (seg : Int) : Ok (bitextref28_lastDone l seg) fun r => -1 ≤ r ∧ r < ((l.getD []).length : Int) := by
  have h2 := h.2
  unfold bitextref28_lastDone
  refine Ok.call (R := fun r => -1 ≤ r ∧ r < ((l.getD []).length : Int)) (Ok.loop (fun s => 0 ≤ s.2 ∧ s.2 ≤ ((l.getD []).length : Int) ∧ -1 ≤ s.1 ∧ s.1 < ((l.getD []).length : Int)) (fun s => (((l.getD []).length : Int) - s.2).toNat) ⟨by simp, by simp, by simp, by simp only; omega⟩ ?_ ?_) fun r hr => Ok.ret hr
  · simp only
    exact Nat.lt_of_le_of_lt (show _ ≤ 1000000 by omega) (by decide)
  · rintro ⟨a, i⟩ ⟨g0, g1, g2, g3⟩
    simp only at g0 g1 g2 g3
    unfold bitextref28_lastDone_l0
    refine Ok.dec (fun hi => ?_) (fun hi => Ok.ret ⟨g2, g3⟩)
    simp only [lenI_eq] at hi
    refine Ok.grd ⟨g0, hi⟩ (Ok.ret ?_)
    simp only
    rw [wrap_i64 (by omega) (by omega)]
    refine ⟨⟨by omega, by omega, ?_, ?_⟩, by omega⟩
    · split <;> omega
    · split <;> omega
theorem r28undo_ok {n : Int} {l : Option (List HStep0)} (h : ListN n l) (hn0 : 0 ≤ n) (hn : n ≤ 1000000) (seg : Int) : Ok (bitextref28_Undo l seg) fun r => ListN n r.1 := by
  unfold bitextref28_Undo
  refine Ok.call (r28last_ok h hn seg) fun r hr => ?_
  refine Ok.dec (fun _ => Ok.ret (ListN.nil hn0)) fun hr0 => ?_
  have hb : decide (0 ≤ r ∧ r < lenI (l.getD [])) = true := decide_eq_true (by rw [lenI_eq]; omega)
  refine Ok.pos (by rw [hb]; rfl) (Ok.ite (fun _ => Ok.ret (ListN.nil hn0)) fun _ => ?_)
  refine Ok.call (marked_ok h hn true (by omega) hr.2) fun r2 h2 => Ok.pos (by rw [hb]; simp) (Ok.pos (by simp) (Ok.ret h2))
theorem r28redo_ok {n : Int} {l : Option (List HStep0)} (h : ListN n l) (hn0 : 0 ≤ n) (hn : n ≤ 1000000) (seg : Int) : Ok (bitextref28_Redo l seg) fun r => ListN n r.1 := by
  have h2 := h.2
  unfold bitextref28_Redo
  refine Ok.call (r28last_ok h hn seg) fun r hr => ?_
  refine Ok.call (R := fun r => match r with | .inl q => ListN n q.1 | .inr _ => True) (Ok.loop (fun s => 0 ≤ s ∧ s ≤ ((l.getD []).length : Int)) (fun s => (((l.getD []).length : Int) - s).toNat) ?_ ?_ ?_) ?_
  · rw [wrap_i64 (by omega) (by omega)]; omega
  · rw [wrap_i64 (by omega) (by omega)]
    exact Nat.lt_of_le_of_lt (show _ ≤ 1000000 by omega) (by decide)
  · rintro i ⟨g0, g1⟩
    unfold bitextref28_Redo_l0
    refine Ok.dec (fun hi => ?_) (fun hi => Ok.ret trivial)
    simp only [lenI_eq] at hi
    have hb : decide (0 ≤ i ∧ i < lenI (l.getD [])) = true := decide_eq_true (by rw [lenI_eq]; omega)
    refine Ok.pos hb (Ok.ite (fun _ => ?_) fun _ => Ok.ret ?_)
    · exact Ok.call (marked_ok h hn false g0 hi) fun q hq => Ok.pos (by rw [hb]; simp) (Ok.ret hq)
    · simp only
      rw [wrap_i64 (by omega) (by omega)]
      omega
  · rintro (q | _) hq
    · exact Ok.pos (by simp) (Ok.ret hq)
    · exact Ok.ret (ListN.nil hn0)
/-- what 'steps' gives: at most twelve steps, all of them plain -/
theorem steps_ok {k : Option (List Int)} (hk : ∀ x ∈ k.getD [], In64 x) : Ok (bitextlaw30_steps k) (ListN 12) := by
  unfold bitextlaw30_steps
  refine Ok.call (R := fun r => r = (k, 0)) (Ok.of_eq rfl rfl) fun r hr => ?_
  subst hr
  refine Ok.call (Next_ok (c := 0) (n := 12) ⟨hk, by simp, by simp⟩ (by decide) (by decide) (by decide)) fun r2 h2 => ?_
  obtain ⟨g0, g1, gn⟩ := h2
  refine Ok.call (R := ListN 12) (Ok.loop (fun s => 0 ≤ s.2.1 ∧ s.2.1 ≤ 12 ∧ ListN (12 - s.2.1) s.1 ∧ Num (k, s.2.2) (1 + 8 * (12 - s.2.1))) (fun s => s.2.1.toNat) ⟨g0, by simp only; omega, ListN.nil (by simp only; omega), gn.le (by simp only; omega)⟩ ?_ ?_) fun r hr => Ok.ret hr
  · exact Nat.lt_of_le_of_lt (show _ ≤ 1000000 by simp only; omega) (by decide)
  · rintro ⟨l, m, p⟩ ⟨h0, h1, hl, hn⟩
    simp only at h0 h1 hl hn
    unfold bitextlaw30_steps_l0
    refine Ok.dec (fun hm => ?_) (fun hm => Ok.ret (hl.le (by omega)))
    simp only at hm
    have hw : IntKind.i64.wrap (m - 1) = m - 1 := wrap_i64 (by omega) (by omega)
    refine Ok.call (step_ok hn (by omega)) fun r2 h2 => ?_
    refine Ok.call (r28record_ok hl (by omega) h2.1) fun r3 h3 => ?_
    refine Ok.pos (by simp) (Ok.call (Next_ok h2.2 (by omega) (by decide) (by decide)) fun r4 h4 => ?_)
    have fin : ∀ (q : Option (List HStep0)) (j : Int) (c : Int), ListN (12 - m + 1) q → Num (k, j) c → c ≤ 1 + 8 * (12 - (m - 1)) → 0 ≤ m - 1 ∧ m - 1 ≤ 12 ∧ ListN (12 - (m - 1)) q ∧ Num (k, j) (1 + 8 * (12 - (m - 1))) := fun q j c a b d => ⟨by omega, by omega, a.le (by omega), b.le d⟩
    refine Ok.ite (fun _ => ?_) fun _ => Ok.ite (fun _ => ?_) fun _ => ?_
    · refine Ok.call (Next_ok h4.2.2 (by omega) (by decide) (by decide)) fun r5 h5 => ?_
      refine Ok.call (r28undo_ok hl (by omega) (by omega) _) fun r6 h6 => Ok.pos (by simp) (Ok.ret ?_)
      simp only [hw]
      refine ⟨fin _ _ _ ?_ h5.2.2 (by omega), by omega⟩
      split
      · exact h6.le (by omega)
      · exact hl.le (by omega)
    · refine Ok.call (Next_ok h4.2.2 (by omega) (by decide) (by decide)) fun r5 h5 => ?_
      refine Ok.call (r28redo_ok hl (by omega) (by omega) _) fun r6 h6 => Ok.pos (by simp) (Ok.ret ?_)
      simp only [hw]
      refine ⟨fin _ _ _ ?_ h5.2.2 (by omega), by omega⟩
      split
      · exact h6.le (by omega)
      · exact hl.le (by omega)
    · refine Ok.pos (by simp) (Ok.ret ?_)
      simp only [hw]
      refine ⟨fin _ _ _ ?_ h4.2.2 (by omega), by omega⟩
      split
      · exact h3
      · exact hl.le (by omega)
theorem lists_holds {l : Option (List HStep0)} (seg : Int) {x : HSeg} {k : Option (List Int)} (hl : ListOk l) (hx : SegOk x) (hk : ∀ x ∈ k.getD [], In64 x) : bitextlaw30_HistoryLists l seg x k = some true := by
  obtain ⟨b, hb⟩ := long_total (some [k]) (by simp)
  obtain ⟨b', hb'⟩ := big_total l (by have := hl.2; omega)
  refine lists_core hl hx hb hb' fun _ => ?_
  obtain ⟨r, hr, h⟩ := steps_ok hk
  exact ⟨r, hr, h.ok (by omega)⟩
end Go.Fn
/- History: arguments that are small enough. -/
namespace Go.Fn
open Go Go.Vs Go.Ve
abbrev itemTy : Ty := .pair (.int .i64) (.pair .str (.int .i64))
abbrev segTy : Ty := .pair (.int .i64) (.pair (.int .i64) (.pair (.int .i64) (.pair (.pair (.int .i64) (.int .i64)) (.pair (.int .i64) (.pair (.sl itemTy) (.pair .str (.pair (.int .i64) .bool)))))))
abbrev stepTy : Ty := .pair segTy (.pair segTy (.pair .str (.pair (.int .i64) .bool)))
theorem sumLe {α : Type} {f : α → Nat} : ∀ {l : List α} {x : α}, x ∈ l → f x ≤ (l.map f).sum
  | y :: l, x, h => by
    simp only [List.map_cons, List.sum_cons]
    rcases List.mem_cons.1 h with rfl | h
    · omega
    · have := sumLe (f := f) h; omega
theorem seg_bulk (s : HSeg) : (s.2.2.2.2.2.1.getD []).length ≤ bulkT segTy s := by
  have h := bulk_sl (r := itemTy) s.2.2.2.2.2.1
  show _ ≤ 1 + (1 + (1 + ((1 + 1) + (1 + (bulkT (.sl itemTy) s.2.2.2.2.2.1 + ((s.2.2.2.2.2.2.1.length + 1) + (1 + 1)))))))
  omega
theorem SegOk_of {s : HSeg} (h : bulkT segTy s ≤ 1048576) : SegOk s := Nat.le_trans (seg_bulk s) (by omega)
theorem ListOk_of {o : Option (List HStep0)} (hb : bulkT (.sl stepTy) o ≤ 1048576) : ListOk o := by
  refine ⟨fun x hx => ?_, Nat.le_trans (len_sl hb) (by decide)⟩
  cases o with
  | none => cases hx
  | some xs =>
    have h1 : bulkT stepTy x ≤ (xs.map (bulkT stepTy)).sum := sumLe hx
    have h2 : (xs.map (bulkT stepTy)).sum ≤ bulkT (.sl stepTy) (some xs) := Nat.le_add_right _ _
    have h3 : bulkT segTy x.1 ≤ bulkT stepTy x := Nat.le_add_right _ _
    have h4 : bulkT segTy x.2.1 ≤ bulkT stepTy x := by
      show _ ≤ bulkT segTy x.1 + (bulkT segTy x.2.1 + _)
      omega
    exact ⟨SegOk_of (by omega), SegOk_of (by omega)⟩
end Go.Fn
/- bitext/bitextlaw30.HistoryRecords -/
namespace Go.Fn
open Go Go.Vs Go.Ve
set_option linter.unusedVariables false
def bitextlaw30_HistoryRecords_l1 : Option
      (List
        ((Int × Int × Int × (Int × Int) × Int × Option (List (Int × List UInt8 × Int)) × List UInt8 × Int × Bool) ×
          (Int × Int × Int × (Int × Int) × Int × Option (List (Int × List UInt8 × Int)) × List UInt8 × Int × Bool) ×
            List UInt8 × Int × Bool)) →
    (Int × Int × Int × (Int × Int) × Int × Option (List (Int × List UInt8 × Int)) × List UInt8 × Int × Bool) ×
        (Int × Int × Int × (Int × Int) × Int × Option (List (Int × List UInt8 × Int)) × List UInt8 × Int × Bool) ×
          List UInt8 × Int × Bool →
      Option
          (List
            ((Int × Int × Int × (Int × Int) × Int × Option (List (Int × List UInt8 × Int)) × List UInt8 × Int × Bool) ×
              (Int × Int × Int × (Int × Int) × Int × Option (List (Int × List UInt8 × Int)) × List UInt8 × Int × Bool) ×
                List UInt8 × Int × Bool)) →
        ((Int × Int × Int × (Int × Int) × Int × Option (List (Int × List UInt8 × Int)) × List UInt8 × Int × Bool) ×
              (Int × Int × Int × (Int × Int) × Int × Option (List (Int × List UInt8 × Int)) × List UInt8 × Int × Bool) ×
                List UInt8 × Int × Bool) ×
            Int →
          Int × Int → Int → Int → Option (Int ⊕ Bool ⊕ Unit) :=
  fun l x r1 r2 r3 s1 s2 =>
    if decide (s2 < lenI [l, r1]) = true then
      if (decide (0 ≤ s2 ∧ s2 < lenI [l, r1]) && nlt (0 + s2.toNat) [l, r1].length) = true then
        callO
          (history_Record ([l, r1].getD (0 + s2.toNat) none)
            ([x, r2.fst, ((IntKind.i64.wrap (1 + r3.fst), r2.fst.fst.snd), r2.fst.snd)].getD (0 + s1.toNat)
              ((0, 0, 0, (0, 0), 0, none, [], 0, false), (0, 0, 0, (0, 0), 0, none, [], 0, false), [], 0, false)))
          fun r4 =>
          if
              (r4.fst.isSome == r4.fst.isSome &&
                  (r4.fst.isSome == r4.fst.isSome && r4.fst.isSome == r4.fst.isSome)) =
                true then
            callO
              (bitextref28_Record ([l, r1].getD (0 + s2.toNat) none)
                ([x, r2.fst, ((IntKind.i64.wrap (1 + r3.fst), r2.fst.fst.snd), r2.fst.snd)].getD (0 + s1.toNat)
                  ((0, 0, 0, (0, 0), 0, none, [], 0, false), (0, 0, 0, (0, 0), 0, none, [], 0, false), [], 0, false)))
              fun r5 =>
              if
                  (r5.fst.isSome == r5.fst.isSome &&
                      (r5.fst.isSome == r5.fst.isSome && r5.fst.isSome == r5.fst.isSome)) =
                    true then
                if (r4.snd != r5.snd) = true then some (Sum.inr (Sum.inl false))
                else
                  if (r4.fst.isSome == r4.fst.isSome) = true then
                    if (r5.fst.isSome == r5.fst.isSome) = true then
                      callO (bitextref28_SameSteps r4.fst r5.fst) fun r6 =>
                        if (!r6) = true then some (Sum.inr (Sum.inl false))
                        else some (Sum.inl (IntKind.i64.wrap (s2 + 1)))
                    else none
                  else none
              else none
          else none
      else none
    else some (Sum.inr (Sum.inr ()))
def bitextlaw30_HistoryRecords_l0 : Option
      (List
        ((Int × Int × Int × (Int × Int) × Int × Option (List (Int × List UInt8 × Int)) × List UInt8 × Int × Bool) ×
          (Int × Int × Int × (Int × Int) × Int × Option (List (Int × List UInt8 × Int)) × List UInt8 × Int × Bool) ×
            List UInt8 × Int × Bool)) →
    (Int × Int × Int × (Int × Int) × Int × Option (List (Int × List UInt8 × Int)) × List UInt8 × Int × Bool) ×
        (Int × Int × Int × (Int × Int) × Int × Option (List (Int × List UInt8 × Int)) × List UInt8 × Int × Bool) ×
          List UInt8 × Int × Bool →
      Option
          (List
            ((Int × Int × Int × (Int × Int) × Int × Option (List (Int × List UInt8 × Int)) × List UInt8 × Int × Bool) ×
              (Int × Int × Int × (Int × Int) × Int × Option (List (Int × List UInt8 × Int)) × List UInt8 × Int × Bool) ×
                List UInt8 × Int × Bool)) →
        ((Int × Int × Int × (Int × Int) × Int × Option (List (Int × List UInt8 × Int)) × List UInt8 × Int × Bool) ×
              (Int × Int × Int × (Int × Int) × Int × Option (List (Int × List UInt8 × Int)) × List UInt8 × Int × Bool) ×
                List UInt8 × Int × Bool) ×
            Int →
          Int × Int → Int → Option (Int ⊕ Bool ⊕ Unit) :=
  fun l x r1 r2 r3 s1 =>
    if decide (s1 < lenI [x, r2.fst, ((IntKind.i64.wrap (1 + r3.fst), r2.fst.fst.snd), r2.fst.snd)]) = true then
      if
          (decide (0 ≤ s1 ∧ s1 < lenI [x, r2.fst, ((IntKind.i64.wrap (1 + r3.fst), r2.fst.fst.snd), r2.fst.snd)]) &&
              nlt (0 + s1.toNat) [x, r2.fst, ((IntKind.i64.wrap (1 + r3.fst), r2.fst.fst.snd), r2.fst.snd)].length) =
            true then
        callO (loopR (bitextlaw30_HistoryRecords_l1 l x r1 r2 r3 s1) 0) fun r4 =>
          sumO r4 (fun r5 => some (Sum.inr (Sum.inl r5))) fun r6 => some (Sum.inl (IntKind.i64.wrap (s1 + 1)))
      else none
    else some (Sum.inr (Sum.inr ()))
def bitextlaw30_HistoryRecords : Option
      (List
        ((Int × Int × Int × (Int × Int) × Int × Option (List (Int × List UInt8 × Int)) × List UInt8 × Int × Bool) ×
          (Int × Int × Int × (Int × Int) × Int × Option (List (Int × List UInt8 × Int)) × List UInt8 × Int × Bool) ×
            List UInt8 × Int × Bool)) →
    (Int × Int × Int × (Int × Int) × Int × Option (List (Int × List UInt8 × Int)) × List UInt8 × Int × Bool) ×
        (Int × Int × Int × (Int × Int) × Int × Option (List (Int × List UInt8 × Int)) × List UInt8 × Int × Bool) ×
          List UInt8 × Int × Bool →
      Option (List Int) → Option Bool :=
  fun l x k =>
    callO (bitextlaw30_long (some [k])) fun r1 =>
      if r1 = true then callO bitextlaw30_known fun r2 => some r2
      else
        if decide (0 + (l.getD []).length ≤ 68719476736) = true then
          if decide (0 + ([] ++ l.getD []).length = ([] ++ l.getD []).length) = true then
            if decide (([] ++ l.getD []).length + [x].length ≤ 68719476736) = true then
              callO (bitextlaw30_big (some ([] ++ l.getD [] ++ [x]))) fun r3 =>
                if r3 = true then callO bitextlaw30_known fun r4 => some r4
                else
                  callO (bitextlaw30_from k) fun r5 =>
                    callO (bitextlaw30_steps k) fun r6 =>
                      callO (bitextlaw30_step r5) fun r7 =>
                        callO (bitextmake_Numbers_Next 3 (r5.fst, r7.snd)) fun r8 =>
                          callO (loopR (bitextlaw30_HistoryRecords_l0 l x r6 r7 r8) 0) fun r9 =>
                            sumO r9 (fun r10 => some r10) fun r11 => callO bitextlaw30_known fun r12 => some r12
            else none
          else none
        else none
end Go.Fn
/- History: Record on both sides. -/
namespace Go.Fn
open Go Go.Vs Go.Ve
/-- what recording gives -/
def recO (l : Option (List HStep0)) (s : HStep0) : Option (List HStep0) × Int :=
  if (decide (s.2.1.1 < 1) || (s.1.1 != s.2.1.1 || s.2.2.2.2)) = true then (none, 1)
  else if 4096 ≤ ((l.getD []).filter (keepP s.2.1.1)).length then (none, 3)
  else (some ((l.getD []).filter (keepP s.2.1.1) ++ [(plainS s.1, plainS s.2.1, s.2.2)]), 0)
theorem r28record_eq {l : Option (List HStep0)} {s : HStep0} (h : ListOk l) : bitextref28_Record l s = some (recO l s) := by
  have hf : ((l.getD []).filter (keepP s.2.1.1)).length ≤ (l.getD []).length := List.length_filter_le _ _
  have h2 := h.2
  unfold bitextref28_Record recO
  by_cases hc : (decide (s.2.1.1 < 1) || (s.1.1 != s.2.1.1 || s.2.2.2.2)) = true
  · rw [if_pos hc, if_pos hc]
  · rw [if_neg hc, if_neg hc, r28record_loop h.2, callO_some, accL_getD]
    by_cases hb : 4096 ≤ ((l.getD []).filter (keepP s.2.1.1)).length
    · rw [if_pos hb]
      exact dcT (by rw [lenI_eq]; omega) rfl
    · rw [if_neg hb]
      refine dcF (by rw [lenI_eq]; omega) ?_
      rw [r28plain_eq, callO_some, r28plain_eq, callO_some]
      exact ifT (by simp; omega) rfl
theorem hrecord_eq {l : Option (List HStep0)} {s : HStep0} (h : ListOk l) (hs : StepOk s) : history_Record l s = some (recO l s) := by
  have hf : ((l.getD []).filter (keepP s.2.1.1)).length ≤ (l.getD []).length := List.length_filter_le _ _
  have h2 := h.2
  unfold history_Record recO
  by_cases hc : (decide (s.2.1.1 < 1) || (s.1.1 != s.2.1.1 || s.2.2.2.2)) = true
  · rw [if_pos hc, if_pos hc]
  · rw [if_neg hc, if_neg hc, only_r_eq (fun x hx => step_eq (h.1 x hx)) h.2, callO_some, accL_getD]
    refine sfT ?_
    by_cases hb : 4096 ≤ ((l.getD []).filter (keepP s.2.1.1)).length
    · rw [if_pos hb]
      exact dcT (by rw [lenI_eq]; omega) rfl
    · rw [if_neg hb]
      refine dcF (by rw [lenI_eq]; omega) ?_
      rw [plain_eq hs.1, callO_some, plain_eq hs.2, callO_some]
      exact ifT (by simp; omega) rfl
theorem recO_ok {l : Option (List HStep0)} {s : HStep0} (h : ListOk l) (hs : StepOk s) : (∀ x ∈ (recO l s).1.getD [], StepOk x) ∧ ((recO l s).1.getD []).length ≤ 68719476736 := by
  have hf : ((l.getD []).filter (keepP s.2.1.1)).length ≤ (l.getD []).length := List.length_filter_le _ _
  have h2 := h.2
  unfold recO
  split
  · simp
  · split
    · simp
    · refine ⟨fun x hx => ?_, by simp only [Option.getD_some, List.length_append, List.length_singleton]; omega⟩
      simp only [Option.getD_some, List.mem_append, List.mem_singleton] at hx
      rcases hx with hx | rfl
      · exact h.1 x (List.mem_filter.1 hx).1
      · exact ⟨plainS_ok hs.1, plainS_ok hs.2⟩
theorem records_l1 {l r1 : Option (List HStep0)} {x : HStep0} {r2 : HStep0 × Int} {r3 : Int × Int} {s1 : Int} (hl : ListOk l) (hr : ListOk r1)
    (hs : StepOk ([x, r2.fst, ((IntKind.i64.wrap (1 + r3.fst), r2.fst.fst.snd), r2.fst.snd)].getD (0 + s1.toNat) ((0, 0, 0, (0, 0), 0, none, [], 0, false), (0, 0, 0, (0, 0), 0, none, [], 0, false), [], 0, false))) :
    loopR (bitextlaw30_HistoryRecords_l1 l x r1 r2 r3 s1) 0 = some (.inr ()) := by
  refine loopR_range (f := bitextlaw30_HistoryRecords_l1 l x r1 r2 r3 s1) 2 (fun i => (i : Int)) (r := .inr ()) ?_ ?_ (by decide)
  · intro i hi
    have hL : ListOk ([l, r1].getD (0 + ((i : Int)).toNat) none) := by
      have : i = 0 ∨ i = 1 := by omega
      rcases this with rfl | rfl
      · exact hl
      · exact hr
    unfold bitextlaw30_HistoryRecords_l1
    refine dcT (by show (i : Int) < 2; omega) (ifT (guard0 (xs := [l, r1]) hi) (callT (hrecord_eq hL hs) (ifT (by simp) (callT (r28record_eq hL) (ifT (by simp) (ifF (by simp) (sfT (sfT (callT (sameSteps_refl (recO_ok hL hs).1 (recO_ok hL hs).2) (ifF (by simp) ?_))))))))))
    rw [wrap_i64 (by omega) (by omega)]
    simp
  · unfold bitextlaw30_HistoryRecords_l1
    exact dcF (by show ¬ ((2 : Nat) : Int) < 2; omega) rfl
theorem records_l0 {l r1 : Option (List HStep0)} {x : HStep0} {r2 : HStep0 × Int} {r3 : Int × Int} (hl : ListOk l) (hr : ListOk r1) (hx : StepOk x) (h2 : StepOk r2.1) :
    loopR (bitextlaw30_HistoryRecords_l0 l x r1 r2 r3) 0 = some (.inr ()) := by
  refine loopR_range (f := bitextlaw30_HistoryRecords_l0 l x r1 r2 r3) 3 (fun i => (i : Int)) (r := .inr ()) ?_ ?_ (by decide)
  · intro i hi
    unfold bitextlaw30_HistoryRecords_l0
    refine dcT (by show (i : Int) < 3; omega) (ifT (guard0 (xs := [x, r2.fst, ((IntKind.i64.wrap (1 + r3.fst), r2.fst.fst.snd), r2.fst.snd)]) hi) (callT (records_l1 hl hr ?_) ?_))
    · have : i = 0 ∨ i = 1 ∨ i = 2 := by omega
      rcases this with rfl | rfl | rfl
      · exact hx
      · exact h2
      · exact h2
    · show some (Sum.inl _) = _
      rw [wrap_i64 (by omega) (by omega)]
      simp
  · unfold bitextlaw30_HistoryRecords_l0
    exact dcF (by show ¬ ((3 : Nat) : Int) < 3; omega) rfl
theorem records_holds {l : Option (List HStep0)} {x : HStep0} {k : Option (List Int)} (hl : ListOk l) (hl2 : (l.getD []).length ≤ 1048576) (hx : StepOk x) (hk : ∀ x ∈ k.getD [], In64 x) : bitextlaw30_HistoryRecords l x k = some true := by
  obtain ⟨b, hb⟩ := long_total (some [k]) (by simp)
  obtain ⟨b', hb'⟩ := big_total (some ([] ++ l.getD [] ++ [x])) (by simp; omega)
  unfold bitextlaw30_HistoryRecords
  refine callT hb ?_
  cases b with
  | true => exact ifT rfl (callT known30 rfl)
  | false =>
    refine ifF (by simp) (dcT (by omega) (dcT (by omega) (dcT (by simp; omega) (callT hb' ?_))))
    cases b' with
    | true => exact ifT rfl (callT known30 rfl)
    | false =>
      obtain ⟨r, hr, h⟩ := steps_ok hk
      obtain ⟨q, hq, hq2, hq3⟩ := step_ok (L := k) (k := 0) (c := 0) ⟨hk, by simp, by simp⟩ (by omega)
      obtain ⟨p, hp, _⟩ := Next_ok hq3 (by omega) (show (1 : Int) ≤ 3 by omega) (by omega)
      refine ifF (by simp) (callT (v := (k, 0)) rfl (callT hr (callT hq (callT hp (callT (records_l0 hl (h.ok (by omega)) hx hq2) (callT known30 rfl))))))
theorem StepOk_of {x : HStep0} (h : bulkT stepTy x ≤ 1048576) : StepOk x := by
  have h3 : bulkT segTy x.1 ≤ bulkT stepTy x := Nat.le_add_right _ _
  have h4 : bulkT segTy x.2.1 ≤ bulkT stepTy x := by
    show _ ≤ bulkT segTy x.1 + (bulkT segTy x.2.1 + _)
    omega
  exact ⟨SegOk_of (by omega), SegOk_of (by omega)⟩
end Go.Fn
/- bitext/bitextlaw30.HistoryUndoes -/
namespace Go.Fn
open Go Go.Vs Go.Ve
set_option linter.unusedVariables false
def bitextlaw30_HistoryUndoes_l1 : Option
      (List
        ((Int × Int × Int × (Int × Int) × Int × Option (List (Int × List UInt8 × Int)) × List UInt8 × Int × Bool) ×
          (Int × Int × Int × (Int × Int) × Int × Option (List (Int × List UInt8 × Int)) × List UInt8 × Int × Bool) ×
            List UInt8 × Int × Bool)) →
    Int →
      Option
          (List
            ((Int × Int × Int × (Int × Int) × Int × Option (List (Int × List UInt8 × Int)) × List UInt8 × Int × Bool) ×
              (Int × Int × Int × (Int × Int) × Int × Option (List (Int × List UInt8 × Int)) × List UInt8 × Int × Bool) ×
                List UInt8 × Int × Bool)) →
        Int → Int → Option (Int ⊕ Bool ⊕ Unit) :=
  fun l segment r1 s1 s2 =>
    if decide (s2 < lenI [segment, 1, 2, 3, 0]) = true then
      if
          (decide (0 ≤ s2 ∧ s2 < lenI [segment, 1, 2, 3, 0]) && nlt (0 + s2.toNat) [segment, 1, 2, 3, 0].length) =
            true then
        callO (history_Undo ([l, r1].getD (0 + s1.toNat) none) ([segment, 1, 2, 3, 0].getD (0 + s2.toNat) 0))
          fun r2 =>
          if
              (r2.fst.isSome == r2.fst.isSome &&
                  (r2.fst.isSome == r2.fst.isSome && r2.fst.isSome == r2.fst.isSome)) =
                true then
            callO (bitextref28_Undo ([l, r1].getD (0 + s1.toNat) none) ([segment, 1, 2, 3, 0].getD (0 + s2.toNat) 0))
              fun r3 =>
              if
                  (r3.fst.isSome == r3.fst.isSome &&
                      (r3.fst.isSome == r3.fst.isSome && r3.fst.isSome == r3.fst.isSome)) =
                    true then
                callO (history_Redo ([l, r1].getD (0 + s1.toNat) none) ([segment, 1, 2, 3, 0].getD (0 + s2.toNat) 0))
                  fun r4 =>
                  if
                      (r4.fst.isSome == r4.fst.isSome &&
                          (r4.fst.isSome == r4.fst.isSome && r4.fst.isSome == r4.fst.isSome)) =
                        true then
                    callO
                      (bitextref28_Redo ([l, r1].getD (0 + s1.toNat) none)
                        ([segment, 1, 2, 3, 0].getD (0 + s2.toNat) 0))
                      fun r5 =>
                      if
                          (r5.fst.isSome == r5.fst.isSome &&
                              (r5.fst.isSome == r5.fst.isSome && r5.fst.isSome == r5.fst.isSome)) =
                            true then
                        if (r2.snd.snd != r3.snd.snd) = true then some (Sum.inr (Sum.inl false))
                        else
                          if (r4.snd.snd != r5.snd.snd) = true then some (Sum.inr (Sum.inl false))
                          else
                            if (r2.fst.isSome == r2.fst.isSome) = true then
                              if (r3.fst.isSome == r3.fst.isSome) = true then
                                callO (bitextref28_SameSteps r2.fst r3.fst) fun r6 =>
                                  if (!r6) = true then some (Sum.inr (Sum.inl false))
                                  else
                                    if (r4.fst.isSome == r4.fst.isSome) = true then
                                      if (r5.fst.isSome == r5.fst.isSome) = true then
                                        callO (bitextref28_SameSteps r4.fst r5.fst) fun r7 =>
                                          if (!r7) = true then some (Sum.inr (Sum.inl false))
                                          else
                                            callO (bitextref26_SameSegment r2.snd.fst r3.snd.fst) fun r8 =>
                                              if (!r8) = true then some (Sum.inr (Sum.inl false))
                                              else
                                                callO (bitextref26_SameSegment r4.snd.fst r5.snd.fst) fun r9 =>
                                                  if (!r9) = true then some (Sum.inr (Sum.inl false))
                                                  else some (Sum.inl (IntKind.i64.wrap (s2 + 1)))
                                      else none
                                    else none
                              else none
                            else none
                      else none
                  else none
              else none
          else none
      else none
    else some (Sum.inr (Sum.inr ()))
def bitextlaw30_HistoryUndoes_l0 : Option
      (List
        ((Int × Int × Int × (Int × Int) × Int × Option (List (Int × List UInt8 × Int)) × List UInt8 × Int × Bool) ×
          (Int × Int × Int × (Int × Int) × Int × Option (List (Int × List UInt8 × Int)) × List UInt8 × Int × Bool) ×
            List UInt8 × Int × Bool)) →
    Int →
      Option
          (List
            ((Int × Int × Int × (Int × Int) × Int × Option (List (Int × List UInt8 × Int)) × List UInt8 × Int × Bool) ×
              (Int × Int × Int × (Int × Int) × Int × Option (List (Int × List UInt8 × Int)) × List UInt8 × Int × Bool) ×
                List UInt8 × Int × Bool)) →
        Int → Option (Int ⊕ Bool ⊕ Unit) :=
  fun l segment r1 s1 =>
    if decide (s1 < lenI [l, r1]) = true then
      if (decide (0 ≤ s1 ∧ s1 < lenI [l, r1]) && nlt (0 + s1.toNat) [l, r1].length) = true then
        callO (loopR (bitextlaw30_HistoryUndoes_l1 l segment r1 s1) 0) fun r2 =>
          sumO r2 (fun r3 => some (Sum.inr (Sum.inl r3))) fun r4 => some (Sum.inl (IntKind.i64.wrap (s1 + 1)))
      else none
    else some (Sum.inr (Sum.inr ()))
def bitextlaw30_HistoryUndoes : Option
      (List
        ((Int × Int × Int × (Int × Int) × Int × Option (List (Int × List UInt8 × Int)) × List UInt8 × Int × Bool) ×
          (Int × Int × Int × (Int × Int) × Int × Option (List (Int × List UInt8 × Int)) × List UInt8 × Int × Bool) ×
            List UInt8 × Int × Bool)) →
    Int → Option (List Int) → Option Bool :=
  fun l segment k =>
    callO (bitextlaw30_long (some [k])) fun r1 =>
      if r1 = true then callO bitextlaw30_known fun r2 => some r2
      else
        callO (bitextlaw30_big l) fun r3 =>
          if r3 = true then callO bitextlaw30_known fun r4 => some r4
          else
            callO (bitextlaw30_steps k) fun r5 =>
              callO (loopR (bitextlaw30_HistoryUndoes_l0 l segment r5) 0) fun r6 =>
                sumO r6 (fun r7 => some r7) fun r8 => callO bitextlaw30_known fun r9 => some r9
end Go.Fn
/- History: Undo and Redo on both sides. -/
namespace Go.Fn
open Go Go.Vs Go.Ve
def evP (x : HStep0) : Bool := true
theorem only_e_eq {l : Option (List HStep0)} (h : ∀ x ∈ l.getD [], history_step x = some x) (hl : (l.getD []).length ≤ 68719476735) :
    history_only_e l = some (accL ((l.getD []).filter evP)) := by
  have hloop : loopR (history_only_e_l0 l) (none, 0) = some (accL ((l.getD []).filter evP)) := by
    have := loopR_range (f := history_only_e_l0 l) (l.getD []).length (fun i => (accL (((l.getD []).take i).filter evP), (i : Int))) (r := accL ((l.getD []).filter evP)) ?_ ?_ ?_
    · simpa [accL] using this
    · intro i hi
      unfold history_only_e_l0
      dsimp only
      have hx : (l.getD []).getD ((i : Int)).toNat ((0, 0, 0, (0, 0), 0, none, [], 0, false), (0, 0, 0, (0, 0), 0, none, [], 0, false), [], 0, false) = (l.getD [])[i] := by
        rw [Int.toNat_natCast, List.getD_eq_getElem?_getD, List.getElem?_eq_getElem hi]; rfl
      have hw : IntKind.i64.wrap ((i : Int) + 1) = ((i + 1 : Nat) : Int) := by
        rw [wrap_i64 (by omega) (by omega)]; omega
      have hlen : (((l.getD []).take i).filter evP).length ≤ i := Nat.le_trans (List.length_filter_le _ _) (by simp; omega)
      have htake : (l.getD []).take (i + 1) = (l.getD []).take i ++ [(l.getD [])[i]] := by rw [List.take_add_one, List.getElem?_eq_getElem hi]; rfl
      refine dcT (by rw [lenI_eq]; exact_mod_cast hi) (dcT (by rw [lenI_eq]; exact ⟨by omega, by exact_mod_cast hi⟩) ?_)
      simp only [hx]
      refine callT (v := evP (l.getD [])[i]) rfl ?_
      cases hk : evP (l.getD [])[i] with
      | true =>
        refine ifT rfl (callT (h _ (List.getElem_mem hi)) (ifT ?_ ?_))
        · have hacc : ((accL (((l.getD []).take i).filter evP)).getD []).length = (((l.getD []).take i).filter evP).length := by
            cases ((l.getD []).take i).filter evP <;> rfl
          rw [hacc]
          simp
          omega
        · rw [hw, accL_snoc, htake, List.filter_append, List.filter_cons, if_pos hk, List.filter_nil]
      | false =>
        refine ifF (by simp) ?_
        rw [hw, htake, List.filter_append, List.filter_cons, if_neg (by rw [hk]; simp), List.filter_nil, List.append_nil]
    · unfold history_only_e_l0
      refine dcF (by rw [lenI_eq]; omega) ?_
      simp
    · have : (l.getD []).length < 68719476736 := by omega
      exact Nat.lt_of_lt_of_le this (by decide)
  unfold history_only_e
  exact callT hloop (sfT (sfT rfl))
theorem every_eq {l : Option (List HStep0)} (h : ListOk l) : history_every l = some (accL (l.getD [])) := by
  unfold history_every
  refine callT (only_e_eq (fun x hx => step_eq (h.1 x hx)) h.2) (sfT (sfT ?_))
  rw [show (l.getD []).filter evP = l.getD [] from List.filter_eq_self.2 fun _ _ => rfl]
theorem hlast_eq {l : Option (List HStep0)} (h : ListOk l) (seg : Int) : history_lastDone l seg = some (lastHit (l.getD []) seg (l.getD []).length) := by
  unfold history_lastDone
  rw [if_pos (by have := h.2; omega)]
theorem r28last_eq {l : Option (List HStep0)} (h : ListOk l) (seg : Int) : bitextref28_lastDone l seg = some (lastHit (l.getD []) seg (l.getD []).length) := by
  unfold bitextref28_lastDone
  refine callT (v := lastHit (l.getD []) seg (l.getD []).length) ?_ rfl
  have h2 := h.2
  refine loopR_range (f := bitextref28_lastDone_l0 l seg) (l.getD []).length (fun i => (lastHit (l.getD []) seg i, (i : Int))) ?_ ?_ (Nat.lt_of_le_of_lt h.2 (by decide))
  · intro i hi
    unfold bitextref28_lastDone_l0
    dsimp only
    refine dcT (by rw [lenI_eq]; omega) (dcT (by rw [lenI_eq]; omega) ?_)
    rw [wrap_i64 (by omega) (by omega), Int.toNat_natCast]
    show some (Sum.inl ((if hHit seg ((l.getD []).getD i ((0, 0, 0, (0, 0), 0, none, [], 0, false), (0, 0, 0, (0, 0), 0, none, [], 0, false), [], 0, false)) = true then (i : Int) else lastHit (l.getD []) seg i), (i : Int) + 1)) = _
    rfl
  · unfold bitextref28_lastDone_l0
    exact dcF (by rw [lenI_eq]; omega) rfl
theorem lastHit_range (l : List HStep0) (seg : Int) : ∀ n : Nat, -1 ≤ lastHit l seg n ∧ lastHit l seg n < n
  | 0 => by simp [lastHit]
  | n + 1 => by
    have := lastHit_range l seg n
    unfold lastHit
    split <;> omega
def setU (x : HStep0) (u : Bool) : HStep0 := (x.1, x.2.1, x.2.2.1, x.2.2.2.1, u)
def undoO (l : Option (List HStep0)) (seg : Int) : Option (List HStep0) × HSeg × Int :=
  if lastHit (l.getD []) seg (l.getD []).length < 0 then (none, (0, 0, 0, (0, 0), 0, none, [], 0, false), 6)
  else
    if (!(((l.getD []).getD (lastHit (l.getD []) seg (l.getD []).length).toNat ((0, 0, 0, (0, 0), 0, none, [], 0, false), (0, 0, 0, (0, 0), 0, none, [], 0, false), [], 0, false)).1.2.2.2.1.1 == ((l.getD []).getD (lastHit (l.getD []) seg (l.getD []).length).toNat ((0, 0, 0, (0, 0), 0, none, [], 0, false), (0, 0, 0, (0, 0), 0, none, [], 0, false), [], 0, false)).2.1.2.2.2.1.1 && (((l.getD []).getD (lastHit (l.getD []) seg (l.getD []).length).toNat ((0, 0, 0, (0, 0), 0, none, [], 0, false), (0, 0, 0, (0, 0), 0, none, [], 0, false), [], 0, false)).1.2.2.2.1.2 == ((l.getD []).getD (lastHit (l.getD []) seg (l.getD []).length).toNat ((0, 0, 0, (0, 0), 0, none, [], 0, false), (0, 0, 0, (0, 0), 0, none, [], 0, false), [], 0, false)).2.1.2.2.2.1.2 && true))) = true then (none, (0, 0, 0, (0, 0), 0, none, [], 0, false), 8)
    else (some ((l.getD []).set (lastHit (l.getD []) seg (l.getD []).length).toNat (setU ((l.getD []).getD (lastHit (l.getD []) seg (l.getD []).length).toNat ((0, 0, 0, (0, 0), 0, none, [], 0, false), (0, 0, 0, (0, 0), 0, none, [], 0, false), [], 0, false)) true)), ((l.getD []).getD (lastHit (l.getD []) seg (l.getD []).length).toNat ((0, 0, 0, (0, 0), 0, none, [], 0, false), (0, 0, 0, (0, 0), 0, none, [], 0, false), [], 0, false)).1, 0)
theorem hundo_eq {l : Option (List HStep0)} (h : ListOk l) (seg : Int) : history_Undo l seg = some (undoO l seg) := by
  have hr := lastHit_range (l.getD []) seg (l.getD []).length
  have h2 := h.2
  unfold history_Undo undoO
  rw [hlast_eq h, callO_some]
  generalize lastHit (l.getD []) seg (l.getD []).length = r at hr
  by_cases h0 : r < 0
  · rw [if_pos h0]
    exact dcT h0 rfl
  · rw [if_neg h0]
    have hb : decide (0 ≤ r ∧ r < lenI (l.getD [])) = true := decide_eq_true (by rw [lenI_eq]; omega)
    have hx : StepOk ((l.getD []).getD r.toNat ((0, 0, 0, (0, 0), 0, none, [], 0, false), (0, 0, 0, (0, 0), 0, none, [], 0, false), [], 0, false)) := h.1 _ (mem_getD (by omega))
    refine dcF h0 (ifT (by rw [hb]; rfl) ?_)
    generalize hxx : (l.getD []).getD r.toNat ((0, 0, 0, (0, 0), 0, none, [], 0, false), (0, 0, 0, (0, 0), 0, none, [], 0, false), [], 0, false) = x at hx
    by_cases hp : (!(x.1.2.2.2.1.1 == x.2.1.2.2.2.1.1 && (x.1.2.2.2.1.2 == x.2.1.2.2.2.1.2 && true))) = true
    · rw [if_pos hp, if_pos hp]
    · rw [if_neg hp, if_neg hp]
      refine callT (every_eq h) (sfT ?_)
      rw [accL_getD, Nat.zero_add, hxx]
      refine ifT (by rw [hb, Bool.true_and, nlt_iff]; omega) (ifT hb (callT (segment_eq hx.1) rfl))
theorem marked_eq {l : Option (List HStep0)} (h : ListOk l) {r : Int} (h0 : 0 ≤ r) (h1 : r < ((l.getD []).length : Int)) (b : Bool) : bitextref28_marked l r b = some (some ((l.getD []).set r.toNat (setU ((l.getD []).getD r.toNat ((0, 0, 0, (0, 0), 0, none, [], 0, false), (0, 0, 0, (0, 0), 0, none, [], 0, false), [], 0, false)) b))) := by
  have h2 := h.2
  unfold bitextref28_marked
  simp only [List.nil_append, Nat.zero_add]
  refine ifT (by simp; omega) (ifT ?_ rfl)
  rw [Bool.and_eq_true, decide_eq_true_iff, nlt_iff, lenI_eq]
  omega
theorem r28undo_eq {l : Option (List HStep0)} (h : ListOk l) (seg : Int) : bitextref28_Undo l seg = some (undoO l seg) := by
  have hr := lastHit_range (l.getD []) seg (l.getD []).length
  unfold bitextref28_Undo undoO
  rw [r28last_eq h, callO_some]
  generalize lastHit (l.getD []) seg (l.getD []).length = r at hr
  by_cases h0 : r < 0
  · rw [if_pos h0]
    exact dcT h0 rfl
  · rw [if_neg h0]
    have hb : decide (0 ≤ r ∧ r < lenI (l.getD [])) = true := decide_eq_true (by rw [lenI_eq]; omega)
    refine dcF h0 (ifT (by rw [hb]; rfl) ?_)
    have hm := marked_eq h (r := r) (by omega) (by omega) true
    generalize (l.getD []).getD r.toNat ((0, 0, 0, (0, 0), 0, none, [], 0, false), (0, 0, 0, (0, 0), 0, none, [], 0, false), [], 0, false) = x at hm
    by_cases hp : (!(x.1.2.2.2.1.1 == x.2.1.2.2.2.1.1 && (x.1.2.2.2.1.2 == x.2.1.2.2.2.1.2 && true))) = true
    · rw [if_pos hp, if_pos hp]
    · rw [if_neg hp, if_neg hp]
      exact callT hm (ifT (by rw [hb]; simp) (ifT (by simp) rfl))
theorem scan_map {α β : Type} (c : Nat → Option α) (g : α → β) : ∀ (k i : Nat), scan (fun i => (c i).map g) i k = (scan c i k).map g
  | 0, i => rfl
  | k + 1, i => by
    unfold scan
    cases h : c i with
    | none => simp only [h, Option.map_none]; exact scan_map c g k (i + 1)
    | some a => simp [h]
def cR (l : Option (List HStep0)) (seg : Int) (i : Nat) : Option Nat := if (((l.getD []).getD i ((0, 0, 0, (0, 0), 0, none, [], 0, false), (0, 0, 0, (0, 0), 0, none, [], 0, false), [], 0, false)).2.1.1 == seg) = true then some i else none
theorem cR_lt {l : Option (List HStep0)} {seg : Int} {s k i : Nat} (h : scan (cR l seg) s k = some i) : s ≤ i ∧ i < s + k := by
  obtain ⟨j, h1, h2, h3⟩ := scan_some h
  unfold cR at h3
  split at h3
  · cases h3; exact ⟨h1, h2⟩
  · cases h3
def redoO (l : Option (List HStep0)) (seg : Int) : Option (List HStep0) × HSeg × Int :=
  match scan (cR l seg) (lastHit (l.getD []) seg (l.getD []).length + 1).toNat ((l.getD []).length - (lastHit (l.getD []) seg (l.getD []).length + 1).toNat) with
  | some i => (some ((l.getD []).set i (setU ((l.getD []).getD i ((0, 0, 0, (0, 0), 0, none, [], 0, false), (0, 0, 0, (0, 0), 0, none, [], 0, false), [], 0, false)) false)), ((l.getD []).getD i ((0, 0, 0, (0, 0), 0, none, [], 0, false), (0, 0, 0, (0, 0), 0, none, [], 0, false), [], 0, false)).2.1, 0)
  | none => (none, (0, 0, 0, (0, 0), 0, none, [], 0, false), 6)
theorem hredo_eq {l : Option (List HStep0)} (h : ListOk l) (seg : Int) : history_Redo l seg = some (redoO l seg) := by
  have hr := lastHit_range (l.getD []) seg (l.getD []).length
  have h2 := h.2
  unfold history_Redo redoO
  rw [hlast_eq h, callO_some]
  generalize lastHit (l.getD []) seg (l.getD []).length = r at hr
  have hw : IntKind.i64.wrap (r + 1) = (((r + 1).toNat : Nat) : Int) := by rw [wrap_i64 (by omega) (by omega)]; omega
  rw [hw]
  refine callT (loopR_scan (f := history_Redo_l0 l seg) (l.getD []).length (fun i => (cR l seg i).map fun i => ((l.getD []).set i (setU ((l.getD []).getD i ((0, 0, 0, (0, 0), 0, none, [], 0, false), (0, 0, 0, (0, 0), 0, none, [], 0, false), [], 0, false)) false), (0 : Int), ((l.getD []).getD i ((0, 0, 0, (0, 0), 0, none, [], 0, false), (0, 0, 0, (0, 0), 0, none, [], 0, false), [], 0, false)).2.1.1, ((l.getD []).getD i ((0, 0, 0, (0, 0), 0, none, [], 0, false), (0, 0, 0, (0, 0), 0, none, [], 0, false), [], 0, false)).2.1.2.1, ((l.getD []).getD i ((0, 0, 0, (0, 0), 0, none, [], 0, false), (0, 0, 0, (0, 0), 0, none, [], 0, false), [], 0, false)).2.1.2.2.1, ((l.getD []).getD i ((0, 0, 0, (0, 0), 0, none, [], 0, false), (0, 0, 0, (0, 0), 0, none, [], 0, false), [], 0, false)).2.1.2.2.2.1.1, ((l.getD []).getD i ((0, 0, 0, (0, 0), 0, none, [], 0, false), (0, 0, 0, (0, 0), 0, none, [], 0, false), [], 0, false)).2.1.2.2.2.1.2, ((l.getD []).getD i ((0, 0, 0, (0, 0), 0, none, [], 0, false), (0, 0, 0, (0, 0), 0, none, [], 0, false), [], 0, false)).2.1.2.2.2.2)) (r + 1).toNat ?_ ?_ (by omega) (Nat.lt_of_le_of_lt h.2 (by decide))) ?_
  · intro i hi
    unfold history_Redo_l0
    have hb : decide (0 ≤ (i : Int) ∧ (i : Int) < lenI (l.getD [])) = true := decide_eq_true (by rw [lenI_eq]; omega)
    have hx : StepOk ((l.getD []).getD i ((0, 0, 0, (0, 0), 0, none, [], 0, false), (0, 0, 0, (0, 0), 0, none, [], 0, false), [], 0, false)) := h.1 _ (mem_getD hi)
    refine dcT (by rw [lenI_eq]; omega) (ifT hb ?_)
    rw [Int.toNat_natCast]
    unfold cR
    by_cases hp : (((l.getD []).getD i ((0, 0, 0, (0, 0), 0, none, [], 0, false), (0, 0, 0, (0, 0), 0, none, [], 0, false), [], 0, false)).2.1.1 == seg) = true
    · refine ifT hp (callT (every_eq h) (sfT ?_))
      rw [accL_getD, Nat.zero_add, if_pos hp]
      refine ifT (by rw [hb, Bool.true_and, nlt_iff]; exact hi) (ifT hb (callT (segment_eq hx.2) rfl))
    · refine ifF hp ?_
      rw [if_neg hp, wrap_i64 (by omega) (by omega)]
      rfl
  · unfold history_Redo_l0
    exact dcF (by rw [lenI_eq]; omega) rfl
  · rw [scan_map]
    cases scan (cR l seg) (r + 1).toNat ((l.getD []).length - (r + 1).toNat) <;> rfl
theorem r28redo_eq {l : Option (List HStep0)} (h : ListOk l) (seg : Int) : bitextref28_Redo l seg = some (redoO l seg) := by
  have hr := lastHit_range (l.getD []) seg (l.getD []).length
  have h2 := h.2
  unfold bitextref28_Redo redoO
  rw [r28last_eq h, callO_some]
  generalize lastHit (l.getD []) seg (l.getD []).length = r at hr
  have hw : IntKind.i64.wrap (r + 1) = (((r + 1).toNat : Nat) : Int) := by rw [wrap_i64 (by omega) (by omega)]; omega
  rw [hw]
  refine callT (loopR_scan (f := bitextref28_Redo_l0 l seg) (l.getD []).length (fun i => (cR l seg i).map fun i => (some ((l.getD []).set i (setU ((l.getD []).getD i ((0, 0, 0, (0, 0), 0, none, [], 0, false), (0, 0, 0, (0, 0), 0, none, [], 0, false), [], 0, false)) false)), (0 : Int), ((l.getD []).getD i ((0, 0, 0, (0, 0), 0, none, [], 0, false), (0, 0, 0, (0, 0), 0, none, [], 0, false), [], 0, false)).2.1.1, ((l.getD []).getD i ((0, 0, 0, (0, 0), 0, none, [], 0, false), (0, 0, 0, (0, 0), 0, none, [], 0, false), [], 0, false)).2.1.2.1, ((l.getD []).getD i ((0, 0, 0, (0, 0), 0, none, [], 0, false), (0, 0, 0, (0, 0), 0, none, [], 0, false), [], 0, false)).2.1.2.2.1, ((l.getD []).getD i ((0, 0, 0, (0, 0), 0, none, [], 0, false), (0, 0, 0, (0, 0), 0, none, [], 0, false), [], 0, false)).2.1.2.2.2.1.1, ((l.getD []).getD i ((0, 0, 0, (0, 0), 0, none, [], 0, false), (0, 0, 0, (0, 0), 0, none, [], 0, false), [], 0, false)).2.1.2.2.2.1.2, ((l.getD []).getD i ((0, 0, 0, (0, 0), 0, none, [], 0, false), (0, 0, 0, (0, 0), 0, none, [], 0, false), [], 0, false)).2.1.2.2.2.2)) (r + 1).toNat ?_ ?_ (by omega) (Nat.lt_of_le_of_lt h.2 (by decide))) ?_
  · intro i hi
    unfold bitextref28_Redo_l0
    have hb : decide (0 ≤ (i : Int) ∧ (i : Int) < lenI (l.getD [])) = true := decide_eq_true (by rw [lenI_eq]; omega)
    have hm := marked_eq h (r := (i : Int)) (by omega) (by omega) false
    rw [Int.toNat_natCast] at hm
    refine dcT (by rw [lenI_eq]; omega) (ifT hb ?_)
    rw [Int.toNat_natCast]
    unfold cR
    by_cases hp : (((l.getD []).getD i ((0, 0, 0, (0, 0), 0, none, [], 0, false), (0, 0, 0, (0, 0), 0, none, [], 0, false), [], 0, false)).2.1.1 == seg) = true
    · refine ifT hp (callT hm ?_)
      rw [if_pos hp]
      exact ifT (by rw [hb]; simp) rfl
    · refine ifF hp ?_
      rw [if_neg hp, wrap_i64 (by omega) (by omega)]
      rfl
  · unfold bitextref28_Redo_l0
    exact dcF (by rw [lenI_eq]; omega) rfl
  · rw [scan_map]
    cases scan (cR l seg) (r + 1).toNat ((l.getD []).length - (r + 1).toNat) <;> first | rfl | exact ifT (by simp) rfl
def ResOk (r : Option (List HStep0) × HSeg × Int) : Prop := ((∀ x ∈ r.1.getD [], StepOk x) ∧ (r.1.getD []).length ≤ 68719476735) ∧ SegOk r.2.1
theorem zero_ok {c : Int} : ResOk (none, (0, 0, 0, (0, 0), 0, none, [], 0, false), c) := ⟨⟨by simp, by simp⟩, by simp [SegOk]⟩
theorem set_ok {l : Option (List HStep0)} (h : ListOk l) {i : Nat} (hi : i < (l.getD []).length) (u : Bool) (c : Int) {g : HSeg} (hg : SegOk g) : ResOk (some ((l.getD []).set i (setU ((l.getD []).getD i ((0, 0, 0, (0, 0), 0, none, [], 0, false), (0, 0, 0, (0, 0), 0, none, [], 0, false), [], 0, false)) u)), g, c) := by
  refine ⟨⟨fun x hx => ?_, by simpa using h.2⟩, hg⟩
  simp only [Option.getD_some] at hx
  rcases List.mem_or_eq_of_mem_set hx with hx | rfl
  · exact h.1 x hx
  · have := h.1 _ (mem_getD hi)
    exact this
theorem undoO_ok {l : Option (List HStep0)} (h : ListOk l) (seg : Int) : ResOk (undoO l seg) := by
  have hr := lastHit_range (l.getD []) seg (l.getD []).length
  unfold undoO
  generalize lastHit (l.getD []) seg (l.getD []).length = r at hr
  split
  · exact zero_ok
  · split
    · exact zero_ok
    · exact set_ok h (by omega) _ _ (h.1 _ (mem_getD (by omega))).1
theorem redoO_ok {l : Option (List HStep0)} (h : ListOk l) (seg : Int) : ResOk (redoO l seg) := by
  have hr := lastHit_range (l.getD []) seg (l.getD []).length
  unfold redoO
  split
  · rename_i i hi
    have := cR_lt hi
    exact set_ok h (by omega) _ _ (h.1 _ (mem_getD (by omega))).2
  · exact zero_ok
theorem undoes_l1 {l r : Option (List HStep0)} {seg s1 : Int} (h : ListOk ([l, r].getD (0 + s1.toNat) none)) : loopR (bitextlaw30_HistoryUndoes_l1 l seg r s1) 0 = some (.inr ()) := by
  refine loopR_range (f := bitextlaw30_HistoryUndoes_l1 l seg r s1) 5 (fun i => (i : Int)) (r := .inr ()) ?_ ?_ (by decide)
  · intro i hi
    unfold bitextlaw30_HistoryUndoes_l1
    refine dcT (by show (i : Int) < 5; omega) (ifT (guard0 (xs := [seg, 1, 2, 3, 0]) hi) ?_)
    generalize [l, r].getD (0 + s1.toNat) none = L at h
    generalize [seg, 1, 2, 3, 0].getD (0 + ((i : Int)).toNat) 0 = g
    have hu := undoO_ok h g
    have hv := redoO_ok h g
    refine callT (hundo_eq h g) (ifT (by simp) (callT (r28undo_eq h g) (ifT (by simp) (callT (hredo_eq h g) (ifT (by simp) (callT (r28redo_eq h g) (ifT (by simp) (ifF (by simp) (ifF (by simp) ?_)))))))))
    refine sfT (sfT (callT (sameSteps_refl hu.1.1 (Nat.le_succ_of_le hu.1.2)) (ifF (by simp) (sfT (sfT (callT (sameSteps_refl hv.1.1 (Nat.le_succ_of_le hv.1.2)) (ifF (by simp) (callT (sameSeg_refl hu.2) (ifF (by simp) (callT (sameSeg_refl hv.2) (ifF (by simp) ?_)))))))))))
    rw [wrap_i64 (by omega) (by omega)]
    simp
  · unfold bitextlaw30_HistoryUndoes_l1
    exact dcF (by show ¬ ((5 : Nat) : Int) < 5; omega) rfl
theorem undoes_l0 {l r : Option (List HStep0)} {seg : Int} (h1 : ListOk l) (h2 : ListOk r) : loopR (bitextlaw30_HistoryUndoes_l0 l seg r) 0 = some (.inr ()) := by
  refine loopR_range (f := bitextlaw30_HistoryUndoes_l0 l seg r) 2 (fun i => (i : Int)) (r := .inr ()) ?_ ?_ (by decide)
  · intro i hi
    unfold bitextlaw30_HistoryUndoes_l0
    refine dcT (by show (i : Int) < 2; omega) (ifT (guard0 (xs := [l, r]) hi) (callT (undoes_l1 ?_) ?_))
    · have : i = 0 ∨ i = 1 := by omega
      rcases this with rfl | rfl
      · exact h1
      · exact h2
    · show some (Sum.inl _) = _
      rw [wrap_i64 (by omega) (by omega)]
      simp
  · unfold bitextlaw30_HistoryUndoes_l0
    exact dcF (by show ¬ ((2 : Nat) : Int) < 2; omega) rfl
theorem undoes_holds {l : Option (List HStep0)} (seg : Int) {k : Option (List Int)} (hl : ListOk l) (hk : ∀ x ∈ k.getD [], In64 x) : bitextlaw30_HistoryUndoes l seg k = some true := by
  obtain ⟨b, hb⟩ := long_total (some [k]) (by simp)
  obtain ⟨b', hb'⟩ := big_total l (by have := hl.2; omega)
  unfold bitextlaw30_HistoryUndoes
  refine callT hb ?_
  cases b with
  | true => exact ifT rfl (callT known30 rfl)
  | false =>
    refine ifF (by simp) (callT hb' ?_)
    cases b' with
    | true => exact ifT rfl (callT known30 rfl)
    | false =>
      obtain ⟨r, hr, h⟩ := steps_ok hk
      exact ifF (by simp) (callT hr (callT (undoes_l0 hl (h.ok (by omega))) (callT known30 rfl)))
end Go.Fn
/- bitext/bitextlaw30.HistoryApart$1 -/
namespace Go.Fn
open Go Go.Vs Go.Ve
set_option linter.unusedVariables false
def bitextlaw30_HistoryApart_1_l0 : Option
      (List
        ((Int × Int × Int × (Int × Int) × Int × Option (List (Int × List UInt8 × Int)) × List UInt8 × Int × Bool) ×
          (Int × Int × Int × (Int × Int) × Int × Option (List (Int × List UInt8 × Int)) × List UInt8 × Int × Bool) ×
            List UInt8 × Int × Bool)) →
    Int →
      Option
            (List
              ((Int × Int × Int × (Int × Int) × Int × Option (List (Int × List UInt8 × Int)) × List UInt8 × Int × Bool) ×
                (Int × Int × Int × (Int × Int) × Int × Option (List (Int × List UInt8 × Int)) × List UInt8 × Int × Bool) ×
                  List UInt8 × Int × Bool)) ×
          Int →
        Option
          (Option
                (List
                  ((Int ×
                      Int × Int × (Int × Int) × Int × Option (List (Int × List UInt8 × Int)) × List UInt8 × Int × Bool) ×
                    (Int ×
                        Int ×
                          Int × (Int × Int) × Int × Option (List (Int × List UInt8 × Int)) × List UInt8 × Int × Bool) ×
                      List UInt8 × Int × Bool)) ×
              Int ⊕
            Option
              (List
                ((Int ×
                    Int × Int × (Int × Int) × Int × Option (List (Int × List UInt8 × Int)) × List UInt8 × Int × Bool) ×
                  (Int ×
                      Int × Int × (Int × Int) × Int × Option (List (Int × List UInt8 × Int)) × List UInt8 × Int × Bool) ×
                    List UInt8 × Int × Bool))) :=
  fun m n s1 =>
    if decide (s1.snd < lenI (m.getD [])) = true then
      if
          (decide (0 ≤ s1.snd ∧ s1.snd < lenI (m.getD [])) &&
              (!((m.getD []).getD s1.snd.toNat
                            ((0, 0, 0, (0, 0), 0, none, [], 0, false), (0, 0, 0, (0, 0), 0, none, [], 0, false), [], 0,
                              false)).snd.fst.fst !=
                    n ||
                decide (0 + (s1.fst.getD []).length = (s1.fst.getD []).length) &&
                  (decide
                      ((s1.fst.getD []).length +
                          [(m.getD []).getD s1.snd.toNat
                                ((0, 0, 0, (0, 0), 0, none, [], 0, false), (0, 0, 0, (0, 0), 0, none, [], 0, false), [],
                                  0, false)].length ≤
                        68719476736) &&
                    s1.fst.isSome == s1.fst.isSome))) =
            true then
        some
          (Sum.inl
            (if
                  (((m.getD []).getD s1.snd.toNat
                              ((0, 0, 0, (0, 0), 0, none, [], 0, false), (0, 0, 0, (0, 0), 0, none, [], 0, false), [], 0,
                                false)).snd.fst.fst !=
                      n) =
                    true then
                some
                  (s1.fst.getD [] ++
                    [(m.getD []).getD s1.snd.toNat
                        ((0, 0, 0, (0, 0), 0, none, [], 0, false), (0, 0, 0, (0, 0), 0, none, [], 0, false), [], 0,
                          false)])
              else s1.fst,
              IntKind.i64.wrap (s1.snd + 1)))
      else none
    else some (Sum.inr s1.fst)
def bitextlaw30_HistoryApart_1 : Option
      (List
        ((Int × Int × Int × (Int × Int) × Int × Option (List (Int × List UInt8 × Int)) × List UInt8 × Int × Bool) ×
          (Int × Int × Int × (Int × Int) × Int × Option (List (Int × List UInt8 × Int)) × List UInt8 × Int × Bool) ×
            List UInt8 × Int × Bool)) →
    Int →
      Option
        (Option
          (List
            ((Int × Int × Int × (Int × Int) × Int × Option (List (Int × List UInt8 × Int)) × List UInt8 × Int × Bool) ×
              (Int × Int × Int × (Int × Int) × Int × Option (List (Int × List UInt8 × Int)) × List UInt8 × Int × Bool) ×
                List UInt8 × Int × Bool))) :=
  fun m n =>
    callO (loopR (bitextlaw30_HistoryApart_1_l0 m n) (none, 0)) fun r1 =>
      if (r1.isSome == r1.isSome) = true then if (r1.isSome == r1.isSome) = true then some r1 else none else none
end Go.Fn
/- bitext/bitextlaw30.HistoryApart -/
namespace Go.Fn
open Go Go.Vs Go.Ve
set_option linter.unusedVariables false
def bitextlaw30_HistoryApart : Option (List Int) → Option Bool :=
  fun k =>
    callO (bitextlaw30_long (some [k])) fun r1 =>
      if r1 = true then callO bitextlaw30_known fun r2 => some r2
      else
        callO (bitextlaw30_from k) fun r3 =>
          callO (bitextlaw30_steps k) fun r4 =>
            callO (bitextlaw30_step r3) fun r5 =>
              callO (history_Record r4 r5.fst) fun r6 =>
                if
                    (r6.fst.isSome == r6.fst.isSome &&
                        (r6.fst.isSome == r6.fst.isSome && r6.fst.isSome == r6.fst.isSome)) =
                      true then
                  if (r6.fst.isSome == r6.fst.isSome) = true then
                    callO (history_Redo r6.fst r5.fst.snd.fst.fst) fun r7 =>
                      if
                          (r7.fst.isSome == r7.fst.isSome &&
                              (r7.fst.isSome == r7.fst.isSome && r7.fst.isSome == r7.fst.isSome)) =
                            true then
                        if (r6.snd != 0) = true then some false
                        else
                          if (r7.snd.snd != 6) = true then some false
                          else
                            callO (bitextlaw30_HistoryApart_1 r6.fst r5.fst.snd.fst.fst) fun r8 =>
                              callO (bitextlaw30_HistoryApart_1 r4 r5.fst.snd.fst.fst) fun r9 =>
                                if (r8.isSome == r8.isSome) = true then
                                  if (r9.isSome == r9.isSome) = true then
                                    callO (bitextref28_SameSteps r8 r9) fun r10 =>
                                      if (!r10) = true then some false
                                      else
                                        callO (history_Undo r4 r5.fst.snd.fst.fst) fun r11 =>
                                          if
                                              (r11.fst.isSome == r11.fst.isSome &&
                                                  (r11.fst.isSome == r11.fst.isSome &&
                                                    r11.fst.isSome == r11.fst.isSome)) =
                                                true then
                                            if (r11.snd.snd == 0) = true then
                                              if (r11.fst.isSome == r11.fst.isSome) = true then
                                                callO (bitextlaw30_HistoryApart_1 r11.fst r5.fst.snd.fst.fst) fun r12 =>
                                                  callO (bitextlaw30_HistoryApart_1 r4 r5.fst.snd.fst.fst) fun r13 =>
                                                    if (r12.isSome == r12.isSome) = true then
                                                      if (r13.isSome == r13.isSome) = true then
                                                        callO (bitextref28_SameSteps r12 r13) fun r14 =>
                                                          if (!r14) = true then some false
                                                          else
                                                            callO (history_Redo r4 r5.fst.snd.fst.fst) fun r15 =>
                                                              if
                                                                  (r15.fst.isSome == r15.fst.isSome &&
                                                                      (r15.fst.isSome == r15.fst.isSome &&
                                                                        r15.fst.isSome == r15.fst.isSome)) =
                                                                    true then
                                                                if (r15.snd.snd == 0) = true then
                                                                  if (r15.fst.isSome == r15.fst.isSome) = true then
                                                                    callO
                                                                      (bitextlaw30_HistoryApart_1 r15.fst
                                                                        r5.fst.snd.fst.fst)
                                                                      fun r16 =>
                                                                      callO
                                                                        (bitextlaw30_HistoryApart_1 r4
                                                                          r5.fst.snd.fst.fst)
                                                                        fun r17 =>
                                                                        if (r16.isSome == r16.isSome) = true then
                                                                          if (r17.isSome == r17.isSome) = true then
                                                                            callO (bitextref28_SameSteps r16 r17)
                                                                              fun r18 =>
                                                                              if (!r18) = true then some false
                                                                              else
                                                                                callO bitextlaw30_known fun r19 =>
                                                                                  some r19
                                                                          else none
                                                                        else none
                                                                  else none
                                                                else callO bitextlaw30_known fun r20 => some r20
                                                              else none
                                                      else none
                                                    else none
                                              else none
                                            else
                                              callO (history_Redo r4 r5.fst.snd.fst.fst) fun r21 =>
                                                if
                                                    (r21.fst.isSome == r21.fst.isSome &&
                                                        (r21.fst.isSome == r21.fst.isSome &&
                                                          r21.fst.isSome == r21.fst.isSome)) =
                                                      true then
                                                  if (r21.snd.snd == 0) = true then
                                                    if (r21.fst.isSome == r21.fst.isSome) = true then
                                                      callO (bitextlaw30_HistoryApart_1 r21.fst r5.fst.snd.fst.fst)
                                                        fun r22 =>
                                                        callO (bitextlaw30_HistoryApart_1 r4 r5.fst.snd.fst.fst)
                                                          fun r23 =>
                                                          if (r22.isSome == r22.isSome) = true then
                                                            if (r23.isSome == r23.isSome) = true then
                                                              callO (bitextref28_SameSteps r22 r23) fun r24 =>
                                                                if (!r24) = true then some false
                                                                else callO bitextlaw30_known fun r25 => some r25
                                                            else none
                                                          else none
                                                    else none
                                                  else callO bitextlaw30_known fun r26 => some r26
                                                else none
                                          else none
                                  else none
                                else none
                      else none
                  else none
                else none
end Go.Fn
/- History: what is recorded, undone or redone of one segment leaves the others' steps as they are. -/
namespace Go.Fn
open Go Go.Vs Go.Ve
def apP (id : Int) (x : HStep0) : Bool := x.2.1.1 != id
theorem apart1_eq {l : Option (List HStep0)} {id : Int} (hl : (l.getD []).length ≤ 68719476735) :
    bitextlaw30_HistoryApart_1 l id = some (accL ((l.getD []).filter (apP id))) := by
  have hloop : loopR (bitextlaw30_HistoryApart_1_l0 l id) (none, 0) = some (accL ((l.getD []).filter (apP id))) := by
    have := loopR_range (f := bitextlaw30_HistoryApart_1_l0 l id) (l.getD []).length (fun i => (accL (((l.getD []).take i).filter (apP id)), (i : Int))) (r := accL ((l.getD []).filter (apP id))) ?_ ?_ ?_
    · simpa [accL] using this
    · intro i hi
      unfold bitextlaw30_HistoryApart_1_l0
      dsimp only
      have hx : (l.getD []).getD ((i : Int)).toNat ((0, 0, 0, (0, 0), 0, none, [], 0, false), (0, 0, 0, (0, 0), 0, none, [], 0, false), [], 0, false) = (l.getD [])[i] := by
        rw [Int.toNat_natCast, List.getD_eq_getElem?_getD, List.getElem?_eq_getElem hi]; rfl
      have hw : IntKind.i64.wrap ((i : Int) + 1) = ((i + 1 : Nat) : Int) := by
        rw [wrap_i64 (by omega) (by omega)]; omega
      have hlen : (((l.getD []).take i).filter (apP id)).length ≤ i := Nat.le_trans (List.length_filter_le _ _) (by simp; omega)
      have htake : (l.getD []).take (i + 1) = (l.getD []).take i ++ [(l.getD [])[i]] := by rw [List.take_add_one, List.getElem?_eq_getElem hi]; rfl
      have hacc : ((accL (((l.getD []).take i).filter (apP id))).getD []).length = (((l.getD []).take i).filter (apP id)).length := by
        cases ((l.getD []).take i).filter (apP id) <;> rfl
      have hb : decide (0 ≤ (i : Int) ∧ (i : Int) < lenI (l.getD [])) = true := decide_eq_true (by rw [lenI_eq]; omega)
      have hc : decide ((((l.getD []).take i).filter (apP id)).length + 1 ≤ 68719476736) = true := decide_eq_true (by omega)
      refine dcT (by rw [lenI_eq]; omega) (ifT ?_ ?_)
      · rw [hb, hacc, hx]
        simp [hc]
        omega
      · rw [hw, hx, accL_snoc, htake, List.filter_append, List.filter_cons, List.filter_nil]
        show some (Sum.inl (if apP id (l.getD [])[i] = true then _ else _, _)) = _
        cases hk : apP id (l.getD [])[i] <;> simp
    · unfold bitextlaw30_HistoryApart_1_l0
      refine dcF (by rw [lenI_eq]; omega) ?_
      simp
    · have : (l.getD []).length < 68719476736 := by omega
      exact Nat.lt_of_lt_of_le this (by decide)
  unfold bitextlaw30_HistoryApart_1
  exact callT hloop (sfT (sfT rfl))
def rest (l : Option (List HStep0)) (id : Int) : Option (List HStep0) := accL ((l.getD []).filter (apP id))
theorem filter_set {p : HStep0 → Bool} : ∀ {l : List HStep0} {i : Nat} {y : HStep0}, p (l.getD i ((0, 0, 0, (0, 0), 0, none, [], 0, false), (0, 0, 0, (0, 0), 0, none, [], 0, false), [], 0, false)) = false → p y = false → (l.set i y).filter p = l.filter p
  | [], _, _, _, _ => rfl
  | x :: l, 0, y, h1, h2 => by
    have h1 : p x = false := h1
    simp [List.set, List.filter_cons, h1, h2]
  | x :: l, i + 1, y, h1, h2 => by
    have := filter_set (p := p) (l := l) (i := i) (y := y) (by simpa using h1) h2
    simp only [List.set_cons_succ, List.filter_cons, this]
theorem lastHit_hit (l : List HStep0) (seg : Int) : ∀ n : Nat, 0 ≤ lastHit l seg n → hHit seg (l.getD (lastHit l seg n).toNat ((0, 0, 0, (0, 0), 0, none, [], 0, false), (0, 0, 0, (0, 0), 0, none, [], 0, false), [], 0, false)) = true
  | 0, h => by simp [lastHit] at h
  | n + 1, h => by
    unfold lastHit at h ⊢
    split
    · rename_i hh
      rw [Int.toNat_natCast]
      exact hh
    · rename_i hh
      rw [if_neg hh] at h
      exact lastHit_hit l seg n h
theorem undo_rest {l : Option (List HStep0)} {seg : Int} (h : (undoO l seg).2.2 = 0) : rest (undoO l seg).1 seg = rest l seg := by
  have hr := lastHit_hit (l.getD []) seg (l.getD []).length
  unfold undoO at h ⊢
  generalize lastHit (l.getD []) seg (l.getD []).length = r at hr h
  by_cases h0 : r < 0
  · rw [if_pos h0] at h; cases h
  · rw [if_neg h0] at h ⊢
    split at h
    · cases h
    · rename_i hp
      rw [if_neg hp]
      have hh := hr (by omega)
      unfold hHit at hh
      rw [Bool.and_eq_true] at hh
      have hf : apP seg ((l.getD []).getD r.toNat ((0, 0, 0, (0, 0), 0, none, [], 0, false), (0, 0, 0, (0, 0), 0, none, [], 0, false), [], 0, false)) = false := by unfold apP; rw [bne, hh.1]; rfl
      unfold rest
      rw [Option.getD_some, filter_set (y := setU _ true) hf hf]
theorem redo_rest {l : Option (List HStep0)} {seg : Int} (h : (redoO l seg).2.2 = 0) : rest (redoO l seg).1 seg = rest l seg := by
  unfold redoO at h ⊢
  split at h
  · rename_i i hi
    obtain ⟨j, h1, h2, h3⟩ := scan_some hi
    unfold cR at h3
    split at h3
    · rename_i hc
      cases h3
      have hf : apP seg ((l.getD []).getD i ((0, 0, 0, (0, 0), 0, none, [], 0, false), (0, 0, 0, (0, 0), 0, none, [], 0, false), [], 0, false)) = false := by unfold apP; rw [bne, hc]; rfl
      unfold rest
      simp only
      rw [Option.getD_some, filter_set (y := setU _ false) hf hf]
    · cases h3
  · cases h
theorem record_rest {l : Option (List HStep0)} {s : HStep0} (h : (recO l s).2 = 0) : rest (recO l s).1 s.2.1.1 = rest l s.2.1.1 := by
  unfold recO at h ⊢
  split at h
  · cases h
  · rename_i h1
    rw [if_neg h1]
    split at h
    · cases h
    · rename_i h2
      rw [if_neg h2]
      unfold rest
      rw [Option.getD_some, List.filter_append, List.filter_filter]
      have e1 : [((plainS s.1, plainS s.2.1, s.2.2) : HStep0)].filter (apP s.2.1.1) = [] := by
        simp [apP, plainS]
      rw [e1, List.append_nil]
      congr 1
      refine List.filter_congr fun x _ => ?_
      unfold apP keepP
      cases (x.2.1.1 != s.2.1.1) <;> simp
theorem rest_ok {l : Option (List HStep0)} {id : Int} (h1 : ∀ x ∈ l.getD [], StepOk x) (h2 : (l.getD []).length ≤ 68719476735) : (∀ x ∈ (rest l id).getD [], StepOk x) ∧ ((rest l id).getD []).length ≤ 68719476736 := by
  unfold rest
  rw [accL_getD]
  exact ⟨fun x hx => h1 x (List.mem_filter.1 hx).1, Nat.le_trans (List.length_filter_le _ _) (by omega)⟩
theorem lastHit_snoc {l : List HStep0} {seg : Int} {y : HStep0} (h : hHit seg y = true) : lastHit (l ++ [y]) seg (l ++ [y]).length = l.length := by
  rw [show (l ++ [y]).length = l.length + 1 by simp]
  unfold lastHit
  rw [if_pos]
  rw [List.getD_eq_getElem?_getD, List.getElem?_append_right (by omega)]
  simpa using h
theorem step1_id {L : Option (List Int)} {k id : Int} {r : HSeg × Int} (h : bitextlaw30_step_1 id (L, k) = some r) : r.1.1 = id := by
  unfold bitextlaw30_step_1 at h
  cases h1 : bitextmake_Numbers_Next 3 (L, k) with
  | none => rw [h1] at h; cases h
  | some q =>
    rw [h1, callO_some] at h
    split at h
    · split at h
      · rw [show bitextlaw30_draft id (([[97], [98], [99]] : List (List UInt8)).getD (0 + q.fst.toNat) []) = some (id, 0, 0, (0, 5), 2, some [(1, ([[97], [98], [99]] : List (List UInt8)).getD (0 + q.fst.toNat) [], 0)], [97, 110, 110], 0, false) from rfl, callO_some] at h
        cases h2 : bitextmake_Numbers_Next 6 (L, q.snd) with
        | none =>
          rw [show ((L, k).fst, q.snd) = (L, q.snd) from rfl, h2] at h
          cases h
        | some p =>
          rw [show ((L, k).fst, q.snd) = (L, q.snd) from rfl, h2, callO_some] at h
          cases h
          rfl
      · cases h
    · cases h
theorem step_full {L : Option (List Int)} {k c : Int} (h : Num (L, k) c) (hc : c ≤ 100000) : Ok (bitextlaw30_step (L, k)) fun r => StepOk r.1 ∧ r.1.1.1 = r.1.2.1.1 ∧ 1 ≤ r.1.2.1.1 ∧ r.1.2.2.2.2 = false := by
  have g : ∀ {id k c : Int}, Num (L, k) c → c ≤ 1000000 → Ok (bitextlaw30_step_1 id (L, k)) fun r => (SegOk r.1 ∧ Num (L, r.2) (c + 2)) ∧ r.1.1 = id := fun h hc => by
    obtain ⟨x, hx, hh⟩ := step1_ok h hc
    exact ⟨x, hx, hh, step1_id hx⟩
  unfold bitextlaw30_step
  refine Ok.call (Next_ok h (by omega) (by decide) (by decide)) fun r hr => ?_
  have hw : IntKind.i64.wrap (1 + r.1) = 1 + r.1 := by
    have := hr.1; have := hr.2.1
    exact wrap_i64 (by omega) (by omega)
  rw [hw]
  refine Ok.call (g hr.2.2 (by omega)) fun r2 h2 => ?_
  refine Ok.call (g h2.1.2 (by omega)) fun r3 h3 => ?_
  refine Ok.call (Next_ok h3.1.2 (by omega) (by decide) (by decide)) fun r4 h4 => Ok.ret ⟨⟨h2.1.1, h3.1.1⟩, h2.2.trans h3.2.symm, ?_, rfl⟩
  show 1 ≤ r3.1.1
  rw [h3.2]
  have := hr.1
  omega
theorem apart_eq {l : Option (List HStep0)} {id : Int} (hl : (l.getD []).length ≤ 68719476735) : bitextlaw30_HistoryApart_1 l id = some (rest l id) := apart1_eq hl
theorem apart_holds {k : Option (List Int)} (hk : ∀ x ∈ k.getD [], In64 x) : bitextlaw30_HistoryApart k = some true := by
  obtain ⟨b, hb⟩ := long_total (some [k]) (by simp)
  unfold bitextlaw30_HistoryApart
  refine callT hb ?_
  cases b with
  | true => exact ifT rfl (callT known30 rfl)
  | false =>
    obtain ⟨r, hr, hN⟩ := steps_ok hk
    have h := hN.ok (by omega)
    obtain ⟨q, hq, hq2, hq3, hq4, hq5⟩ := step_full (L := k) (k := 0) (c := 0) ⟨hk, by simp, by simp⟩ (by omega)
    refine ifF (by simp) (callT (v := (k, 0)) rfl (callT hr (callT hq (callT (hrecord_eq h hq2) ?_))))
    have hrec : recO r q.1 = (some ((r.getD []).filter (keepP q.1.2.1.1) ++ [(plainS q.1.1, plainS q.1.2.1, q.1.2.2)]), 0) := by
      unfold recO
      rw [if_neg, if_neg]
      · have hf : ((r.getD []).filter (keepP q.1.2.1.1)).length ≤ (r.getD []).length := List.length_filter_le _ _
        have := hN.2
        omega
      · rw [hq3, hq5, decide_eq_false (by omega)]
        simp
    have hR := recO_ok h hq2
    have hR2 : ListOk (recO r q.1).1 := ⟨hR.1, by
      rw [hrec]
      have hf : ((r.getD []).filter (keepP q.1.2.1.1)).length ≤ (r.getD []).length := List.length_filter_le _ _
      have := hN.2
      simp only [Option.getD_some, List.length_append, List.length_singleton]
      omega⟩
    have hredo : redoO (recO r q.1).1 q.1.2.1.1 = (none, (0, 0, 0, (0, 0), 0, none, [], 0, false), 6) := by
      unfold redoO
      rw [hrec]
      simp only [Option.getD_some]
      rw [lastHit_snoc (by unfold hHit plainS; simp [hq5])]
      simp [scan]
    have hrr : rest (recO r q.1).1 q.1.2.1.1 = rest r q.1.2.1.1 := record_rest (by rw [hrec])
    have hre := rest_ok (id := q.1.2.1.1) h.1 h.2
    have same : ∀ {l : Option (List HStep0)}, rest l q.1.2.1.1 = rest r q.1.2.1.1 → bitextref28_SameSteps (rest l q.1.2.1.1) (rest r q.1.2.1.1) = some true := fun e => by rw [e]; exact sameSteps_refl hre.1 hre.2
    have hu := undoO_ok h q.1.2.1.1
    have hv := redoO_ok h q.1.2.1.1
    refine ifT (by simp) (sfT (callT (hredo_eq hR2 _) (ifT (by simp) (ifF (by rw [hrec]; simp) (ifF (by rw [hredo]; simp) ?_)))))
    refine callT (apart_eq hR2.2) (callT (apart_eq h.2) (sfT (sfT (callT (same hrr) (ifF (by simp) (callT (hundo_eq h _) (ifT (by simp) ?_)))))))
    have tail : callO (history_Redo r q.1.2.1.1) (fun r15 => if (r15.fst.isSome == r15.fst.isSome && (r15.fst.isSome == r15.fst.isSome && r15.fst.isSome == r15.fst.isSome)) = true then
        if (r15.snd.snd == 0) = true then
          if (r15.fst.isSome == r15.fst.isSome) = true then
            callO (bitextlaw30_HistoryApart_1 r15.fst q.1.2.1.1) fun r16 => callO (bitextlaw30_HistoryApart_1 r q.1.2.1.1) fun r17 =>
              if (r16.isSome == r16.isSome) = true then if (r17.isSome == r17.isSome) = true then
                callO (bitextref28_SameSteps r16 r17) fun r18 => if (!r18) = true then some false else callO bitextlaw30_known fun r19 => some r19
              else none else none
          else none
        else callO bitextlaw30_known fun r20 => some r20
      else none) = some true := by
      refine callT (hredo_eq h _) (ifT (by simp) ?_)
      by_cases hc : ((redoO r q.1.2.1.1).2.2 == 0) = true
      · exact ifT hc (sfT (callT (apart_eq hv.1.2) (callT (apart_eq h.2) (sfT (sfT (callT (same (redo_rest (by simpa using hc))) (ifF (by simp) (callT known30 rfl))))))))
      · exact ifF hc (callT known30 rfl)
    by_cases hc : ((undoO r q.1.2.1.1).2.2 == 0) = true
    · exact ifT hc (sfT (callT (apart_eq hu.1.2) (callT (apart_eq h.2) (sfT (sfT (callT (same (undo_rest (by simpa using hc))) (ifF (by simp) tail)))))))
    · exact ifF hc tail
end Go.Fn
/- History: of one segment, what is undone lies behind what is not. -/
namespace Go.Fn
open Go Go.Vs Go.Ve
def Inv (xs : List HStep0) : Prop := xs.Pairwise fun x y => x.2.1.1 = y.2.1.1 → x.2.2.2.2 = true → y.2.2.2.2 = true
theorem inv_iff {xs : List HStep0} : Inv xs ↔ ∀ i j, i < j → j < xs.length → (xs.getD i ((0, 0, 0, (0, 0), 0, none, [], 0, false), (0, 0, 0, (0, 0), 0, none, [], 0, false), [], 0, false)).2.1.1 = (xs.getD j ((0, 0, 0, (0, 0), 0, none, [], 0, false), (0, 0, 0, (0, 0), 0, none, [], 0, false), [], 0, false)).2.1.1 → (xs.getD i ((0, 0, 0, (0, 0), 0, none, [], 0, false), (0, 0, 0, (0, 0), 0, none, [], 0, false), [], 0, false)).2.2.2.2 = true → (xs.getD j ((0, 0, 0, (0, 0), 0, none, [], 0, false), (0, 0, 0, (0, 0), 0, none, [], 0, false), [], 0, false)).2.2.2.2 = true := by
  have g : ∀ {i : Nat} (h : i < xs.length), xs.getD i ((0, 0, 0, (0, 0), 0, none, [], 0, false), (0, 0, 0, (0, 0), 0, none, [], 0, false), [], 0, false) = xs[i] := fun h => by rw [List.getD_eq_getElem?_getD, List.getElem?_eq_getElem h]; rfl
  unfold Inv
  rw [List.pairwise_iff_getElem]
  constructor
  · intro h i j hij hj
    rw [g hj, g (Nat.lt_trans hij hj)]
    exact h i j _ _ hij
  · intro h i j hi hj hij
    have := h i j hij hj
    rw [g hj, g hi] at this
    exact this
theorem inv_nil : Inv [] := List.Pairwise.nil
theorem inv_rec {l : Option (List HStep0)} {s : HStep0} (h : Inv (l.getD [])) : Inv ((recO l s).1.getD []) := by
  unfold recO
  split
  · exact inv_nil
  · split
    · exact inv_nil
    · rename_i hc _
      rw [Option.getD_some]
      unfold Inv
      rw [List.pairwise_append]
      refine ⟨h.filter _, by simp, fun x hx y hy e hu => ?_⟩
      rw [List.mem_singleton] at hy
      subst hy
      have hk := (List.mem_filter.1 hx).2
      unfold keepP at hk
      have e : x.2.1.1 = s.2.1.1 := e
      rw [e, hu] at hk
      simp at hk
theorem lastHit_above (l : List HStep0) (seg : Int) : ∀ (n j : Nat), lastHit l seg n < j → j < n → hHit seg (l.getD j ((0, 0, 0, (0, 0), 0, none, [], 0, false), (0, 0, 0, (0, 0), 0, none, [], 0, false), [], 0, false)) = false
  | 0, j, _, h => absurd h (Nat.not_lt_zero _)
  | n + 1, j, h1, h2 => by
    unfold lastHit at h1
    split at h1
    · omega
    · rename_i hh
      by_cases e : j = n
      · subst e; simpa using hh
      · exact lastHit_above l seg n j h1 (by omega)
theorem getD_set {l : List HStep0} {i j : Nat} {y : HStep0} (hi : i < l.length) : (l.set i y).getD j ((0, 0, 0, (0, 0), 0, none, [], 0, false), (0, 0, 0, (0, 0), 0, none, [], 0, false), [], 0, false) = if i = j then y else l.getD j ((0, 0, 0, (0, 0), 0, none, [], 0, false), (0, 0, 0, (0, 0), 0, none, [], 0, false), [], 0, false) := by
  rw [List.getD_eq_getElem?_getD, List.getElem?_set]
  split
  · rename_i e; subst e; simp [hi]
  · rw [List.getD_eq_getElem?_getD]
theorem inv_undo {l : Option (List HStep0)} {seg : Int} (h : Inv (l.getD [])) : Inv ((undoO l seg).1.getD []) := by
  have hr := lastHit_range (l.getD []) seg (l.getD []).length
  have hh := lastHit_hit (l.getD []) seg (l.getD []).length
  have ha := lastHit_above (l.getD []) seg (l.getD []).length
  unfold undoO
  generalize lastHit (l.getD []) seg (l.getD []).length = r at hr hh ha
  split
  · exact inv_nil
  · rename_i h0
    split
    · exact inv_nil
    · rw [Option.getD_some]
      obtain ⟨m, rfl⟩ : ∃ m : Nat, r = m := ⟨r.toNat, by omega⟩
      rw [Int.toNat_natCast] at hh ⊢
      have hm : m < (l.getD []).length := by omega
      have hhm := hh (by omega)
      rw [inv_iff] at h ⊢
      intro i j hij hj e hu
      rw [List.length_set] at hj
      rw [getD_set hm] at e hu ⊢
      rw [getD_set hm] at e
      unfold hHit at hhm
      rw [Bool.and_eq_true, beq_iff_eq, Bool.not_eq_true'] at hhm
      by_cases e1 : m = j
      · rw [if_pos e1]; rfl
      · rw [if_neg e1] at e ⊢
        by_cases e2 : m = i
        · subst e2
          rw [if_pos rfl] at e
          have e : ((l.getD []).getD m ((0, 0, 0, (0, 0), 0, none, [], 0, false), (0, 0, 0, (0, 0), 0, none, [], 0, false), [], 0, false)).2.1.1 = _ := e
          have := ha j (by omega) hj
          unfold hHit at this
          rw [← e, hhm.1] at this
          simpa using this
        · rw [if_neg e2] at e hu
          exact h i j hij hj e hu
theorem scan_first {ρ : Type} {e : Nat → Option ρ} {r : ρ} : ∀ {k i : Nat}, scan e i k = some r → ∃ j, i ≤ j ∧ j < i + k ∧ e j = some r ∧ ∀ t, i ≤ t → t < j → e t = none
  | 0, i, h => by cases h
  | k + 1, i, h => by
    unfold scan at h
    cases he : e i with
    | some q =>
      rw [he] at h
      cases h
      exact ⟨i, Nat.le_refl _, by omega, he, fun t a b => by omega⟩
    | none =>
      rw [he] at h
      obtain ⟨j, h1, h2, h3, h4⟩ := scan_first h
      refine ⟨j, by omega, by omega, h3, fun t a b => ?_⟩
      by_cases ht : t = i
      · subst ht; exact he
      · exact h4 t (by omega) b
theorem cR_some {l : Option (List HStep0)} {seg : Int} {i m : Nat} (h : cR l seg i = some m) : i = m ∧ ((l.getD []).getD i ((0, 0, 0, (0, 0), 0, none, [], 0, false), (0, 0, 0, (0, 0), 0, none, [], 0, false), [], 0, false)).2.1.1 = seg := by
  unfold cR at h
  split at h
  · rename_i hc
    cases h
    exact ⟨rfl, by simpa using hc⟩
  · cases h
theorem cR_none {l : Option (List HStep0)} {seg : Int} {i : Nat} (h : cR l seg i = none) : ((l.getD []).getD i ((0, 0, 0, (0, 0), 0, none, [], 0, false), (0, 0, 0, (0, 0), 0, none, [], 0, false), [], 0, false)).2.1.1 ≠ seg := by
  unfold cR at h
  split at h
  · cases h
  · rename_i hc
    simpa using hc
theorem inv_redo {l : Option (List HStep0)} {seg : Int} (h : Inv (l.getD [])) : Inv ((redoO l seg).1.getD []) := by
  have hr := lastHit_range (l.getD []) seg (l.getD []).length
  have hh := lastHit_hit (l.getD []) seg (l.getD []).length
  unfold redoO
  generalize lastHit (l.getD []) seg (l.getD []).length = r at hr hh
  split
  · rename_i m hs
    obtain ⟨m', h1, h2, h3, h4⟩ := scan_first hs
    obtain ⟨rfl, hid⟩ := cR_some h3
    rw [Option.getD_some]
    have hm : m' < (l.getD []).length := by omega
    rw [inv_iff] at h ⊢
    intro i j hij hj e hu
    rw [List.length_set] at hj
    rw [getD_set hm] at e hu ⊢
    rw [getD_set hm] at e
    by_cases e2 : m' = i
    · rw [if_pos e2] at hu
      cases hu
    · rw [if_neg e2] at e hu
      by_cases e1 : m' = j
      · subst e1
        rw [if_pos rfl] at e
        have e : ((l.getD []).getD i ((0, 0, 0, (0, 0), 0, none, [], 0, false), (0, 0, 0, (0, 0), 0, none, [], 0, false), [], 0, false)).2.1.1 = ((l.getD []).getD m' ((0, 0, 0, (0, 0), 0, none, [], 0, false), (0, 0, 0, (0, 0), 0, none, [], 0, false), [], 0, false)).2.1.1 := e
        exfalso
        by_cases hir : r + 1 ≤ (i : Int)
        · exact cR_none (h4 i (by omega) hij) (e.trans hid)
        · obtain ⟨q, rfl⟩ : ∃ q : Nat, r = q := ⟨r.toNat, by omega⟩
          have hhm := hh (by omega)
          rw [Int.toNat_natCast] at hhm
          unfold hHit at hhm
          rw [Bool.and_eq_true, beq_iff_eq, Bool.not_eq_true'] at hhm
          by_cases hq : i = q
          · subst hq
            rw [hhm.2] at hu
            cases hu
          · have := h i q (by omega) (by omega) (by rw [e, hid, hhm.1]) hu
            rw [hhm.2] at this
            cases this
      · rw [if_neg e1] at e ⊢
        exact h i j hij hj e hu
  · exact inv_nil
theorem r28record_inv {n : Int} {l : Option (List HStep0)} {s : HStep0} (h : ListN n l) (hi : Inv (l.getD [])) (hn : n ≤ 1000000) (hs : StepOk s) : Ok (bitextref28_Record l s) fun r => ListN (n + 1) r.1 ∧ Inv (r.1.getD []) := by
  obtain ⟨x, hx, hh⟩ := r28record_ok h hn hs
  refine ⟨x, hx, hh, ?_⟩
  rw [r28record_eq (h.ok hn)] at hx
  cases hx
  exact inv_rec hi
theorem r28undo_inv {n : Int} {l : Option (List HStep0)} (h : ListN n l) (hi : Inv (l.getD [])) (hn0 : 0 ≤ n) (hn : n ≤ 1000000) (seg : Int) : Ok (bitextref28_Undo l seg) fun r => ListN n r.1 ∧ Inv (r.1.getD []) := by
  obtain ⟨x, hx, hh⟩ := r28undo_ok h hn0 hn seg
  refine ⟨x, hx, hh, ?_⟩
  rw [r28undo_eq (h.ok hn)] at hx
  cases hx
  exact inv_undo hi
theorem r28redo_inv {n : Int} {l : Option (List HStep0)} (h : ListN n l) (hi : Inv (l.getD [])) (hn0 : 0 ≤ n) (hn : n ≤ 1000000) (seg : Int) : Ok (bitextref28_Redo l seg) fun r => ListN n r.1 ∧ Inv (r.1.getD []) := by
  obtain ⟨x, hx, hh⟩ := r28redo_ok h hn0 hn seg
  refine ⟨x, hx, hh, ?_⟩
  rw [r28redo_eq (h.ok hn)] at hx
  cases hx
  exact inv_redo hi
/-- what 'steps' gives: at most twelve steps, all of them plain -/
theorem steps_inv {k : Option (List Int)} (hk : ∀ x ∈ k.getD [], In64 x) : Ok (bitextlaw30_steps k) fun r => ListN 12 r ∧ Inv (r.getD []) := by
  unfold bitextlaw30_steps
  refine Ok.call (R := fun r => r = (k, 0)) (Ok.of_eq rfl rfl) fun r hr => ?_
  subst hr
  refine Ok.call (Next_ok (c := 0) (n := 12) ⟨hk, by simp, by simp⟩ (by decide) (by decide) (by decide)) fun r2 h2 => ?_
  obtain ⟨g0, g1, gn⟩ := h2
  refine Ok.call (R := fun r => ListN 12 r ∧ Inv (r.getD [])) (Ok.loop (fun s => 0 ≤ s.2.1 ∧ s.2.1 ≤ 12 ∧ (ListN (12 - s.2.1) s.1 ∧ Inv (s.1.getD [])) ∧ Num (k, s.2.2) (1 + 8 * (12 - s.2.1))) (fun s => s.2.1.toNat) ⟨g0, by simp only; omega, ⟨ListN.nil (by simp only; omega), inv_nil⟩, gn.le (by simp only; omega)⟩ ?_ ?_) fun r hr => Ok.ret hr
  · exact Nat.lt_of_le_of_lt (show _ ≤ 1000000 by simp only; omega) (by decide)
  · rintro ⟨l, m, p⟩ ⟨h0, h1, ⟨hl, hi⟩, hn⟩
    simp only at h0 h1 hl hi hn
    unfold bitextlaw30_steps_l0
    refine Ok.dec (fun hm => ?_) (fun hm => Ok.ret ⟨hl.le (by omega), hi⟩)
    simp only at hm
    have hw : IntKind.i64.wrap (m - 1) = m - 1 := wrap_i64 (by omega) (by omega)
    refine Ok.call (step_ok hn (by omega)) fun r2 h2 => ?_
    refine Ok.call (r28record_inv hl hi (by omega) h2.1) fun r3 h3 => ?_
    refine Ok.pos (by simp) (Ok.call (Next_ok h2.2 (by omega) (by decide) (by decide)) fun r4 h4 => ?_)
    have fin : ∀ (q : Option (List HStep0)) (j : Int) (c : Int), ListN (12 - m + 1) q ∧ Inv (q.getD []) → Num (k, j) c → c ≤ 1 + 8 * (12 - (m - 1)) → 0 ≤ m - 1 ∧ m - 1 ≤ 12 ∧ (ListN (12 - (m - 1)) q ∧ Inv (q.getD [])) ∧ Num (k, j) (1 + 8 * (12 - (m - 1))) := fun q j c a b d => ⟨by omega, by omega, ⟨a.1.le (by omega), a.2⟩, b.le d⟩
    refine Ok.ite (fun _ => ?_) fun _ => Ok.ite (fun _ => ?_) fun _ => ?_
    · refine Ok.call (Next_ok h4.2.2 (by omega) (by decide) (by decide)) fun r5 h5 => ?_
      refine Ok.call (r28undo_inv hl hi (by omega) (by omega) _) fun r6 h6 => Ok.pos (by simp) (Ok.ret ?_)
      simp only [hw]
      refine ⟨fin _ _ _ ?_ h5.2.2 (by omega), by omega⟩
      split
      · exact ⟨h6.1.le (by omega), h6.2⟩
      · exact ⟨hl.le (by omega), hi⟩
    · refine Ok.call (Next_ok h4.2.2 (by omega) (by decide) (by decide)) fun r5 h5 => ?_
      refine Ok.call (r28redo_inv hl hi (by omega) (by omega) _) fun r6 h6 => Ok.pos (by simp) (Ok.ret ?_)
      simp only [hw]
      refine ⟨fin _ _ _ ?_ h5.2.2 (by omega), by omega⟩
      split
      · exact ⟨h6.1.le (by omega), h6.2⟩
      · exact ⟨hl.le (by omega), hi⟩
    · refine Ok.pos (by simp) (Ok.ret ?_)
      simp only [hw]
      refine ⟨fin _ _ _ ?_ h4.2.2 (by omega), by omega⟩
      split
      · exact h3
      · exact ⟨hl.le (by omega), hi⟩
end Go.Fn
/- History: undoing and redoing are each other's inverses. -/
namespace Go.Fn
open Go Go.Vs Go.Ve
abbrev at' (l : List HStep0) (i : Nat) : HStep0 := l.getD i ((0, 0, 0, (0, 0), 0, none, [], 0, false), (0, 0, 0, (0, 0), 0, none, [], 0, false), [], 0, false)
theorem lastHit_eq {l : List HStep0} {seg : Int} {m : Nat} : ∀ {n : Nat}, m < n → hHit seg (l.getD m ((0, 0, 0, (0, 0), 0, none, [], 0, false), (0, 0, 0, (0, 0), 0, none, [], 0, false), [], 0, false)) = true → (∀ j, m < j → j < n → hHit seg (l.getD j ((0, 0, 0, (0, 0), 0, none, [], 0, false), (0, 0, 0, (0, 0), 0, none, [], 0, false), [], 0, false)) = false) → lastHit l seg n = m
  | 0, h, _, _ => absurd h (Nat.not_lt_zero _)
  | n + 1, h, h1, h2 => by
    unfold lastHit
    by_cases e : m = n
    · subst e; rw [if_pos h1]
    · rw [if_neg (by rw [h2 n (by omega) (by omega)]; simp)]
      exact lastHit_eq (by omega) h1 fun j a b => h2 j a (by omega)
theorem lastHit_below {l : List HStep0} {seg : Int} {m : Nat} : ∀ {n : Nat}, (∀ j, m ≤ j → j < n → hHit seg (l.getD j ((0, 0, 0, (0, 0), 0, none, [], 0, false), (0, 0, 0, (0, 0), 0, none, [], 0, false), [], 0, false)) = false) → lastHit l seg n < m ∨ (n = 0 ∧ m = 0)
  | 0, _ => by
    by_cases h : m = 0
    · exact .inr ⟨rfl, h⟩
    · left; simp [lastHit]; omega
  | n + 1, h => by
    unfold lastHit
    by_cases e : m ≤ n
    · rw [if_neg (by rw [h n e (by omega)]; simp)]
      rcases lastHit_below (n := n) fun j a b => h j a (by omega) with q | ⟨rfl, q⟩
      · exact .inl q
      · left; simp [lastHit]; omega
    · left
      split
      · omega
      · have := (lastHit_range l seg n).2
        omega
theorem undo_shape {l : Option (List HStep0)} {seg : Int} (h : (undoO l seg).2.2 = 0) : ∃ m : Nat, m < (l.getD []).length ∧ lastHit (l.getD []) seg (l.getD []).length = m ∧ hHit seg ((l.getD []).getD m ((0, 0, 0, (0, 0), 0, none, [], 0, false), (0, 0, 0, (0, 0), 0, none, [], 0, false), [], 0, false)) = true ∧
    undoO l seg = (some ((l.getD []).set m (setU ((l.getD []).getD m ((0, 0, 0, (0, 0), 0, none, [], 0, false), (0, 0, 0, (0, 0), 0, none, [], 0, false), [], 0, false)) true)), ((l.getD []).getD m ((0, 0, 0, (0, 0), 0, none, [], 0, false), (0, 0, 0, (0, 0), 0, none, [], 0, false), [], 0, false)).1, 0) := by
  have hr := lastHit_range (l.getD []) seg (l.getD []).length
  have hh := lastHit_hit (l.getD []) seg (l.getD []).length
  unfold undoO at h ⊢
  generalize lastHit (l.getD []) seg (l.getD []).length = r at hr hh h
  by_cases h0 : r < 0
  · rw [if_pos h0] at h; cases h
  · obtain ⟨m, rfl⟩ : ∃ m : Nat, r = m := ⟨r.toNat, by omega⟩
    rw [if_neg h0] at h ⊢
    rw [Int.toNat_natCast] at h ⊢
    have hhm := hh (by omega)
    rw [Int.toNat_natCast] at hhm
    split at h
    · cases h
    · rename_i hp
      rw [if_neg hp]
      exact ⟨m, by omega, rfl, hhm, rfl⟩
theorem redo_shape {l : Option (List HStep0)} {seg : Int} (h : (redoO l seg).2.2 = 0) : ∃ m : Nat, m < (l.getD []).length ∧ lastHit (l.getD []) seg (l.getD []).length < m ∧ ((l.getD []).getD m ((0, 0, 0, (0, 0), 0, none, [], 0, false), (0, 0, 0, (0, 0), 0, none, [], 0, false), [], 0, false)).2.1.1 = seg ∧
    redoO l seg = (some ((l.getD []).set m (setU ((l.getD []).getD m ((0, 0, 0, (0, 0), 0, none, [], 0, false), (0, 0, 0, (0, 0), 0, none, [], 0, false), [], 0, false)) false)), ((l.getD []).getD m ((0, 0, 0, (0, 0), 0, none, [], 0, false), (0, 0, 0, (0, 0), 0, none, [], 0, false), [], 0, false)).2.1, 0) := by
  unfold redoO at h ⊢
  generalize lastHit (l.getD []) seg (l.getD []).length = r at h
  split at h
  · rename_i m hs
    obtain ⟨m', h1, h2, h3, h4⟩ := scan_first hs
    obtain ⟨rfl, hid⟩ := cR_some h3
    exact ⟨m', by omega, by omega, hid, rfl⟩
  · cases h
/-- redoing finds m -/
theorem redo_at {l : Option (List HStep0)} {seg : Int} {m : Nat} (hm : m < (l.getD []).length) (h1 : lastHit (l.getD []) seg (l.getD []).length < m) (hid : ((l.getD []).getD m ((0, 0, 0, (0, 0), 0, none, [], 0, false), (0, 0, 0, (0, 0), 0, none, [], 0, false), [], 0, false)).2.1.1 = seg)
    (h2 : ∀ j : Nat, lastHit (l.getD []) seg (l.getD []).length < j → j < m → ((l.getD []).getD j ((0, 0, 0, (0, 0), 0, none, [], 0, false), (0, 0, 0, (0, 0), 0, none, [], 0, false), [], 0, false)).2.1.1 ≠ seg) :
    redoO l seg = (some ((l.getD []).set m (setU ((l.getD []).getD m ((0, 0, 0, (0, 0), 0, none, [], 0, false), (0, 0, 0, (0, 0), 0, none, [], 0, false), [], 0, false)) false)), ((l.getD []).getD m ((0, 0, 0, (0, 0), 0, none, [], 0, false), (0, 0, 0, (0, 0), 0, none, [], 0, false), [], 0, false)).2.1, 0) := by
  have hr := lastHit_range (l.getD []) seg (l.getD []).length
  unfold redoO
  generalize lastHit (l.getD []) seg (l.getD []).length = r at hr h1 h2
  have hcm : cR l seg m = some m := by unfold cR; rw [if_pos (by rw [beq_iff_eq]; exact hid)]
  cases hs : scan (cR l seg) (r + 1).toNat ((l.getD []).length - (r + 1).toNat) with
  | none =>
    have := (scan_none _ _).1 hs m (by omega) (by omega)
    rw [hcm] at this
    cases this
  | some q =>
    obtain ⟨m', a1, a2, a3, a4⟩ := scan_first hs
    obtain ⟨rfl, b⟩ := cR_some a3
    have : m' = m := by
      by_cases e : m' < m
      · exact absurd b (h2 m' (by omega) e)
      · by_cases e2 : m < m'
        · have := a4 m (by omega) e2
          rw [hcm] at this
          cases this
        · omega
    subst this
    rfl
theorem set_self {l : List HStep0} {m : Nat} (hm : m < l.length) : l.set m (l.getD m ((0, 0, 0, (0, 0), 0, none, [], 0, false), (0, 0, 0, (0, 0), 0, none, [], 0, false), [], 0, false)) = l := by
  apply List.ext_getElem?
  intro j
  rw [List.getElem?_set]
  split
  · rename_i e
    subst e
    rw [List.getD_eq_getElem?_getD, List.getElem?_eq_getElem hm]
    rfl
  · rfl
theorem hit_u {seg : Int} {x : HStep0} : hHit seg x = true ↔ x.2.1.1 = seg ∧ x.2.2.2.2 = false := by
  unfold hHit
  rw [Bool.and_eq_true, beq_iff_eq, Bool.not_eq_true']
theorem setU_self {x : HStep0} {b : Bool} (h : x.2.2.2.2 = b) : setU x b = x := by
  obtain ⟨a, c, d, e, u⟩ := x
  have h : u = b := h
  rw [← h]
  rfl
/-- undone, then redone: the list as it was -/
theorem undo_redo {l : Option (List HStep0)} {seg : Int} (hi : Inv (l.getD [])) (h : (undoO l seg).2.2 = 0) : ∃ m : Nat, m < (l.getD []).length ∧ lastHit (l.getD []) seg (l.getD []).length = m ∧ hHit seg ((l.getD []).getD m ((0, 0, 0, (0, 0), 0, none, [], 0, false), (0, 0, 0, (0, 0), 0, none, [], 0, false), [], 0, false)) = true ∧
    undoO l seg = (some ((l.getD []).set m (setU ((l.getD []).getD m ((0, 0, 0, (0, 0), 0, none, [], 0, false), (0, 0, 0, (0, 0), 0, none, [], 0, false), [], 0, false)) true)), ((l.getD []).getD m ((0, 0, 0, (0, 0), 0, none, [], 0, false), (0, 0, 0, (0, 0), 0, none, [], 0, false), [], 0, false)).1, 0) ∧ redoO (undoO l seg).1 seg = (some (l.getD []), ((l.getD []).getD m ((0, 0, 0, (0, 0), 0, none, [], 0, false), (0, 0, 0, (0, 0), 0, none, [], 0, false), [], 0, false)).2.1, 0) := by
  obtain ⟨m, hm, hl, hh, e⟩ := undo_shape h
  refine ⟨m, hm, hl, hh, e, ?_⟩
  have ha := lastHit_above (l.getD []) seg (l.getD []).length
  rw [hl] at ha
  have hu := hit_u.1 hh
  rw [e]
  have hx : ((l.getD []).set m (setU ((l.getD []).getD m ((0, 0, 0, (0, 0), 0, none, [], 0, false), (0, 0, 0, (0, 0), 0, none, [], 0, false), [], 0, false)) true)).getD m ((0, 0, 0, (0, 0), 0, none, [], 0, false), (0, 0, 0, (0, 0), 0, none, [], 0, false), [], 0, false) = setU ((l.getD []).getD m ((0, 0, 0, (0, 0), 0, none, [], 0, false), (0, 0, 0, (0, 0), 0, none, [], 0, false), [], 0, false)) true := by rw [getD_set hm, if_pos rfl]
  have hlen : ((l.getD []).set m (setU ((l.getD []).getD m ((0, 0, 0, (0, 0), 0, none, [], 0, false), (0, 0, 0, (0, 0), 0, none, [], 0, false), [], 0, false)) true)).length = (l.getD []).length := List.length_set
  have r := redo_at (l := some ((l.getD []).set m (setU ((l.getD []).getD m ((0, 0, 0, (0, 0), 0, none, [], 0, false), (0, 0, 0, (0, 0), 0, none, [], 0, false), [], 0, false)) true))) (seg := seg) (m := m) (by rw [Option.getD_some, hlen]; exact hm) ?_ (by rw [Option.getD_some, hx]; exact hu.1) ?_
  · rw [r, Option.getD_some, hx, List.set_set]
    have e2 : setU (setU ((l.getD []).getD m ((0, 0, 0, (0, 0), 0, none, [], 0, false), (0, 0, 0, (0, 0), 0, none, [], 0, false), [], 0, false)) true) false = (l.getD []).getD m ((0, 0, 0, (0, 0), 0, none, [], 0, false), (0, 0, 0, (0, 0), 0, none, [], 0, false), [], 0, false) := setU_self (x := (l.getD []).getD m ((0, 0, 0, (0, 0), 0, none, [], 0, false), (0, 0, 0, (0, 0), 0, none, [], 0, false), [], 0, false)) hu.2
    rw [e2, set_self hm]
    rfl
  · rw [Option.getD_some]
    rcases lastHit_below (l := (l.getD []).set m (setU ((l.getD []).getD m ((0, 0, 0, (0, 0), 0, none, [], 0, false), (0, 0, 0, (0, 0), 0, none, [], 0, false), [], 0, false)) true)) (seg := seg) (m := m) (n := ((l.getD []).set m (setU ((l.getD []).getD m ((0, 0, 0, (0, 0), 0, none, [], 0, false), (0, 0, 0, (0, 0), 0, none, [], 0, false), [], 0, false)) true)).length) (fun j a b => by
      rw [getD_set hm]
      split
      · cases hq : hHit seg (setU ((l.getD []).getD m ((0, 0, 0, (0, 0), 0, none, [], 0, false), (0, 0, 0, (0, 0), 0, none, [], 0, false), [], 0, false)) true) with
        | false => rfl
        | true => have := (hit_u.1 hq).2; cases this
      · exact ha j (by omega) (by omega)) with q | ⟨q, _⟩
    · exact q
    · omega
  · rw [Option.getD_some]
    intro j h1 h2 hid
    have hb := lastHit_above ((l.getD []).set m (setU ((l.getD []).getD m ((0, 0, 0, (0, 0), 0, none, [], 0, false), (0, 0, 0, (0, 0), 0, none, [], 0, false), [], 0, false)) true)) seg _ j h1 (by omega)
    rw [getD_set hm, if_neg (by omega)] at hb hid
    have huj : ((l.getD []).getD j ((0, 0, 0, (0, 0), 0, none, [], 0, false), (0, 0, 0, (0, 0), 0, none, [], 0, false), [], 0, false)).2.2.2.2 = true := by
      cases hq : ((l.getD []).getD j ((0, 0, 0, (0, 0), 0, none, [], 0, false), (0, 0, 0, (0, 0), 0, none, [], 0, false), [], 0, false)).2.2.2.2 with
      | true => rfl
      | false => rw [hit_u.2 ⟨hid, hq⟩] at hb; cases hb
    have := inv_iff.1 hi j m h2 hm (hid.trans hu.1.symm) huj
    rw [hu.2] at this
    cases this
/-- what Of gives ends in the last hit -/
theorem filter_last {l : List HStep0} {seg : Int} {m : Nat} (hm : m < l.length) (hh : hHit seg (l.getD m ((0, 0, 0, (0, 0), 0, none, [], 0, false), (0, 0, 0, (0, 0), 0, none, [], 0, false), [], 0, false)) = true) (ha : ∀ j, m < j → j < l.length → hHit seg (l.getD j ((0, 0, 0, (0, 0), 0, none, [], 0, false), (0, 0, 0, (0, 0), 0, none, [], 0, false), [], 0, false)) = false) :
    ∃ F, l.filter (ofP seg) = F ++ [l.getD m ((0, 0, 0, (0, 0), 0, none, [], 0, false), (0, 0, 0, (0, 0), 0, none, [], 0, false), [], 0, false)] := by
  have g : l.getD m ((0, 0, 0, (0, 0), 0, none, [], 0, false), (0, 0, 0, (0, 0), 0, none, [], 0, false), [], 0, false) = l[m] := by rw [List.getD_eq_getElem?_getD, List.getElem?_eq_getElem hm]; rfl
  refine ⟨(l.take m).filter (ofP seg), ?_⟩
  have e : l = l.take m ++ ([l[m]] ++ l.drop (m + 1)) := by
    rw [List.singleton_append, List.getElem_cons_drop, List.take_append_drop]
  have e1 : ([l[m]] : List HStep0).filter (ofP seg) = [l[m]] := by
    rw [List.filter_cons, if_pos, List.filter_nil]
    rw [← g]; exact hh
  have e2 : (l.drop (m + 1)).filter (ofP seg) = [] := by
    rw [List.filter_eq_nil_iff]
    intro x hx
    obtain ⟨i, hi, rfl⟩ := List.mem_iff_getElem.1 hx
    rw [List.length_drop] at hi
    have := ha (m + 1 + i) (by omega) (by omega)
    rw [List.getD_eq_getElem?_getD, List.getElem?_eq_getElem (by omega)] at this
    rw [List.getElem_drop]
    show ¬ hHit seg _ = true
    rw [Option.getD_some] at this
    rw [this]
    simp
  rw [g]
  conv => lhs; rw [e]
  rw [List.filter_append, List.filter_append, e1, e2, List.append_nil]
/-- redone, then undone: the list as it was -/
theorem redo_undo {l : Option (List HStep0)} {seg : Int} (h : (redoO l seg).2.2 = 0) : ∃ m : Nat, m < (l.getD []).length ∧ redoO l seg = (some ((l.getD []).set m (setU ((l.getD []).getD m ((0, 0, 0, (0, 0), 0, none, [], 0, false), (0, 0, 0, (0, 0), 0, none, [], 0, false), [], 0, false)) false)), ((l.getD []).getD m ((0, 0, 0, (0, 0), 0, none, [], 0, false), (0, 0, 0, (0, 0), 0, none, [], 0, false), [], 0, false)).2.1, 0) ∧
    lastHit ((redoO l seg).1.getD []) seg ((redoO l seg).1.getD []).length = m ∧ hHit seg (setU ((l.getD []).getD m ((0, 0, 0, (0, 0), 0, none, [], 0, false), (0, 0, 0, (0, 0), 0, none, [], 0, false), [], 0, false)) false) = true ∧
    (∀ j, m < j → j < ((redoO l seg).1.getD []).length → hHit seg (((redoO l seg).1.getD []).getD j ((0, 0, 0, (0, 0), 0, none, [], 0, false), (0, 0, 0, (0, 0), 0, none, [], 0, false), [], 0, false)) = false) ∧ setU ((l.getD []).getD m ((0, 0, 0, (0, 0), 0, none, [], 0, false), (0, 0, 0, (0, 0), 0, none, [], 0, false), [], 0, false)) true = (l.getD []).getD m ((0, 0, 0, (0, 0), 0, none, [], 0, false), (0, 0, 0, (0, 0), 0, none, [], 0, false), [], 0, false) := by
  obtain ⟨m, hm, hl, hid, e⟩ := redo_shape h
  have ha := lastHit_above (l.getD []) seg (l.getD []).length
  have hlen : ((l.getD []).set m (setU ((l.getD []).getD m ((0, 0, 0, (0, 0), 0, none, [], 0, false), (0, 0, 0, (0, 0), 0, none, [], 0, false), [], 0, false)) false)).length = (l.getD []).length := List.length_set
  have hb : ∀ j, m < j → j < ((l.getD []).set m (setU ((l.getD []).getD m ((0, 0, 0, (0, 0), 0, none, [], 0, false), (0, 0, 0, (0, 0), 0, none, [], 0, false), [], 0, false)) false)).length → hHit seg (((l.getD []).set m (setU ((l.getD []).getD m ((0, 0, 0, (0, 0), 0, none, [], 0, false), (0, 0, 0, (0, 0), 0, none, [], 0, false), [], 0, false)) false)).getD j ((0, 0, 0, (0, 0), 0, none, [], 0, false), (0, 0, 0, (0, 0), 0, none, [], 0, false), [], 0, false)) = false := fun j a b => by
    rw [getD_set hm, if_neg (by omega)]
    exact ha j (by omega) (by omega)
  have hy : hHit seg (setU ((l.getD []).getD m ((0, 0, 0, (0, 0), 0, none, [], 0, false), (0, 0, 0, (0, 0), 0, none, [], 0, false), [], 0, false)) false) = true := hit_u.2 ⟨hid, rfl⟩
  refine ⟨m, hm, e, ?_, hy, ?_, ?_⟩
  · rw [e, Option.getD_some]
    exact lastHit_eq (by omega) (by rw [getD_set hm, if_pos rfl]; exact hy) hb
  · rw [e, Option.getD_some]
    exact hb
  · refine setU_self ?_
    have := ha m hl hm
    cases hq : ((l.getD []).getD m ((0, 0, 0, (0, 0), 0, none, [], 0, false), (0, 0, 0, (0, 0), 0, none, [], 0, false), [], 0, false)).2.2.2.2 with
    | true => rfl
    | false => rw [hit_u.2 ⟨hid, hq⟩] at this; cases this
end Go.Fn
/- History: HistoryInverts. -/
namespace Go.Fn
open Go Go.Vs Go.Ve
theorem lastStep_eq {l : Option (List HStep0)} {g : Int} {F : List HStep0} {x : HStep0} (h : ListOk l) (e : (l.getD []).filter (ofP g) = F ++ [x]) : bitextlaw30_lastStep l g = some x := by
  have hF : F.length + 1 ≤ (l.getD []).length := by
    have := List.length_filter_le (ofP g) (l.getD [])
    rw [e] at this
    simpa using this
  have h2 := h.2
  have hw : IntKind.i64.wrap (lenI (F ++ [x]) - 1) = (F.length : Int) := by
    rw [lenI_eq, wrap_i64 (by simp <;> omega) (by simp <;> omega)]
    simp
  unfold bitextlaw30_lastStep
  refine callT (of_eq h.1 h.2) (sfT ?_)
  rw [accL_getD, e, hw]
  refine ifF (by rw [beq_iff_eq, lenI_eq]; simp; omega) (ifT ?_ ?_)
  · rw [Bool.and_eq_true, decide_eq_true_iff, nlt_iff, lenI_eq]
    simp
    omega
  · rw [Nat.zero_add, Int.toNat_natCast, List.getD_eq_getElem?_getD, List.getElem?_append_right (by omega)]
    simp
theorem inv_tail {r : Option (List HStep0)} {g : Int} (h : ListOk r) (hi : Inv (r.getD [])) :
    (callO (history_Redo r g) fun r20 =>
      if (r20.fst.isSome == r20.fst.isSome && (r20.fst.isSome == r20.fst.isSome && r20.fst.isSome == r20.fst.isSome)) = true then
        if (r20.snd.snd == 0) = true then
          if (r20.fst.isSome == r20.fst.isSome) = true then
            callO (bitextlaw30_lastStep r20.fst g) fun r21 =>
              if (r20.snd.fst.snd.snd.snd.fst.fst == r21.fst.snd.snd.snd.fst.fst && (r20.snd.fst.snd.snd.snd.fst.snd == r21.fst.snd.snd.snd.fst.snd && true)) = true then
                callO (history_Undo r20.fst g) fun r22 =>
                  if (r22.fst.isSome == r22.fst.isSome && (r22.fst.isSome == r22.fst.isSome && r22.fst.isSome == r22.fst.isSome)) = true then
                    if (r22.snd.snd != 0) = true then some false
                    else
                      if (r22.fst.isSome == r22.fst.isSome) = true then
                        callO (bitextref28_SameSteps r22.fst r) fun r23 =>
                          if (!r23) = true then some false
                          else
                            callO (bitextlaw30_lastStep r20.fst g) fun r24 =>
                              callO (bitextref26_SameSegment r24.fst r22.snd.fst) fun r25 =>
                                if (!r25) = true then some false else callO bitextlaw30_known fun r26 => some r26
                      else none
                  else none
              else callO bitextlaw30_known fun r27 => some r27
          else none
        else callO bitextlaw30_known fun r28 => some r28
      else none) = some true := by
  refine callT (hredo_eq h _) (ifT (by simp) ?_)
  by_cases hc : ((redoO r g).2.2 == 0) = true
  · have hv := redoO_ok h g
    obtain ⟨m, hm, e, hl, hy, hb, hs⟩ := redo_undo (l := r) (seg := g) (by simpa using hc)
    have hok : ListOk (redoO r g).1 := hv.1
    refine ifT hc (sfT ?_)
    rw [e] at hok hl hb ⊢
    rw [Option.getD_some] at hl hb
    have hlen : ((r.getD []).set m (setU ((r.getD []).getD m ((0, 0, 0, (0, 0), 0, none, [], 0, false), (0, 0, 0, (0, 0), 0, none, [], 0, false), [], 0, false)) false)).length = (r.getD []).length := List.length_set
    have hx : ((r.getD []).set m (setU ((r.getD []).getD m ((0, 0, 0, (0, 0), 0, none, [], 0, false), (0, 0, 0, (0, 0), 0, none, [], 0, false), [], 0, false)) false)).getD m ((0, 0, 0, (0, 0), 0, none, [], 0, false), (0, 0, 0, (0, 0), 0, none, [], 0, false), [], 0, false) = setU ((r.getD []).getD m ((0, 0, 0, (0, 0), 0, none, [], 0, false), (0, 0, 0, (0, 0), 0, none, [], 0, false), [], 0, false)) false := by rw [getD_set hm, if_pos rfl]
    obtain ⟨F, hF⟩ := filter_last (l := (r.getD []).set m (setU ((r.getD []).getD m ((0, 0, 0, (0, 0), 0, none, [], 0, false), (0, 0, 0, (0, 0), 0, none, [], 0, false), [], 0, false)) false)) (seg := g) (m := m) (by omega) (by rw [hx]; exact hy) hb
    rw [hx] at hF
    have hls := lastStep_eq hok (g := g) (F := F) (x := setU ((r.getD []).getD m ((0, 0, 0, (0, 0), 0, none, [], 0, false), (0, 0, 0, (0, 0), 0, none, [], 0, false), [], 0, false)) false) (by rw [Option.getD_some]; exact hF)
    refine callT hls ?_
    have hxok : StepOk ((r.getD []).getD m ((0, 0, 0, (0, 0), 0, none, [], 0, false), (0, 0, 0, (0, 0), 0, none, [], 0, false), [], 0, false)) := h.1 _ (mem_getD hm)
    by_cases hp : (((r.getD []).getD m ((0, 0, 0, (0, 0), 0, none, [], 0, false), (0, 0, 0, (0, 0), 0, none, [], 0, false), [], 0, false)).2.1.2.2.2.1.1 == ((r.getD []).getD m ((0, 0, 0, (0, 0), 0, none, [], 0, false), (0, 0, 0, (0, 0), 0, none, [], 0, false), [], 0, false)).1.2.2.2.1.1 && (((r.getD []).getD m ((0, 0, 0, (0, 0), 0, none, [], 0, false), (0, 0, 0, (0, 0), 0, none, [], 0, false), [], 0, false)).2.1.2.2.2.1.2 == ((r.getD []).getD m ((0, 0, 0, (0, 0), 0, none, [], 0, false), (0, 0, 0, (0, 0), 0, none, [], 0, false), [], 0, false)).1.2.2.2.1.2 && true)) = true
    · refine ifT hp ?_
      have hun : undoO (some ((r.getD []).set m (setU ((r.getD []).getD m ((0, 0, 0, (0, 0), 0, none, [], 0, false), (0, 0, 0, (0, 0), 0, none, [], 0, false), [], 0, false)) false))) g = (some (r.getD []), ((r.getD []).getD m ((0, 0, 0, (0, 0), 0, none, [], 0, false), (0, 0, 0, (0, 0), 0, none, [], 0, false), [], 0, false)).1, 0) := by
        unfold undoO
        simp only [Option.getD_some, hl, Int.toNat_natCast, hx]
        have hpp : ¬ (!(((r.getD []).getD m ((0, 0, 0, (0, 0), 0, none, [], 0, false), (0, 0, 0, (0, 0), 0, none, [], 0, false), [], 0, false)).1.2.2.2.1.1 == ((r.getD []).getD m ((0, 0, 0, (0, 0), 0, none, [], 0, false), (0, 0, 0, (0, 0), 0, none, [], 0, false), [], 0, false)).2.1.2.2.2.1.1 && (((r.getD []).getD m ((0, 0, 0, (0, 0), 0, none, [], 0, false), (0, 0, 0, (0, 0), 0, none, [], 0, false), [], 0, false)).1.2.2.2.1.2 == ((r.getD []).getD m ((0, 0, 0, (0, 0), 0, none, [], 0, false), (0, 0, 0, (0, 0), 0, none, [], 0, false), [], 0, false)).2.1.2.2.2.1.2 && true))) = true := by
          rw [Bool.and_true, Bool.and_eq_true, beq_iff_eq, beq_iff_eq] at hp
          rw [hp.1, hp.2]
          simp
        rw [if_neg (show ¬ ((m : Int) < 0) by omega)]
        refine (if_neg hpp).trans ?_
        rw [List.set_set]
        show (some ((r.getD []).set m (setU ((r.getD []).getD m ((0, 0, 0, (0, 0), 0, none, [], 0, false), (0, 0, 0, (0, 0), 0, none, [], 0, false), [], 0, false)) true)), _, _) = _
        rw [hs, set_self hm]
        rfl
      refine callT ((hundo_eq hok g).trans (congrArg some hun)) (ifT (by simp) (ifF (by simp) (sfT (callT (v := true) ?_ (ifF (by simp) (callT hls (callT (sameSeg_refl hxok.1) (ifF (by simp) (callT known30 rfl)))))))))
      cases r with
      | none => exact absurd hm (by simp)
      | some xs => exact sameSteps_refl h.1 (Nat.le_succ_of_le h.2)
    · exact ifF hp (callT known30 rfl)
  · exact ifF hc (callT known30 rfl)
theorem inverts_holds {a0 : Option (List Int)} {a1 : Int} (hk : ∀ x ∈ a0.getD [], In64 x) (ha : In64 a1) : bitextlaw30_HistoryInverts a0 a1 = some true := by
  obtain ⟨b, hb⟩ := long_total (some [a0]) (by simp)
  unfold bitextlaw30_HistoryInverts
  refine callT hb ?_
  cases b with
  | true => exact ifT rfl (callT known30 rfl)
  | false =>
    obtain ⟨r, hr, hN, hi⟩ := steps_inv hk
    have h := hN.ok (by omega)
    refine ifF (by simp) (callT hr (callT (place_eq ha (by omega) (by omega)) ?_))
    generalize IntKind.i64.wrap (1 + a1 % 3) = g
    have tail := inv_tail (g := g) h hi
    have hu := undoO_ok h g
    refine callT (hundo_eq h g) (ifT (by simp) ?_)
    by_cases hc : ((undoO r g).2.2 == 0) = true
    · obtain ⟨m, hm, hl, hh, e, e2⟩ := undo_redo (l := r) (seg := g) hi (by simpa using hc)
      have hab := lastHit_above (r.getD []) g (r.getD []).length
      rw [hl] at hab
      obtain ⟨F, hF⟩ := filter_last hm hh (fun j a b => hab j (by omega) b)
      have hxok : StepOk ((r.getD []).getD m ((0, 0, 0, (0, 0), 0, none, [], 0, false), (0, 0, 0, (0, 0), 0, none, [], 0, false), [], 0, false)) := h.1 _ (mem_getD hm)
      have hFl : F.length + 1 ≤ (r.getD []).length := by
        have := List.length_filter_le (ofP g) (r.getD [])
        rw [hF] at this
        simpa using this
      have h2 := h.2
      have hw : IntKind.i64.wrap (lenI (F ++ [(r.getD []).getD m ((0, 0, 0, (0, 0), 0, none, [], 0, false), (0, 0, 0, (0, 0), 0, none, [], 0, false), [], 0, false)]) - 1) = (F.length : Int) := by
        rw [lenI_eq, wrap_i64 (by simp <;> omega) (by simp <;> omega)]
        simp
      have hat : (F ++ [(r.getD []).getD m ((0, 0, 0, (0, 0), 0, none, [], 0, false), (0, 0, 0, (0, 0), 0, none, [], 0, false), [], 0, false)]).getD (0 + ((F.length : Int)).toNat) ((0, 0, 0, (0, 0), 0, none, [], 0, false), (0, 0, 0, (0, 0), 0, none, [], 0, false), [], 0, false) = (r.getD []).getD m ((0, 0, 0, (0, 0), 0, none, [], 0, false), (0, 0, 0, (0, 0), 0, none, [], 0, false), [], 0, false) := by
        rw [Nat.zero_add, Int.toNat_natCast, List.getD_eq_getElem?_getD, List.getElem?_append_right (by omega)]
        simp
      have hsame : bitextref28_SameSteps (some (r.getD [])) r = some true := by
        cases r with
        | none => exact absurd hm (by simp)
        | some xs => exact sameSteps_refl h.1 (Nat.le_succ_of_le h.2)
      have hg1 : 0 ≤ (F.length : Int) ∧ (F.length : Int) < lenI (F ++ [(r.getD []).getD m ((0, 0, 0, (0, 0), 0, none, [], 0, false), (0, 0, 0, (0, 0), 0, none, [], 0, false), [], 0, false)]) := by rw [lenI_eq]; simp; omega
      have hg2 : nlt (0 + ((F.length : Int)).toNat) (F ++ [(r.getD []).getD m ((0, 0, 0, (0, 0), 0, none, [], 0, false), (0, 0, 0, (0, 0), 0, none, [], 0, false), [], 0, false)]).length = true := by rw [nlt_iff]; simp
      refine ifT hc (sfT (callT ((hredo_eq hu.1 g).trans (congrArg some e2)) (ifT (by simp) (callT (of_eq h.1 h.2) (sfT (ifF (by simp) (sfT (callT hsame (ifF (by simp) ?_)))))))))
      rw [accL_getD, hF, hw, hat, e]
      refine ifF (by rw [beq_iff_eq, lenI_eq]; simp; omega) (dcT hg1 (ifT hg2 (callT (sameSeg_refl hxok.1) (ifF (by simp) (dcT hg1 (ifT hg2 (callT (sameSeg_refl hxok.2) (ifF (by simp) tail))))))))
    · exact ifF hc tail
end Go.Fn
