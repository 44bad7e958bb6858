/- The statement ProjectLimitsUptoCardSaid of the given program is proved here: for every input whose bulk is at most the bound of its row, the law returns true and changes nothing. Part 6 of 7. -/
import Derived.Lib.Bytealg
import Derived.KernelRfl
import Derived.Test.YtmoineigflegeaaGreatDoorV5
namespace Go.Fn
open Go Go.Vs Go.Ve
set_option linter.unusedVariables false
def bitextmake_Place : Int → Int → Option Int :=
 fun x n =>
  if decide (n ≠ 0) = true then
   some (if decide (x.tmod n < 0) = true then IntKind.i64.wrap (x.tmod n + n) else x.tmod n)
  else none
end Go.Fn
namespace Go.Fn
open Go Go.Vs Go.Ve
abbrev LimDoc := Int × Option (List (Bool × List UInt8 × List UInt8))
abbrev LimSeg := Int × Int × Int × (Int × Int) × Int × Option (List (Int × List UInt8 × Int)) × List UInt8 × Int × Bool
abbrev LimPrj := Option (List LimDoc) × Option (List LimSeg) × Int
def lim_doc : LimDoc := (3, some [(false, [], [116, 101, 120, 116, 10, 34]), (true, [49], [97]), (false, [], [34])])
def lim_segs (n : Nat) : List LimSeg := (List.range n).map fun (i : Nat) => ((i : Int) + 1, (i : Int), 1, (0, 1), 0, none, [], 0, false)
noncomputable def lim_parse (f : Int) (s : List UInt8) : Option (LimDoc × Int × Int) := oneO (3, [116, 101, 120, 116, 10, 34, 97, 34]) (lim_doc, 0, 0) (f, s)
def lim_docs (n : Nat) : Option (List LimDoc) := some (List.replicate n lim_doc)
noncomputable def lim_build (d : Option (List LimDoc)) : Option (LimPrj × Int) :=
 orO (oneO (lim_docs 15) ((lim_docs 15, some (lim_segs 15), 16), 0) d) (orO (oneO (lim_docs 16) ((lim_docs 16, some (lim_segs 16), 17), 0) d) (oneO (lim_docs 17) ((none, none, 0), 3) d))
noncomputable def lim_validate (p : LimPrj) : Option Int := orO (oneO (lim_docs 15, none, 1) 0 p) (orO (oneO (lim_docs 16, none, 1) 0 p) (oneO (lim_docs 17, none, 1) 3 p))
def lim_known : Option Bool := some true
end Go.Fn
namespace Go.Fn
open Go Go.Vs Go.Ve
set_option linter.unusedVariables false
noncomputable section
def bitextlaw26_ProjectLimits_l0 : (Int × Option (List (Bool × List UInt8 × List UInt8))) × Int × Int →
  Option (List (Int × Option (List (Bool × List UInt8 × List UInt8)))) × Int →
   Option
    (Option (List (Int × Option (List (Bool × List UInt8 × List UInt8)))) × Int ⊕
     Option (List (Int × Option (List (Bool × List UInt8 × List UInt8))))) :=
 fun r1 s1 =>
  if decide (s1.snd > 0) = true then
   if
     (decide (0 + (s1.fst.getD []).length = (s1.fst.getD []).length) &&
       (decide ((s1.fst.getD []).length + 1 ≤ 68719476736) && s1.fst.isSome == s1.fst.isSome)) =
      true then
    some (Sum.inl (some (s1.fst.getD [] ++ [r1.fst]), IntKind.i64.wrap (s1.snd - 1)))
   else none
  else some (Sum.inr s1.fst)
def bitextlaw26_ProjectLimits : Int → Option Bool :=
 fun n =>
  callO (lim_parse 3 [116, 101, 120, 116, 10, 34, 97, 34]) fun r1 =>
   callO (bitextmake_Place n 3) fun r2 =>
    callO (loopR (bitextlaw26_ProjectLimits_l0 r1) (none, IntKind.i64.wrap (IntKind.i64.wrap (r2 + 16) - 1)))
     fun r3 =>
     if (r3.isSome == r3.isSome) = true then
      callO (lim_build r3) fun r4 =>
       if (r4.snd == if decide (lenI (r3.getD []) > 16) = true then 3 else 0) = true then
        if (r4.snd != 0) = true then
         callO (lim_validate (r3, none, 1)) fun r5 =>
          if (r5 == if decide (lenI (r3.getD []) > 16) = true then 3 else 0) = true then
           callO lim_known fun r6 => some r6
          else some false
        else
         if (lenI (r4.fst.snd.fst.getD []) == lenI (r3.getD [])) = true then
          callO (lim_validate (r3, none, 1)) fun r7 =>
           if (r7 == if decide (lenI (r3.getD []) > 16) = true then 3 else 0) = true then
            callO lim_known fun r8 => some r8
           else some false
         else some false
       else some false
     else none
end
end Go.Fn
namespace Go.Fn
open Go Go.Vs Go.Ve
set_option linter.unusedVariables false
def bitextref7_field_l0 : List UInt8 → Int → Option (Int ⊕ Int) :=
 fun data s1 =>
  if
    (!decide (s1 < lenI data) ||
      decide (0 ≤ s1) &&
       (nlt s1.toNat data.length &&
        (byteI (data.getD s1.toNat 0) != 34 ||
         (!decide (IntKind.i64.wrap (s1 + 1) < lenI data) ||
          decide (0 ≤ IntKind.i64.wrap (s1 + 1)) && nlt (IntKind.i64.wrap (s1 + 1)).toNat data.length)))) =
     true then
   if
     (decide (s1 < lenI data) &&
       (byteI (data.getD s1.toNat 0) != 34 ||
        decide (IntKind.i64.wrap (s1 + 1) < lenI data) &&
         byteI (data.getD (IntKind.i64.wrap (s1 + 1)).toNat 0) == 34)) =
      true then
    if (decide (0 ≤ s1) && nlt s1.toNat data.length) = true then
     some
      (Sum.inl
       (IntKind.i64.wrap
        ((if (byteI (data.getD s1.toNat 0) == 34) = true then IntKind.i64.wrap (s1 + 1) else s1) + 1)))
    else none
   else some (Sum.inr s1)
  else none
def bitextref7_field_l1 : List UInt8 → Int → Option (Int ⊕ Int) :=
 fun data s1 =>
  if
    (!decide (s1 < lenI data) ||
      decide (0 ≤ s1) &&
       (nlt s1.toNat data.length &&
        (!byteI (data.getD s1.toNat 0) != 34 ||
         decide (0 ≤ s1) &&
          (nlt s1.toNat data.length &&
           (!byteI (data.getD s1.toNat 0) != 44 || decide (0 ≤ s1) && nlt s1.toNat data.length))))) =
     true then
   if
     (decide (s1 < lenI data) &&
       (byteI (data.getD s1.toNat 0) != 34 &&
        (byteI (data.getD s1.toNat 0) != 44 && byteI (data.getD s1.toNat 0) != 10))) =
      true then
    some (Sum.inl (IntKind.i64.wrap (s1 + 1)))
   else some (Sum.inr s1)
  else none
def bitextref7_field : List UInt8 → Int → Option (Int × Bool × Bool) :=
 fun data at' =>
  if (!decide (at' < lenI data) || decide (0 ≤ at') && nlt at'.toNat data.length) = true then
   if (decide (at' < lenI data) && byteI (data.getD at'.toNat 0) == 34) = true then
    callO (loopR (bitextref7_field_l0 data) (IntKind.i64.wrap (at' + 1))) fun r1 =>
     if decide (r1 ≥ lenI data) = true then some (0, true, false)
     else
      if
        (IntKind.i64.wrap (r1 + 1) == lenI data ||
          decide (0 ≤ IntKind.i64.wrap (r1 + 1)) &&
           (nlt (IntKind.i64.wrap (r1 + 1)).toNat data.length &&
            (byteI (data.getD (IntKind.i64.wrap (r1 + 1)).toNat 0) == 44 ||
             decide (0 ≤ IntKind.i64.wrap (r1 + 1)) && nlt (IntKind.i64.wrap (r1 + 1)).toNat data.length))) =
         true then
       some
        (if (IntKind.i64.wrap (r1 + 1) == lenI data) = true then IntKind.i64.wrap (r1 + 1)
         else
          if (byteI (data.getD (IntKind.i64.wrap (r1 + 1)).toNat 0) == 44) = true then IntKind.i64.wrap (r1 + 1)
          else IntKind.i64.wrap (r1 + 1),
         if (IntKind.i64.wrap (r1 + 1) == lenI data) = true then
          decide (at' < lenI data) && byteI (data.getD at'.toNat 0) == 34
         else
          if (byteI (data.getD (IntKind.i64.wrap (r1 + 1)).toNat 0) == 44) = true then
           decide (at' < lenI data) && byteI (data.getD at'.toNat 0) == 34
          else decide (at' < lenI data) && byteI (data.getD at'.toNat 0) == 34,
         IntKind.i64.wrap (r1 + 1) == lenI data ||
          (byteI (data.getD (IntKind.i64.wrap (r1 + 1)).toNat 0) == 44 ||
           byteI (data.getD (IntKind.i64.wrap (r1 + 1)).toNat 0) == 10))
      else none
   else
    callO (loopR (bitextref7_field_l1 data) at') fun r2 =>
     if
       (r2 == lenI data ||
         decide (0 ≤ r2) &&
          (nlt r2.toNat data.length &&
           (byteI (data.getD r2.toNat 0) == 44 || decide (0 ≤ r2) && nlt r2.toNat data.length))) =
        true then
      some
       (if (r2 == lenI data) = true then r2 else if (byteI (data.getD r2.toNat 0) == 44) = true then r2 else r2,
        if (r2 == lenI data) = true then decide (at' < lenI data) && byteI (data.getD at'.toNat 0) == 34
        else
         if (byteI (data.getD r2.toNat 0) == 44) = true then
          decide (at' < lenI data) && byteI (data.getD at'.toNat 0) == 34
         else decide (at' < lenI data) && byteI (data.getD at'.toNat 0) == 34,
        r2 == lenI data || (byteI (data.getD r2.toNat 0) == 44 || byteI (data.getD r2.toNat 0) == 10))
     else none
  else none
end Go.Fn
namespace Go.Fn
open Go Go.Vs Go.Ve
set_option linter.unusedVariables false
def internal_bytealg_IndexByteString : List UInt8 → Int → Option Int :=
 fun s c => some (Lib.indexByte s c.toNat.toUInt8)
end Go.Fn
namespace Go.Fn
open Go Go.Vs Go.Ve
set_option linter.unusedVariables false
def internal_stringslite_IndexByte : List UInt8 → Int → Option Int :=
 fun s c => callO (internal_bytealg_IndexByteString s c) fun r1 => some r1
end Go.Fn
namespace Go.Fn
open Go Go.Vs Go.Ve
set_option linter.unusedVariables false
def strings_IndexByte : List UInt8 → Int → Option Int :=
 fun s c => callO (internal_stringslite_IndexByte s c) fun r1 => some r1
end Go.Fn
namespace Go.Fn
open Go Go.Vs Go.Ve
set_option linter.unusedVariables false
def sheet_field_l0 : List UInt8 → Int → Option (Int ⊕ Int) :=
 fun data s1 =>
  if decide (s1 < lenI data) = true then
   if (decide (0 ≤ s1) && nlt s1.toNat data.length) = true then
    if (byteI (data.getD s1.toNat 0) != 34) = true then some (Sum.inl (IntKind.i64.wrap (s1 + 1)))
    else
     if
       (!decide (IntKind.i64.wrap (s1 + 1) < lenI data) ||
         decide (0 ≤ IntKind.i64.wrap (s1 + 1)) && nlt (IntKind.i64.wrap (s1 + 1)).toNat data.length) =
        true then
      if
        (decide (IntKind.i64.wrap (s1 + 1) < lenI data) &&
          byteI (data.getD (IntKind.i64.wrap (s1 + 1)).toNat 0) == 34) =
         true then
       some (Sum.inl (IntKind.i64.wrap (s1 + 2)))
      else some (Sum.inr s1)
     else none
   else none
  else some (Sum.inr s1)
def sheet_field_l1 : List UInt8 → Int → Option (Int ⊕ Int) :=
 fun data s1 =>
  if decide (s1 < lenI data) = true then
   if decide (0 ≤ s1) = true then
    if nlt s1.toNat data.length = true then
     callO (strings_IndexByte [34, 44, 10] (Int.ofNat (data.getD s1.toNat 0).toNat)) fun r1 =>
      if decide (r1 < 0) = true then some (Sum.inl (IntKind.i64.wrap (s1 + 1))) else some (Sum.inr s1)
    else none
   else none
  else some (Sum.inr s1)
def sheet_field : List UInt8 → Int → Option (Int × Bool × Bool) :=
 fun data at' =>
  if (!decide (at' < lenI data) || decide (0 ≤ at') && nlt at'.toNat data.length) = true then
   if (decide (at' < lenI data) && byteI (data.getD at'.toNat 0) == 34) = true then
    callO (loopR (sheet_field_l0 data) (IntKind.i64.wrap (at' + 1))) fun r1 =>
     if decide (r1 ≥ lenI data) = true then some (0, true, false)
     else
      if
        (IntKind.i64.wrap (r1 + 1) == lenI data ||
          decide (0 ≤ IntKind.i64.wrap (r1 + 1)) &&
           (nlt (IntKind.i64.wrap (r1 + 1)).toNat data.length &&
            (byteI (data.getD (IntKind.i64.wrap (r1 + 1)).toNat 0) == 44 ||
             decide (0 ≤ IntKind.i64.wrap (r1 + 1)) && nlt (IntKind.i64.wrap (r1 + 1)).toNat data.length))) =
         true then
       some
        (if (IntKind.i64.wrap (r1 + 1) == lenI data) = true then IntKind.i64.wrap (r1 + 1)
         else
          if (byteI (data.getD (IntKind.i64.wrap (r1 + 1)).toNat 0) == 44) = true then IntKind.i64.wrap (r1 + 1)
          else IntKind.i64.wrap (r1 + 1),
         true,
         IntKind.i64.wrap (r1 + 1) == lenI data ||
          (byteI (data.getD (IntKind.i64.wrap (r1 + 1)).toNat 0) == 44 ||
           byteI (data.getD (IntKind.i64.wrap (r1 + 1)).toNat 0) == 10))
      else none
   else
    callO (loopR (sheet_field_l1 data) at') fun r2 =>
     if
       (r2 == lenI data ||
         decide (0 ≤ r2) &&
          (nlt r2.toNat data.length &&
           (byteI (data.getD r2.toNat 0) == 44 || decide (0 ≤ r2) && nlt r2.toNat data.length))) =
        true then
      some
       (if (r2 == lenI data) = true then r2 else if (byteI (data.getD r2.toNat 0) == 44) = true then r2 else r2,
        false, r2 == lenI data || (byteI (data.getD r2.toNat 0) == 44 || byteI (data.getD r2.toNat 0) == 10))
     else none
  else none
end Go.Fn
namespace Go.Fn
open Go Go.Vs Go.Ve
set_option linter.unusedVariables false
def slices_Equal_api_Part_l0 : Option (List (Bool × List UInt8 × List UInt8)) →
  Option (List (Bool × List UInt8 × List UInt8)) → Int → Option (Int ⊕ Bool ⊕ Unit) :=
 fun a_s1 a_s2 s1 =>
  if decide (s1 < lenI (a_s1.getD [])) = true then
   if (decide (0 ≤ s1 ∧ s1 < lenI (a_s1.getD [])) && decide (0 ≤ s1 ∧ s1 < lenI (a_s2.getD []))) = true then
    if
      (!(((a_s1.getD []).getD s1.toNat (false, [], [])).fst == ((a_s2.getD []).getD s1.toNat (false, [], [])).fst &&
         (decide
           (((a_s1.getD []).getD s1.toNat (false, [], [])).snd.fst =
            ((a_s2.getD []).getD s1.toNat (false, [], [])).snd.fst) &&
          (decide
            (((a_s1.getD []).getD s1.toNat (false, [], [])).snd.snd =
             ((a_s2.getD []).getD s1.toNat (false, [], [])).snd.snd) &&
           true)))) =
       true then
     some (Sum.inr (Sum.inl false))
    else some (Sum.inl (IntKind.i64.wrap (s1 + 1)))
   else none
  else some (Sum.inr (Sum.inr ()))
def slices_Equal_api_Part : Option (List (Bool × List UInt8 × List UInt8)) → Option (List (Bool × List UInt8 × List UInt8)) → Option Bool :=
 fun a_s1 a_s2 =>
  if (lenI (a_s1.getD []) != lenI (a_s2.getD [])) = true then some false
  else callO (loopR (slices_Equal_api_Part_l0 a_s1 a_s2) 0) fun r1 => sumO r1 (fun r2 => some r2) fun r3 => some true
end Go.Fn
namespace Go.Fn
open Go Go.Vs Go.Ve
set_option linter.unusedVariables false
def item_width : Int × List UInt8 × Int → Option Int :=
 fun x => if (x.fst == 1) = true then some (Int.ofNat x.snd.fst.length) else some 1
end Go.Fn
namespace Go.Fn
open Go Go.Vs Go.Ve
set_option linter.unusedVariables false
def item_Length_l0 : Option (List (Int × List UInt8 × Int)) → Int × Int → Option (Int × Int ⊕ Int) :=
 fun f s1 =>
  if decide (s1.snd < lenI (f.getD [])) = true then
   if decide (0 ≤ s1.snd ∧ s1.snd < lenI (f.getD [])) = true then
    callO (item_width ((f.getD []).getD s1.snd.toNat (0, [], 0))) fun r1 =>
     some (Sum.inl (IntKind.i64.wrap (s1.fst + r1), IntKind.i64.wrap (s1.snd + 1)))
   else none
  else some (Sum.inr s1.fst)
def item_Length : Option (List (Int × List UInt8 × Int)) → Option Int :=
 fun f => callO (loopR (item_Length_l0 f) (0, 0)) fun r1 => some r1
end Go.Fn
namespace Go.Fn
open Go Go.Vs Go.Ve
set_option linter.unusedVariables false
def item_Slice_d_l0 : Option (List (Int × List UInt8 × Int)) →
  Int →
   Int →
    Option (List (Int × List UInt8 × Int)) × Int × Int →
     Option (Option (List (Int × List UInt8 × Int)) × Int × Int ⊕ Option (List (Int × List UInt8 × Int))) :=
 fun f from' to s1 =>
  if decide (s1.snd.snd < lenI (f.getD [])) = true then
   if decide (0 ≤ s1.snd.snd ∧ s1.snd.snd < lenI (f.getD [])) = true then
    callO (item_width ((f.getD []).getD s1.snd.snd.toNat (0, [], 0))) fun r1 =>
     if
       (!decide (maxI from' s1.snd.fst < minI to (IntKind.i64.wrap (s1.snd.fst + r1))) ||
         (!((f.getD []).getD s1.snd.snd.toNat (0, [], 0)).fst == 1 ||
           decide
            (0 ≤ IntKind.i64.wrap (maxI from' s1.snd.fst - s1.snd.fst) ∧
             IntKind.i64.wrap (maxI from' s1.snd.fst - s1.snd.fst) ≤
               IntKind.i64.wrap (minI to (IntKind.i64.wrap (s1.snd.fst + r1)) - s1.snd.fst) ∧
              IntKind.i64.wrap (minI to (IntKind.i64.wrap (s1.snd.fst + r1)) - s1.snd.fst) ≤
               lenI ((f.getD []).getD s1.snd.snd.toNat (0, [], 0)).snd.fst)) &&
          (decide (0 + (s1.fst.getD []).length = (s1.fst.getD []).length) &&
           (decide ((s1.fst.getD []).length + 1 ≤ 68719476736) && s1.fst.isSome == s1.fst.isSome))) =
        true then
      some
       (Sum.inl
        (if decide (maxI from' s1.snd.fst < minI to (IntKind.i64.wrap (s1.snd.fst + r1))) = true then
          some
           (s1.fst.getD [] ++
            [(((f.getD []).getD s1.snd.snd.toNat (0, [], 0)).fst,
              if (((f.getD []).getD s1.snd.snd.toNat (0, [], 0)).fst == 1) = true then
               subL (IntKind.i64.wrap (maxI from' s1.snd.fst - s1.snd.fst))
                (IntKind.i64.wrap (minI to (IntKind.i64.wrap (s1.snd.fst + r1)) - s1.snd.fst))
                ((f.getD []).getD s1.snd.snd.toNat (0, [], 0)).snd.fst
              else ((f.getD []).getD s1.snd.snd.toNat (0, [], 0)).snd.fst,
              ((f.getD []).getD s1.snd.snd.toNat (0, [], 0)).snd.snd)])
         else s1.fst,
         IntKind.i64.wrap (s1.snd.fst + r1), IntKind.i64.wrap (s1.snd.snd + 1)))
     else none
   else none
  else some (Sum.inr s1.fst)
def item_Slice_d : Option (List (Int × List UInt8 × Int)) → Int → Int → Option (Option (List (Int × List UInt8 × Int)) × Bool) :=
 fun f from' to =>
  if decide (from' < 0) = true then some (none, false)
  else
   if decide (to < from') = true then some (none, false)
   else
    callO (item_Length f) fun r1 =>
     if decide (to > r1) = true then some (none, false)
     else
      callO (loopR (item_Slice_d_l0 f from' to) (none, 0, 0)) fun r2 =>
       if (r2.isSome == r2.isSome) = true then if (r2.isSome == r2.isSome) = true then some (r2, true) else none
       else none
end Go.Fn
namespace Go.Fn
open Go Go.Vs Go.Ve
set_option linter.unusedVariables false
def segment_reversed_l0 : List UInt8 → List Int × Int → Option (List Int × Int ⊕ List Int) :=
 fun s s1 =>
  if decide (s1.snd < lenI (List.replicate (lenI s).toNat (0 : Int))) = true then
   if
     (decide (0 ≤ IntKind.i64.wrap (IntKind.i64.wrap (lenI s - 1) - s1.snd)) &&
       (nlt (IntKind.i64.wrap (IntKind.i64.wrap (lenI s - 1) - s1.snd)).toNat s.length &&
        (decide (0 ≤ s1.snd ∧ s1.snd < lenI s1.fst) && nlt (0 + s1.snd.toNat) s1.fst.length))) =
      true then
    some
     (Sum.inl
      (s1.fst.set (0 + s1.snd.toNat)
        (byteI (s.getD (IntKind.i64.wrap (IntKind.i64.wrap (lenI s - 1) - s1.snd)).toNat 0)),
       IntKind.i64.wrap (s1.snd + 1)))
   else none
  else some (Sum.inr s1.fst)
def segment_reversed : List UInt8 → Option (List UInt8) :=
 fun s =>
  if decide (0 ≤ lenI s ∧ lenI s ≤ lenI s ∧ lenI s ≤ 68719476736) = true then
   callO (loopR (segment_reversed_l0 s) (List.replicate (lenI s).toNat 0, 0)) fun r1 => some (ofBytesI r1)
  else none
end Go.Fn
namespace Go.Fn
open Go Go.Vs Go.Ve
set_option linter.unusedVariables false
def bitextref7_begins : List UInt8 → List UInt8 → Option Bool :=
 fun s t =>
  if (!decide (lenI s ≥ lenI t) || decide ((0 : Int) ≤ 0 ∧ 0 ≤ lenI t ∧ lenI t ≤ lenI s)) = true then
   some (decide (lenI s ≥ lenI t) && decide (subL 0 (lenI t) s = t))
  else none
end Go.Fn
namespace Go.Fn
open Go Go.Vs Go.Ve
set_option linter.unusedVariables false
def bitextref7_text : Int → Option (Int × List UInt8 × Int) :=
 fun b => some (1, ofBytesI [b], 0)
end Go.Fn
namespace Go.Fn
open Go Go.Vs Go.Ve
set_option linter.unusedVariables false
def bitextref7_sheet : List UInt8 → Option ((Int × List UInt8 × Int) × Int) :=
 fun s =>
  if (true && nlt 0 s.length) = true then
   if (byteI (s.getD 0 0) == 34) = true then
    callO (bitextref7_begins s [34, 34]) fun r1 =>
     if r1 = true then callO (bitextref7_text 34) fun r2 => some (r2, 2) else some ((0, [], 0), 0)
   else
    if (byteI (s.getD 0 0) == 123) = true then
     callO (bitextref7_begins s [123, 123]) fun r3 =>
      if r3 = true then callO (bitextref7_text 123) fun r4 => some (r4, 2) else none
    else
     if nlt 0 s.length = true then callO (bitextref7_text (Int.ofNat (s.getD 0 0).toNat)) fun r5 => some (r5, 1)
     else none
  else none
end Go.Fn
namespace Go.Fn
open Go Go.Vs Go.Ve
set_option linter.unusedVariables false
def bitextref7_element : Int → List UInt8 → Option ((Int × List UInt8 × Int) × Int) :=
 fun format s => if (!format == 1 && !format == 2) = true then callO (bitextref7_sheet s) fun r1 => some r1 else none
end Go.Fn
namespace Go.Fn
open Go Go.Vs Go.Ve
set_option linter.unusedVariables false
def bitextref3_Normalize_l0 : Option (List (Int × List UInt8 × Int)) →
  Option (List (Int × List UInt8 × Int)) × Int →
   Option (Option (List (Int × List UInt8 × Int)) × Int ⊕ Option (List (Int × List UInt8 × Int))) :=
 fun f s1 =>
  if decide (s1.snd < lenI (f.getD [])) = true then
   if
     (decide (0 ≤ s1.snd ∧ s1.snd < lenI (f.getD [])) &&
       if (((f.getD []).getD s1.snd.toNat (0, [], 0)).fst != 1) = true then
        decide (0 + (s1.fst.getD []).length = (s1.fst.getD []).length) &&
         (decide ((s1.fst.getD []).length + 1 ≤ 68719476736) && s1.fst.isSome == s1.fst.isSome)
       else
        decide (((f.getD []).getD s1.snd.toNat (0, [], 0)).snd.fst = []) ||
         (!decide (lenI (s1.fst.getD []) > 0) ||
           decide
             (0 ≤ IntKind.i64.wrap (lenI (s1.fst.getD []) - 1) ∧
              IntKind.i64.wrap (lenI (s1.fst.getD []) - 1) < lenI (s1.fst.getD [])) &&
            nlt (0 + (IntKind.i64.wrap (lenI (s1.fst.getD []) - 1)).toNat) (s1.fst.getD []).length) &&
          if
            (decide (lenI (s1.fst.getD []) > 0) &&
              ((s1.fst.getD []).getD (0 + (IntKind.i64.wrap (lenI (s1.fst.getD []) - 1)).toNat)
                 (0, [], 0)).fst ==
               1) =
             true then
           decide
             (0 ≤ IntKind.i64.wrap (lenI (s1.fst.getD []) - 1) ∧
              IntKind.i64.wrap (lenI (s1.fst.getD []) - 1) < lenI (s1.fst.getD [])) &&
            (nlt (0 + (IntKind.i64.wrap (lenI (s1.fst.getD []) - 1)).toNat) (s1.fst.getD []).length &&
             (decide
               (((s1.fst.getD []).getD (0 + (IntKind.i64.wrap (lenI (s1.fst.getD []) - 1)).toNat)
                     (0, [], 0)).snd.fst.length +
                 ((f.getD []).getD s1.snd.toNat (0, [], 0)).snd.fst.length ≤
                1152921504606846976) &&
              (decide
                (0 ≤ IntKind.i64.wrap (lenI (s1.fst.getD []) - 1) ∧
                 IntKind.i64.wrap (lenI (s1.fst.getD []) - 1) < lenI (s1.fst.getD [])) &&
               nlt (0 + (IntKind.i64.wrap (lenI (s1.fst.getD []) - 1)).toNat) (s1.fst.getD []).length)))
          else
           decide (0 + (s1.fst.getD []).length = (s1.fst.getD []).length) &&
            (decide ((s1.fst.getD []).length + 1 ≤ 68719476736) && s1.fst.isSome == s1.fst.isSome)) =
      true then
    some
     (Sum.inl
      (if (((f.getD []).getD s1.snd.toNat (0, [], 0)).fst != 1) = true then
        some (s1.fst.getD [] ++ [(f.getD []).getD s1.snd.toNat (0, [], 0)])
       else
        if decide (((f.getD []).getD s1.snd.toNat (0, [], 0)).snd.fst = []) = true then s1.fst
        else
         some
          (if
            (decide (lenI (s1.fst.getD []) > 0) &&
              ((s1.fst.getD []).getD (0 + (IntKind.i64.wrap (lenI (s1.fst.getD []) - 1)).toNat)
                 (0, [], 0)).fst ==
               1) =
             true then
           (s1.fst.getD []).set (0 + (IntKind.i64.wrap (lenI (s1.fst.getD []) - 1)).toNat)
            (1,
             ((s1.fst.getD []).getD (0 + (IntKind.i64.wrap (lenI (s1.fst.getD []) - 1)).toNat)
                 (0, [], 0)).snd.fst ++
              ((f.getD []).getD s1.snd.toNat (0, [], 0)).snd.fst,
             0)
          else s1.fst.getD [] ++ [(1, ((f.getD []).getD s1.snd.toNat (0, [], 0)).snd.fst, 0)]),
       IntKind.i64.wrap (s1.snd + 1)))
   else none
  else some (Sum.inr s1.fst)
def bitextref3_Normalize : Option (List (Int × List UInt8 × Int)) → Option (Option (List (Int × List UInt8 × Int))) :=
 fun f =>
  callO (loopR (bitextref3_Normalize_l0 f) (none, 0)) fun r1 =>
   if (r1.isSome == r1.isSome) = true then if (r1.isSome == r1.isSome) = true then some r1 else none else none
end Go.Fn
namespace Go.Fn
open Go Go.Vs Go.Ve
set_option linter.unusedVariables false
def bitextref3_Concat : Option (List (Int × List UInt8 × Int)) →
  Option (List (Int × List UInt8 × Int)) → Option (Option (List (Int × List UInt8 × Int))) :=
 fun a b =>
  if decide ((a.getD []).length ≤ 68719476736) = true then
   if decide (0 + ((optL (a.getD [])).getD []).length = ((optL (a.getD [])).getD []).length) = true then
    if decide (((optL (a.getD [])).getD []).length + (b.getD []).length ≤ 68719476736) = true then
     if ((optL (a.getD [])).isSome == (optL (a.getD [])).isSome) = true then
      if ((appL (optL (a.getD [])) (b.getD [])).isSome == (appL (optL (a.getD [])) (b.getD [])).isSome) = true then
       callO (bitextref3_Normalize (appL (optL (a.getD [])) (b.getD []))) fun r1 =>
        if (r1.isSome == r1.isSome) = true then if (r1.isSome == r1.isSome) = true then some r1 else none
        else none
      else none
     else none
    else none
   else none
  else none
end Go.Fn
namespace Go.Fn
open Go Go.Vs Go.Ve
set_option linter.unusedVariables false
def bitextref1_decimal_l0 : Int × List UInt8 → Option (Int × List UInt8 ⊕ List UInt8) :=
 fun s1 =>
  if (true && decide (1 + s1.snd.length ≤ 1152921504606846976)) = true then
   if (IntKind.i64.wrap (s1.fst.tdiv 10) == 0) = true then
    some (Sum.inr (ofBytesI [IntKind.u8.wrap (IntKind.i64.wrap (48 + s1.fst.tmod 10))] ++ s1.snd))
   else
    some
     (Sum.inl
      (IntKind.i64.wrap (s1.fst.tdiv 10),
       ofBytesI [IntKind.u8.wrap (IntKind.i64.wrap (48 + s1.fst.tmod 10))] ++ s1.snd))
  else none
def bitextref1_decimal : Int → Option (List UInt8) :=
 fun n => callO (loopR bitextref1_decimal_l0 (n, [])) fun r1 => some r1
end Go.Fn
namespace Go.Fn
open Go Go.Vs Go.Ve
set_option linter.unusedVariables false
def bitextref1_Decimal : Int → Option (List UInt8) :=
 fun n =>
  if (decide (n < 0) && decide (n > -4611686018427387904)) = true then
   callO (bitextref1_decimal (IntKind.i64.wrap (0 - n))) fun r1 =>
    if decide (1 + r1.length ≤ 1152921504606846976) = true then some (45 :: r1) else none
  else callO (bitextref1_decimal (maxI n 0)) fun r2 => some r2
end Go.Fn
namespace Go.Fn
open Go Go.Vs Go.Ve
set_option linter.unusedVariables false
def bitextref3_Name_l0 : List UInt8 → Int → Option (Int ⊕ List UInt8 ⊕ Unit) :=
 fun s s1 =>
  if decide (s1 < lenI s) = true then
   if (decide (0 ≤ s1) && nlt s1.toNat s.length) = true then
    if (byteI (s.getD s1.toNat 0) == 32) = true then
     if decide ((0 : Int) ≤ 0 ∧ 0 ≤ s1 ∧ s1 ≤ lenI s) = true then some (Sum.inr (Sum.inl (subL 0 s1 s))) else none
    else some (Sum.inl (IntKind.i64.wrap (s1 + 1)))
   else none
  else some (Sum.inr (Sum.inr ()))
def bitextref3_Name : List UInt8 → Option (List UInt8) :=
 fun s => callO (loopR (bitextref3_Name_l0 s) 0) fun r1 => sumO r1 (fun r2 => some r2) fun r3 => some s
end Go.Fn
namespace Go.Fn
open Go Go.Vs Go.Ve
set_option linter.unusedVariables false
def class_Of : Int → Option Int :=
 fun b =>
  if (b == 9 || (b == 10 || (b == 13 || b == 32))) = true then some 2
  else
   if (decide (b < 32) || b == 127) = true then some 1
   else
    if (decide (b ≥ 48) && decide (b ≤ 57)) = true then some 3
    else
     if
       (if decide (b ≥ 97) = true then
         decide (b ≤ 122) ||
          if decide (b ≥ 65) = true then decide (b ≤ 90) || decide (b ≥ 128) else decide (b ≥ 128)
        else if decide (b ≥ 65) = true then decide (b ≤ 90) || decide (b ≥ 128) else decide (b ≥ 128)) =
        true then
      some 4
     else some 5
end Go.Fn
namespace Go.Fn
open Go Go.Vs Go.Ve
set_option linter.unusedVariables false
def class_Trim_l0 : List UInt8 → Int → Option (Int ⊕ Int) :=
 fun s s1 =>
  if decide (s1 < lenI s) = true then
   if decide (0 ≤ s1) = true then
    if nlt s1.toNat s.length = true then
     callO (class_Of (Int.ofNat (s.getD s1.toNat 0).toNat)) fun r1 =>
      if (r1 == 2) = true then some (Sum.inl (IntKind.i64.wrap (s1 + 1))) else some (Sum.inr s1)
    else none
   else none
  else some (Sum.inr s1)
def class_Trim_l1 : List UInt8 → Int → Int → Option (Int ⊕ Int) :=
 fun s r1 s1 =>
  if decide (s1 > r1) = true then
   if decide (0 ≤ IntKind.i64.wrap (s1 - 1)) = true then
    if nlt (IntKind.i64.wrap (s1 - 1)).toNat s.length = true then
     callO (class_Of (Int.ofNat (s.getD (IntKind.i64.wrap (s1 - 1)).toNat 0).toNat)) fun r2 =>
      if (r2 == 2) = true then some (Sum.inl (IntKind.i64.wrap (s1 - 1))) else some (Sum.inr s1)
    else none
   else none
  else some (Sum.inr s1)
def class_Trim : List UInt8 → Option (Int × Int) :=
 fun s =>
  callO (loopR (class_Trim_l0 s) 0) fun r1 =>
   callO (loopR (class_Trim_l1 s r1) (lenI s)) fun r2 => if (r1 == r2) = true then some (0, 0) else some (r1, r2)
end Go.Fn
namespace Go.Fn
open Go Go.Vs Go.Ve
set_option linter.unusedVariables false
def item_Normalize_l1 : Option (List (Int × List UInt8 × Int)) →
  Int × Option (List Int) → Option (Int × Option (List Int) ⊕ Int × Option (List Int)) :=
 fun f s1 =>
  if (!decide (s1.fst < lenI (f.getD [])) || decide (0 ≤ s1.fst ∧ s1.fst < lenI (f.getD []))) = true then
   if (decide (s1.fst < lenI (f.getD [])) && ((f.getD []).getD s1.fst.toNat (0, [], 0)).fst == 1) = true then
    if
      (decide (0 ≤ s1.fst ∧ s1.fst < lenI (f.getD [])) &&
        (decide (0 + (s1.snd.getD []).length = (s1.snd.getD []).length) &&
         (decide
           ((s1.snd.getD []).length + (bytesI ((f.getD []).getD s1.fst.toNat (0, [], 0)).snd.fst).length ≤
            68719476736) &&
          (s1.snd.isSome == s1.snd.isSome &&
           (appL s1.snd (bytesI ((f.getD []).getD s1.fst.toNat (0, [], 0)).snd.fst)).isSome ==
            (appL s1.snd (bytesI ((f.getD []).getD s1.fst.toNat (0, [], 0)).snd.fst)).isSome)))) =
       true then
     some
      (Sum.inl
       (IntKind.i64.wrap (s1.fst + 1), appL s1.snd (bytesI ((f.getD []).getD s1.fst.toNat (0, [], 0)).snd.fst)))
    else none
   else some (Sum.inr s1)
  else none
def item_Normalize_l0 : Option (List (Int × List UInt8 × Int)) →
  Option (List (Int × List UInt8 × Int)) × Int →
   Option (Option (List (Int × List UInt8 × Int)) × Int ⊕ Option (List (Int × List UInt8 × Int))) :=
 fun f s1 =>
  if decide (s1.snd < lenI (f.getD [])) = true then
   if decide (0 ≤ s1.snd ∧ s1.snd < lenI (f.getD [])) = true then
    if (((f.getD []).getD s1.snd.toNat (0, [], 0)).fst != 1) = true then
     if
       (decide (0 ≤ s1.snd ∧ s1.snd < lenI (f.getD [])) &&
         (decide (0 + (s1.fst.getD []).length = (s1.fst.getD []).length) &&
          (decide ((s1.fst.getD []).length + 1 ≤ 68719476736) && s1.fst.isSome == s1.fst.isSome))) =
        true then
      some
       (Sum.inl
        (some (s1.fst.getD [] ++ [(f.getD []).getD s1.snd.toNat (0, [], 0)]), IntKind.i64.wrap (s1.snd + 1)))
     else none
    else
     callO (loopR (item_Normalize_l1 f) (s1.snd, none)) fun r1 =>
      if
        (!decide (lenI (r1.snd.getD []) > 0) ||
          r1.snd.isSome == r1.snd.isSome &&
           (decide (0 + (s1.fst.getD []).length = (s1.fst.getD []).length) &&
            (decide ((s1.fst.getD []).length + 1 ≤ 68719476736) && s1.fst.isSome == s1.fst.isSome))) =
         true then
       some
        (Sum.inl
         (if decide (lenI (r1.snd.getD []) > 0) = true then
           some (s1.fst.getD [] ++ [(1, ofBytesI (r1.snd.getD []), 0)])
          else s1.fst,
          r1.fst))
      else none
   else none
  else some (Sum.inr s1.fst)
def item_Normalize : Option (List (Int × List UInt8 × Int)) → Option (Option (List (Int × List UInt8 × Int))) :=
 fun f =>
  callO (loopR (item_Normalize_l0 f) (none, 0)) fun r1 =>
   if (r1.isSome == r1.isSome) = true then if (r1.isSome == r1.isSome) = true then some r1 else none else none
end Go.Fn
namespace Go.Fn
open Go Go.Vs Go.Ve
set_option linter.unusedVariables false
def item_Plain_l0 : Option (List (Int × List UInt8 × Int)) → Option (List Int) × Int → Option (Option (List Int) × Int ⊕ Option (List Int)) :=
 fun f s1 =>
  if decide (s1.snd < lenI (f.getD [])) = true then
   if
     (decide (0 ≤ s1.snd ∧ s1.snd < lenI (f.getD [])) &&
       if (((f.getD []).getD s1.snd.toNat (0, [], 0)).fst == 1) = true then
        decide (0 + (s1.fst.getD []).length = (s1.fst.getD []).length) &&
         (decide
           ((s1.fst.getD []).length + (bytesI ((f.getD []).getD s1.snd.toNat (0, [], 0)).snd.fst).length ≤
            68719476736) &&
          (s1.fst.isSome == s1.fst.isSome &&
           (appL s1.fst (bytesI ((f.getD []).getD s1.snd.toNat (0, [], 0)).snd.fst)).isSome ==
            (appL s1.fst (bytesI ((f.getD []).getD s1.snd.toNat (0, [], 0)).snd.fst)).isSome))
       else
        !((f.getD []).getD s1.snd.toNat (0, [], 0)).fst == 5 ||
         decide (0 + (s1.fst.getD []).length = (s1.fst.getD []).length) &&
          (decide ((s1.fst.getD []).length + 1 ≤ 68719476736) && s1.fst.isSome == s1.fst.isSome)) =
      true then
    some
     (Sum.inl
      (if (((f.getD []).getD s1.snd.toNat (0, [], 0)).fst == 1) = true then
        appL s1.fst (bytesI ((f.getD []).getD s1.snd.toNat (0, [], 0)).snd.fst)
       else
        if (((f.getD []).getD s1.snd.toNat (0, [], 0)).fst == 5) = true then some (s1.fst.getD [] ++ [255])
        else s1.fst,
       IntKind.i64.wrap (s1.snd + 1)))
   else none
  else some (Sum.inr s1.fst)
def item_Plain : Option (List (Int × List UInt8 × Int)) → Option (List UInt8) :=
 fun f =>
  callO (loopR (item_Plain_l0 f) (none, 0)) fun r1 =>
   if (r1.isSome == r1.isSome) = true then some (ofBytesI (r1.getD [])) else none
end Go.Fn
namespace Go.Fn
open Go Go.Vs Go.Ve
set_option linter.unusedVariables false
def segment_Place_l0 : Option (List (Int × List UInt8 × Int)) → Int × Int × Int → Option (Int × Int × Int ⊕ Int ⊕ Int × Int) :=
 fun r1 s1 =>
  if decide (s1.fst > 0) = true then
   if
     (decide (0 ≤ s1.snd.snd ∧ s1.snd.snd < lenI (r1.getD [])) && nlt (0 + s1.snd.snd.toNat) (r1.getD []).length) =
      true then
    if
      (((r1.getD []).getD (0 + s1.snd.snd.toNat) (0, [], 0)).fst == 1 &&
        decide (lenI ((r1.getD []).getD (0 + s1.snd.snd.toNat) (0, [], 0)).snd.fst > s1.fst)) =
       true then
     some (Sum.inr (Sum.inl (IntKind.i64.wrap (s1.snd.fst + s1.fst))))
    else
     some
      (Sum.inl
       (if (((r1.getD []).getD (0 + s1.snd.snd.toNat) (0, [], 0)).fst == 1) = true then
         IntKind.i64.wrap (s1.fst - lenI ((r1.getD []).getD (0 + s1.snd.snd.toNat) (0, [], 0)).snd.fst)
        else
         if (((r1.getD []).getD (0 + s1.snd.snd.toNat) (0, [], 0)).fst == 5) = true then
          IntKind.i64.wrap (s1.fst - 1)
         else s1.fst,
        if (((r1.getD []).getD (0 + s1.snd.snd.toNat) (0, [], 0)).fst == 1) = true then
         IntKind.i64.wrap (s1.snd.fst + lenI ((r1.getD []).getD (0 + s1.snd.snd.toNat) (0, [], 0)).snd.fst)
        else
         if (((r1.getD []).getD (0 + s1.snd.snd.toNat) (0, [], 0)).fst == 5) = true then
          IntKind.i64.wrap (s1.snd.fst + 1)
         else IntKind.i64.wrap (s1.snd.fst + 1),
        IntKind.i64.wrap (s1.snd.snd + 1)))
   else none
  else some (Sum.inr (Sum.inr s1.snd))
def segment_Place_l1 : Option (List (Int × List UInt8 × Int)) → Int × Int → Option (Int × Int ⊕ Int) :=
 fun r1 s1 =>
  if
    (!decide (s1.snd < lenI (r1.getD [])) ||
      decide (0 ≤ s1.snd ∧ s1.snd < lenI (r1.getD [])) && nlt (0 + s1.snd.toNat) (r1.getD []).length) =
     true then
   if (decide (s1.snd < lenI (r1.getD [])) && ((r1.getD []).getD (0 + s1.snd.toNat) (0, [], 0)).fst == 3) = true then
    some (Sum.inl (IntKind.i64.wrap (s1.fst + 1), IntKind.i64.wrap (s1.snd + 1)))
   else some (Sum.inr s1.fst)
  else none
def segment_Place : Option (List (Int × List UInt8 × Int)) → Int → Option Int :=
 fun f offset =>
  if decide (offset < 0) = true then some (-1)
  else
   callO (item_Plain f) fun r1 =>
    if decide (offset > lenI r1) = true then some (-1)
    else
     callO (item_Normalize f) fun r2 =>
      if (r2.isSome == r2.isSome) = true then
       callO (loopR (segment_Place_l0 r2) (offset, 0, 0)) fun r3 =>
        sumO r3 (fun r4 => some r4) fun r5 => callO (loopR (segment_Place_l1 r2) r5) fun r6 => some r6
      else none
end Go.Fn
namespace Go.Fn
open Go Go.Vs Go.Ve
set_option linter.unusedVariables false
def segment_blanks_l1 : Option (List (Int × List UInt8 × Int)) →
  Option (List Bool) × Int → Option (List Bool) × Int → Option (Option (List Bool) × Int ⊕ Option (List Bool)) :=
 fun f s1 s2 =>
  if decide (s2.snd < lenI ((f.getD []).getD s1.snd.toNat (0, [], 0)).snd.fst) = true then
   if decide (0 ≤ s2.snd) = true then
    if nlt s2.snd.toNat ((f.getD []).getD s1.snd.toNat (0, [], 0)).snd.fst.length = true then
     callO (class_Of (Int.ofNat (((f.getD []).getD s1.snd.toNat (0, [], 0)).snd.fst.getD s2.snd.toNat 0).toNat))
      fun r1 =>
      if
        (decide (0 + (s2.fst.getD []).length = (s2.fst.getD []).length) &&
          (decide ((s2.fst.getD []).length + 1 ≤ 68719476736) && s2.fst.isSome == s2.fst.isSome)) =
         true then
       some (Sum.inl (some (s2.fst.getD [] ++ [r1 == 2]), IntKind.i64.wrap (s2.snd + 1)))
      else none
    else none
   else none
  else some (Sum.inr s2.fst)
def segment_blanks_l0 : Option (List (Int × List UInt8 × Int)) →
  Option (List Bool) × Int → Option (Option (List Bool) × Int ⊕ Option (List Bool)) :=
 fun f s1 =>
  if decide (s1.snd < lenI (f.getD [])) = true then
   if decide (0 ≤ s1.snd ∧ s1.snd < lenI (f.getD [])) = true then
    if (((f.getD []).getD s1.snd.toNat (0, [], 0)).fst != 1) = true then
     if
       (decide (0 + (s1.fst.getD []).length = (s1.fst.getD []).length) &&
         (decide ((s1.fst.getD []).length + 1 ≤ 68719476736) && s1.fst.isSome == s1.fst.isSome)) =
        true then
      some (Sum.inl (some (s1.fst.getD [] ++ [false]), IntKind.i64.wrap (s1.snd + 1)))
     else none
    else
     callO (loopR (segment_blanks_l1 f s1) (s1.fst, 0)) fun r1 => some (Sum.inl (r1, IntKind.i64.wrap (s1.snd + 1)))
   else none
  else some (Sum.inr s1.fst)
def segment_blanks : Option (List (Int × List UInt8 × Int)) → Option (Option (List Bool)) :=
 fun f =>
  callO (loopR (segment_blanks_l0 f) (none, 0)) fun r1 =>
   if (r1.isSome == r1.isSome) = true then if (r1.isSome == r1.isSome) = true then some r1 else none else none
end Go.Fn
namespace Go.Fn
open Go Go.Vs Go.Ve
set_option linter.unusedVariables false
def item_isTag : Int × List UInt8 × Int → Option Bool :=
 fun x => some (x.fst == 2 || (x.fst == 3 || x.fst == 4))
end Go.Fn
namespace Go.Fn
open Go Go.Vs Go.Ve
set_option linter.unusedVariables false
def item_counting_l0 : Int → List Int × Int → Option (List Int × Int ⊕ List Int) :=
 fun n s1 =>
  if decide (s1.snd < lenI (List.replicate n.toNat (0 : Int))) = true then
   if (decide (0 ≤ s1.snd ∧ s1.snd < lenI s1.fst) && nlt (0 + s1.snd.toNat) s1.fst.length) = true then
    some (Sum.inl (s1.fst.set (0 + s1.snd.toNat) (IntKind.i64.wrap (s1.snd + 1)), IntKind.i64.wrap (s1.snd + 1)))
   else none
  else some (Sum.inr s1.fst)
def item_counting : Int → Option (Option (List Int)) :=
 fun n =>
  if decide (0 ≤ n ∧ n ≤ n ∧ n ≤ 68719476736) = true then
   callO (loopR (item_counting_l0 n) (List.replicate n.toNat 0, 0)) fun r1 => some (some r1)
  else none
end Go.Fn
namespace Go.Fn
open Go Go.Vs Go.Ve
set_option linter.unusedVariables false
def notation_plain : Int → Option Bool :=
 fun c =>
  if (c != 92) = true then
   if (c != 60) = true then
    if (c != 123) = true then
     if (c != 9) = true then
      if (c != 10) = true then if (c != 13) = true then callO (class_Of c) fun r1 => some (r1 != 1) else some false
      else some false
     else some false
    else some false
   else some false
  else some false
end Go.Fn
namespace Go.Fn
open Go Go.Vs Go.Ve
set_option linter.unusedVariables false
def notation_appendText_l0 : List UInt8 → Option (List Int) × Int → Option (Option (List Int) × Int ⊕ Option (List Int)) :=
 fun s s1 =>
  if decide (s1.snd < lenI s) = true then
   if (decide (0 ≤ s1.snd) && nlt s1.snd.toNat s.length) = true then
    callO (notation_plain (Int.ofNat (s.getD s1.snd.toNat 0).toNat)) fun r1 =>
     if
       (if r1 = true then !s1.fst.isSome && decide ((1 : Int) ≤ 68719476736)
        else
         if (byteI (s.getD s1.snd.toNat 0) == 10) = true then !s1.fst.isSome && true
         else
          if (byteI (s.getD s1.snd.toNat 0) == 9) = true then !s1.fst.isSome && true
          else
           if
             (byteI (s.getD s1.snd.toNat 0) == 92 ||
               (byteI (s.getD s1.snd.toNat 0) == 60 || byteI (s.getD s1.snd.toNat 0) == 123)) =
              true then
            !s1.fst.isSome && decide ((2 : Int) ≤ 68719476736)
           else
            true &&
             (decide (0 ≤ (byteI (s.getD s1.snd.toNat 0)).fdiv 16) &&
              (nlt ((byteI (s.getD s1.snd.toNat 0)).fdiv 16).toNat 16 &&
               (decide (0 ≤ andI IntKind.u8 (byteI (s.getD s1.snd.toNat 0)) 15) &&
                (nlt (andI IntKind.u8 (byteI (s.getD s1.snd.toNat 0)) 15).toNat 16 &&
                 (!s1.fst.isSome && decide ((4 : Int) ≤ 68719476736))))))) =
        true then
      none
     else none
   else none
  else some (Sum.inr s1.fst)
def notation_appendText : Option (List Int) → List UInt8 → Option (Option (List Int)) :=
 fun b s => callO (loopR (notation_appendText_l0 s) (b, 0)) fun r1 => none
end Go.Fn
namespace Go.Fn
open Go Go.Vs Go.Ve
set_option linter.unusedVariables false
def slices_Clone_api_Atom : Option
   (List
    ((Int ×
      Int ×
       Int ×
        Int ×
         Int ×
          Int ×
           Int ×
            Int ×
             Int ×
              Int ×
               Int ×
                Int ×
                 Int ×
                  Int ×
                   Int ×
                    Int ×
                     Int ×
                      Int ×
                       Int ×
                        Int ×
                         Int × Int × Int × Int × Int × Int × Int × Int × Int × Int × Int × Int) ×
     Int × Bool)) →
  Option
   (Option
    (List
     ((Int ×
       Int ×
        Int ×
         Int ×
          Int ×
           Int ×
            Int ×
             Int ×
              Int ×
               Int ×
                Int ×
                 Int ×
                  Int ×
                   Int ×
                    Int ×
                     Int ×
                      Int ×
                       Int ×
                        Int ×
                         Int ×
                          Int ×
                           Int × Int × Int × Int × Int × Int × Int × Int × Int × Int × Int) ×
      Int × Bool))) :=
 fun s =>
  if (!s.isSome) = true then some none
  else if (true && decide (0 + (s.getD []).length ≤ 68719476736)) = true then some (some ([] ++ s.getD [])) else none
end Go.Fn
namespace Go.Fn
open Go Go.Vs Go.Ve
set_option linter.unusedVariables false
def pattern_Reverse : Option
   (List
    ((Int ×
      Int ×
       Int ×
        Int ×
         Int ×
          Int ×
           Int ×
            Int ×
             Int ×
              Int ×
               Int ×
                Int ×
                 Int ×
                  Int ×
                   Int ×
                    Int ×
                     Int ×
                      Int ×
                       Int ×
                        Int ×
                         Int × Int × Int × Int × Int × Int × Int × Int × Int × Int × Int × Int) ×
     Int × Bool)) →
  Option
   (Option
    (List
     ((Int ×
       Int ×
        Int ×
         Int ×
          Int ×
           Int ×
            Int ×
             Int ×
              Int ×
               Int ×
                Int ×
                 Int ×
                  Int ×
                   Int ×
                    Int ×
                     Int ×
                      Int ×
                       Int ×
                        Int ×
                         Int ×
                          Int ×
                           Int × Int × Int × Int × Int × Int × Int × Int × Int × Int × Int) ×
      Int × Bool))) :=
 fun p => callO (slices_Clone_api_Atom p) fun r1 => if (r1.isSome == r1.isSome) = true then none else none
end Go.Fn
namespace Go.Fn
open Go Go.Vs Go.Ve
set_option linter.unusedVariables false
def internal_strconv_small : Int → Option (List UInt8) :=
 fun i =>
  if decide (i < 10) = true then
   if decide (0 ≤ i ∧ i ≤ IntKind.i64.wrap (i + 1) ∧ IntKind.i64.wrap (i + 1) ≤ 36) = true then
    some
     (subL i (IntKind.i64.wrap (i + 1))
      [48, 49, 50, 51, 52, 53, 54, 55, 56, 57, 97, 98, 99, 100, 101, 102, 103, 104, 105, 106, 107, 108, 109, 110,
       111, 112, 113, 114, 115, 116, 117, 118, 119, 120, 121, 122])
   else none
  else
   if
     decide
       (0 ≤ IntKind.i64.wrap (i * 2) ∧
        IntKind.i64.wrap (i * 2) ≤ IntKind.i64.wrap (IntKind.i64.wrap (i * 2) + 2) ∧
         IntKind.i64.wrap (IntKind.i64.wrap (i * 2) + 2) ≤ 200) =
      true then
    some
     (subL (IntKind.i64.wrap (i * 2)) (IntKind.i64.wrap (IntKind.i64.wrap (i * 2) + 2))
      [48, 48, 48, 49, 48, 50, 48, 51, 48, 52, 48, 53, 48, 54, 48, 55, 48, 56, 48, 57, 49, 48, 49, 49, 49, 50, 49,
       51, 49, 52, 49, 53, 49, 54, 49, 55, 49, 56, 49, 57, 50, 48, 50, 49, 50, 50, 50, 51, 50, 52, 50, 53, 50, 54,
       50, 55, 50, 56, 50, 57, 51, 48, 51, 49, 51, 50, 51, 51, 51, 52, 51, 53, 51, 54, 51, 55, 51, 56, 51, 57, 52,
       48, 52, 49, 52, 50, 52, 51, 52, 52, 52, 53, 52, 54, 52, 55, 52, 56, 52, 57, 53, 48, 53, 49, 53, 50, 53, 51,
       53, 52, 53, 53, 53, 54, 53, 55, 53, 56, 53, 57, 54, 48, 54, 49, 54, 50, 54, 51, 54, 52, 54, 53, 54, 54, 54,
       55, 54, 56, 54, 57, 55, 48, 55, 49, 55, 50, 55, 51, 55, 52, 55, 53, 55, 54, 55, 55, 55, 56, 55, 57, 56, 48,
       56, 49, 56, 50, 56, 51, 56, 52, 56, 53, 56, 54, 56, 55, 56, 56, 56, 57, 57, 48, 57, 49, 57, 50, 57, 51, 57,
       52, 57, 53, 57, 54, 57, 55, 57, 56, 57, 57])
   else none
end Go.Fn
namespace Go.Fn
open Go Go.Vs Go.Ve
set_option linter.unusedVariables false
def internal_strconv_FormatInt : Int → Int → Option (List UInt8) :=
 fun i base =>
  if (base == 10) = true then
   if (decide (0 ≤ i) && decide (i < 100)) = true then callO (internal_strconv_small i) fun r1 => some r1 else none
  else none
end Go.Fn
namespace Go.Fn
open Go Go.Vs Go.Ve
set_option linter.unusedVariables false
def internal_strconv_Itoa : Int → Option (List UInt8) :=
 fun i => callO (internal_strconv_FormatInt i 10) fun r1 => some r1
end Go.Fn
namespace Go.Fn
open Go Go.Vs Go.Ve
set_option linter.unusedVariables false
def strconv_Itoa_b1 : Int → Option (List UInt8) :=
 fun i => callO (internal_strconv_Itoa i) fun r1 => some r1
end Go.Fn
namespace Go.Fn
open Go Go.Vs Go.Ve
set_option linter.unusedVariables false
def document_Units : Int × Option (List (Bool × List UInt8 × List UInt8)) → Option (Option (List Int)) :=
 fun d => none
end Go.Fn
namespace Go.Fn
open Go Go.Vs Go.Ve
set_option linter.unusedVariables false
def slices_Clone_api_Item : Option (List (Int × List UInt8 × Int)) → Option (Option (List (Int × List UInt8 × Int))) :=
 fun s =>
  if (!s.isSome) = true then some none
  else if (true && decide (0 + (s.getD []).length ≤ 68719476736)) = true then some (some ([] ++ s.getD [])) else none
end Go.Fn
namespace Go.Fn
open Go Go.Vs Go.Ve
def In64 (n : Int) : Prop := -9223372036854775808 ≤ n ∧ n ≤ 9223372036854775807
theorem Wf_ints {o : Option (List Int)} (h : Wf (.sl (.int .i64)) o) : ∀ x ∈ o.getD [], In64 x := by
 cases o with
 | none => intro x hx; cases hx
 | some xs => exact h
theorem fdiv63 {n : Int} (h : In64 n) : n.fdiv 9223372036854775808 = if n < 0 then -1 else 0 := by
 rw [Int.fdiv_eq_ediv_of_nonneg _ (by decide)]
 unfold In64 at h
 split <;> omega
theorem wrap_u64 {n : Int} (h : In64 n) : IntKind.u64.wrap n = if n < 0 then n + 18446744073709551616 else n := by
 unfold In64 at h
 simp only [IntKind.wrap, IntKind.bits, IntKind.signed]
 simp
 split <;> omega
theorem place_eq {x n : Int} (hx : In64 x) (hn : 1 ≤ n) (hn2 : n ≤ 4611686018427387904) : bitextmake_Place x n = some (x % n) := by
 unfold In64 at hx
 unfold bitextmake_Place
 rw [if_pos (by simp; omega)]
 congr 1
 have h0 := Int.emod_nonneg x (show n ≠ 0 by omega)
 have h1 := Int.emod_lt_of_pos x (show 0 < n by omega)
 rcases Int.lt_or_le x 0 with h | h
 ·have e : x.tmod n = if n ∣ x then 0 else x % n - n := by
   rw [Int.tmod_eq_emod]
   split <;> rename_i hd
   ·rcases hd with hd | hd
    ·omega
    ·rw [if_pos hd]; have := Int.emod_eq_zero_of_dvd hd; omega
   ·rw [if_neg (fun hd' => hd (.inr hd'))]
    omega
  rw [e]
  split <;> rename_i hd
  ·simp [Int.emod_eq_zero_of_dvd hd]
  ·rw [if_pos (by simp; omega), wrap_i64 (by omega) (by omega)]; omega
 ·rw [Int.tmod_eq_emod_of_nonneg h, if_neg (by simp; omega)]
end Go.Fn
namespace Go.Fn
open Go Go.Vs Go.Ve
theorem ifT {α : Sort _} {c : Prop} [Decidable c] {a b x : α} (h : c) (k : a = x) : (if c then a else b) = x := (if_pos h).trans k
theorem ifF {α : Sort _} {c : Prop} [Decidable c] {a b x : α} (h : ¬ c) (k : b = x) : (if c then a else b) = x := (if_neg h).trans k
theorem dcT {α : Sort _} {c : Prop} [Decidable c] {a b x : α} (h : c) (k : a = x) : (if decide c = true then a else b) = x := (if_pos (decide_eq_true h)).trans k
theorem dcF {α : Sort _} {c : Prop} [Decidable c] {a b x : α} (h : ¬ c) (k : b = x) : (if decide c = true then a else b) = x := (if_neg (by simpa using h)).trans k
theorem sfT {α : Sort _} {b : Bool} {x y z : α} (k : x = z) : (if (b == b) = true then x else y) = z := (if_pos (beq_self_eq_true b)).trans k
theorem callT {ρ α : Type} {o : Option ρ} {v : ρ} {f : ρ → Option α} {x : Option α} (h : o = some v) (k : f v = x) : callO o f = x := by rw [h]; exact k
theorem ifL {α β : Sort _} {F : α → β} {c c' : Prop} [Decidable c] [Decidable c'] {a b : α} {A B : β} (h : c ↔ c') (h1 : c' → A = F a) (h2 : ¬ c' → B = F b) : (if c then A else B) = F (if c' then a else b) := by
 by_cases hc : c
 ·rw [if_pos hc, if_pos (h.1 hc)]; exact h1 (h.1 hc)
 ·rw [if_neg hc, if_neg fun q => hc (h.2 q)]; exact h2 fun q => hc (h.2 q)
def scan {ρ : Type} (e : Nat → Option ρ) : Nat → Nat → Option ρ
 | _, 0 => none
 | i, k + 1 => match e i with
  | some r => some r
  | none => scan e (i + 1) k
theorem scan_none {ρ : Type} {e : Nat → Option ρ} : ∀ (k i : Nat), scan e i k = none ↔ ∀ j, i ≤ j → j < i + k → e j = none
 | 0, i => by simp [scan]; intro j h1 h2; omega
 | k + 1, i => by
  unfold scan
  constructor
  ·intro h j h1 h2
   cases he : e i with
   | some r => rw [he] at h; cases h
   | none =>
    rw [he] at h
    rcases Nat.eq_or_lt_of_le h1 with rfl | h3
    ·exact he
    ·exact (scan_none k (i + 1)).1 h j h3 (by omega)
  ·intro h
   rw [h i (Nat.le_refl _) (by omega)]
   exact (scan_none k (i + 1)).2 fun j h1 h2 => h j (by omega) (by omega)
theorem scan_some {ρ : Type} {e : Nat → Option ρ} {r : ρ} : ∀ {k i : Nat}, scan e i k = some r → ∃ j, i ≤ j ∧ j < i + k ∧ e j = some r
 | 0, i, h => by simp [scan] at h
 | k + 1, i, h => by
  unfold scan at h
  cases he : e i with
  | some x => rw [he] at h; cases h; exact ⟨i, Nat.le_refl _, by omega, he⟩
  | none =>
   rw [he] at h
   obtain ⟨j, h1, h2, h3⟩ := scan_some h
   exact ⟨j, by omega, by omega, h3⟩
theorem scan_congr {ρ : Type} {e e' : Nat → Option ρ} : ∀ (k i : Nat), (∀ j, i ≤ j → j < i + k → e j = e' j) → scan e i k = scan e' i k
 | 0, _, _ => rfl
 | k + 1, i, h => by
  unfold scan
  rw [h i (Nat.le_refl _) (by omega), scan_congr k (i + 1) fun j h1 h2 => h j (by omega) (by omega)]
def toSum {ρ : Type} : Option ρ → ρ ⊕ Unit
 | some r => .inl r
 | none => .inr ()
def outS {ρ : Type} (i : Nat) (o : Option ρ) : Option (Int ⊕ ρ ⊕ Unit) := match o with
 | none => some (.inl ((i + 1 : Nat) : Int))
 | some r => some (.inr (.inl r))
theorem iterN_scan {ρ : Type} {f : Int → Option (Int ⊕ ρ ⊕ Unit)} (n : Nat) (e : Nat → Option ρ)
  (step : ∀ i, i < n → f (i : Int) = outS i (e i)) (stop : f (n : Int) = some (.inr (.inr ()))) :
  ∀ (k i m : Nat), i + k = n → k < m → iterN f m (i : Int) = some (toSum (scan e i k))
 | 0, i, m, hi, hm => by
  obtain ⟨m, rfl⟩ : ∃ q, m = q + 1 := ⟨m - 1, by omega⟩
  have : i = n := by omega
  subst this
  unfold iterN
  rw [stop]; rfl
 | k + 1, i, m, hi, hm => by
  obtain ⟨m, rfl⟩ : ∃ q, m = q + 1 := ⟨m - 1, by omega⟩
  unfold iterN scan
  rw [step i (by omega)]
  cases e i with
  | some r => rfl
  | none => exact iterN_scan n e step stop k (i + 1) m (by omega) (by omega)
theorem loopR_scan {ρ : Type} {f : Int → Option (Int ⊕ ρ ⊕ Unit)} (n : Nat) (e : Nat → Option ρ) (i : Nat)
  (step : ∀ i, i < n → f (i : Int) = outS i (e i)) (stop : f (n : Int) = some (.inr (.inr ()))) (hi : i ≤ n) (hn : n < fuel) :
  loopR f (i : Int) = some (toSum (scan e i (n - i))) :=
 iterN_scan n e step stop (n - i) i fuel (by omega) (by omega)
theorem loopR_scan0 {ρ : Type} {f : Int → Option (Int ⊕ ρ ⊕ Unit)} (n : Nat) (e : Nat → Option ρ)
  (step : ∀ i, i < n → f (i : Int) = outS i (e i)) (stop : f (n : Int) = some (.inr (.inr ()))) (hn : n < fuel) :
  loopR f 0 = some (toSum (scan e 0 n)) := loopR_scan n e 0 step stop (Nat.zero_le _) hn
theorem sum_scan {ρ α : Type} (o : Option ρ) (k : ρ → Option α) (d : Option α) : sumO (toSum o) k (fun _ => d) = match o with | some r => k r | none => d := by cases o <;> rfl
theorem iterN_range {σ ρ : Type} {f : σ → Option (σ ⊕ ρ)} (n : Nat) (st : Nat → σ) {r : ρ} (step : ∀ i, i < n → f (st i) = some (.inl (st (i + 1)))) (stop : f (st n) = some (.inr r)) :
  ∀ (k i m : Nat), i + k = n → k < m → iterN f m (st i) = some r
 | 0, i, m, hi, hm => by
  obtain ⟨m, rfl⟩ : ∃ q, m = q + 1 := ⟨m - 1, by omega⟩
  have : i = n := by omega
  subst this
  unfold iterN
  rw [stop]
 | k + 1, i, m, hi, hm => by
  obtain ⟨m, rfl⟩ : ∃ q, m = q + 1 := ⟨m - 1, by omega⟩
  unfold iterN
  rw [step i (by omega)]
  exact iterN_range n st step stop k (i + 1) m (by omega) (by omega)
theorem loopR_range {σ ρ : Type} {f : σ → Option (σ ⊕ ρ)} (n : Nat) (st : Nat → σ) {r : ρ} (step : ∀ i, i < n → f (st i) = some (.inl (st (i + 1)))) (stop : f (st n) = some (.inr r)) (hn : n < fuel) : loopR f (st 0) = some r :=
 iterN_range n st step stop n 0 fuel (by omega) (by omega)
theorem guard_nlt2 {α : Type} {xs : List α} {i : Int} {r : Bool} : (decide (0 ≤ i ∧ i < lenI xs) && (nlt i.toNat xs.length && r)) = (decide (0 ≤ i ∧ i < lenI xs) && r) := by
 rw [← Bool.and_assoc, guard_nlt]
theorem guard0 {α : Type} {xs : List α} {k : Nat} (h : k < xs.length) : (decide (0 ≤ (k : Int) ∧ (k : Int) < lenI xs) && nlt (0 + ((k : Int)).toNat) xs.length) = true := by
 rw [Nat.zero_add, guard_nlt]; exact decide_eq_true ⟨by omega, by rw [lenI_eq]; omega⟩
def accL {α : Type} (l : List α) : Option (List α) := match l with
 | [] => none
 | x :: r => some (x :: r)
@[simp] theorem accL_getD {α : Type} (l : List α) : (accL l).getD [] = l := by cases l <;> rfl
theorem accL_snoc {α : Type} (l : List α) (x : α) : some ((accL l).getD [] ++ [x]) = accL (l ++ [x]) := by cases l <;> rfl
theorem byteI_lo (b : UInt8) : 0 ≤ byteI b := Int.natCast_nonneg _
theorem byteI_hi (b : UInt8) : byteI b < 256 := by unfold byteI; have := b.toNat_lt; omega
theorem byte_in {s : List UInt8} {k : Nat} (h : k < s.length) : (decide (0 ≤ (k : Int)) && nlt ((k : Int)).toNat s.length) = true := by
 rw [Bool.and_eq_true, decide_eq_true_iff, nlt_iff]; omega
theorem byteD {s : List UInt8} {k : Nat} (h : k < s.length) {d : UInt8} : s.getD ((k : Int)).toNat d = s[k] := by
 rw [Int.toNat_natCast, List.getD_eq_getElem?_getD, List.getElem?_eq_getElem h]; rfl
theorem inRange {α : Type} {xs : List α} {p : Int} (h0 : 1 ≤ p) (h1 : p ≤ (xs.length : Int)) (h2 : (xs.length : Int) ≤ 4611686018427387904) :
  IntKind.i64.wrap (p - 1) = p - 1 ∧ decide (0 ≤ p - 1 ∧ p - 1 < lenI xs) = true := by
 refine ⟨wrap_i64 (by omega) (by omega), decide_eq_true ?_⟩
 rw [lenI_eq]; omega
end Go.Fn
namespace Go.Fn
open Go Go.Vs Go.Ve
set_option linter.unusedVariables false
theorem limits_loop (k : Nat) (hk : k ≤ 100) (h0 : k ≠ 0) : loopR (bitextlaw26_ProjectLimits_l0 (lim_doc, 0, 0)) (none, (k : Int)) = some (lim_docs k) := by
 have hacc : ∀ i : Nat, (if i = 0 then (none : Option (List LimDoc)) else lim_docs i).getD [] = List.replicate i lim_doc := by
  intro i
  cases i <;> simp [lim_docs]
 have hf : k < fuel := Nat.lt_of_le_of_lt hk (by decide)
 have := loopR_range (f := bitextlaw26_ProjectLimits_l0 (lim_doc, 0, 0)) (r := lim_docs k) k (fun i => (if i = 0 then none else lim_docs i, ((k - i : Nat) : Int))) (fun i hi => ?_) ?_ hf
 ·simpa using this
 ·unfold bitextlaw26_ProjectLimits_l0
  simp only []
  rw [hacc i]
  have h1 : ((k - i : Nat) : Int) > 0 := by omega
  refine dcT h1 ?_
  refine ifT ?_ ?_
  ·simp only [List.length_replicate, Nat.zero_add, decide_true, beq_self_eq_true, Bool.and_true, Bool.true_and, decide_eq_true_eq]
   omega
  ·rw [wrap_i64 (by omega) (by omega)]
   have e : ((k - i : Nat) : Int) - 1 = ((k - (i + 1) : Nat) : Int) := by omega
   rw [e]
   simp [lim_docs, List.replicate_succ']
 ·unfold bitextlaw26_ProjectLimits_l0
  simp [h0]
theorem limits26_holds {n : Int} (hn : In64 n) : bitextlaw26_ProjectLimits n = some true := by
 unfold bitextlaw26_ProjectLimits
 rw [show lim_parse 3 [116, 101, 120, 116, 10, 34, 97, 34] = some (lim_doc, 0, 0) from oneO_self _ _]
 have hr : n % 3 = 0 ∨ n % 3 = 1 ∨ n % 3 = 2 := by omega
 refine callT rfl (callT (place_eq hn (by decide) (by decide)) ?_)
 have hw : IntKind.i64.wrap (IntKind.i64.wrap (n % 3 + 16) - 1) = n % 3 + 15 := by
  rw [wrap_i64 (n := n % 3 + 16) (by omega) (by omega), wrap_i64 (by omega) (by omega)]; omega
 rw [hw]
 have ne : ∀ a b : Nat, a ≠ b → lim_docs a ≠ lim_docs b := by
  intro a b h e
  apply h
  have := congrArg (fun o => (o.getD []).length) e
  simpa [lim_docs] using this
 have hlen : ∀ k, lenI ((lim_docs k).getD []) = (k : Int) := by intro k; simp [lim_docs, lenI]
 have hseg : ∀ k, lenI ((some (lim_segs k)).getD []) = (k : Int) := by intro k; simp [lim_segs, lenI]
 rcases hr with h | h | h
 ·rw [h]
  refine callT (limits_loop 15 (by decide) (by decide)) (sfT (callT (v := ((lim_docs 15, some (lim_segs 15), 16), 0)) ?_ ?_))
  ·unfold lim_build; rw [oneO_self]; rfl
  ·simp only [hlen, hseg]
   refine callT (v := 0) ?_ ?_
   ·unfold lim_validate; rw [oneO_self]; rfl
   ·rfl
 ·rw [h]
  refine callT (limits_loop 16 (by decide) (by decide)) (sfT (callT (v := ((lim_docs 16, some (lim_segs 16), 17), 0)) ?_ ?_))
  ·unfold lim_build; rw [oneO_ne _ (ne _ _ (by decide)), oneO_self]; rfl
  ·simp only [hlen, hseg]
   refine callT (v := 0) ?_ ?_
   ·unfold lim_validate; rw [oneO_ne _ (fun e => ne 16 15 (by decide) (congrArg Prod.fst e)), oneO_self]; rfl
   ·rfl
 ·rw [h]
  refine callT (limits_loop 17 (by decide) (by decide)) (sfT (callT (v := ((none, none, 0), 3)) ?_ ?_))
  ·unfold lim_build; rw [oneO_ne _ (ne _ _ (by decide)), oneO_ne _ (ne _ _ (by decide)), oneO_self]; rfl
  ·simp only [hlen]
   refine callT (v := 3) ?_ ?_
   ·unfold lim_validate; rw [oneO_ne _ (fun e => ne 17 15 (by decide) (congrArg Prod.fst e)), oneO_ne _ (fun e => ne 17 16 (by decide) (congrArg Prod.fst e)), oneO_self]; rfl
   ·rfl
end Go.Fn
