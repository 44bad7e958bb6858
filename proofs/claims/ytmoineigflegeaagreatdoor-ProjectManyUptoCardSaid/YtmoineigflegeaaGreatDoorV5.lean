/- The statement ProjectManyUptoCardSaid of the given program is proved here: for every input whose bulk is at most the bound of its row, the law returns true and changes nothing. Part 5 of 6. -/
import Derived.Lib.Bytealg
import Derived.Lib.ItoaNum
import Derived.KernelRfl
import Derived.Test.YtmoineigflegeaaGreatDoorV4
set_option linter.unusedVariables false
set_option linter.unusedSimpArgs false
set_option linter.unusedSectionVars false
namespace Go.Fp
open Go Go.Vs Go.Ve
def xh:Bool→Option Int:=fun b=>if b=true then some (1:Int)else some (0:Int)
def ni:Int→Int→Option Int:=fun x n=>if decide (n≠(0:Int))=true then some (if decide (x.tmod n<(0:Int))=true then IntKind.i64.wrap (x.tmod n+n)else x.tmod n)else none
def aaN:Int→Option Bool:=fun n=>some (n==(1:Int)||(n==(2:Int)||n==(3:Int)))
def xj:Int×List UInt8→Option (Int×List UInt8 ⊕ List UInt8):=fun s1=>if(true&&decide (nat_lit 1+s1.snd.length≤nat_lit 1152921504606846976))=true then if(IntKind.i64.wrap (s1.fst.tdiv (10:Int))==(0:Int))=true then some (Sum.inr (jR [IntKind.u8.wrap (IntKind.i64.wrap ((48:Int)+s1.fst.tmod (10:Int)))]++s1.snd))else some (Sum.inl (IntKind.i64.wrap (s1.fst.tdiv (10:Int)),jR [IntKind.u8.wrap (IntKind.i64.wrap ((48:Int)+s1.fst.tmod (10:Int)))]++s1.snd))else none
def kV:Int→Option (List UInt8):=fun n=>aI (bO xj (n,[])) fun r1=>some r1
def ot:Int→Option (List UInt8):=fun n=>if(decide (n<(0:Int))&&decide (n>(-4611686018427387904:Int)))=true then aI (kV (IntKind.i64.wrap ((0:Int) - n))) fun r1=>if decide (nat_lit 1+r1.length≤nat_lit 1152921504606846976)=true then some ((45:UInt8) :: r1)else none else aI (kV (ju n (0:Int))) fun r2=>some r2
def ajw:Option (List (Int×List UInt8×Int))→Option (List (Int×List UInt8×Int))×Int→Option (Option (List (Int×List UInt8×Int))×Int ⊕ Option (List (Int×List UInt8×Int))):=fun f s1=>if decide (s1.snd<ag (f.getD []))=true then if(decide ((0:Int)≤s1.snd∧s1.snd<ag (f.getD []))&&if(((f.getD []).getD s1.snd.toNat ((0:Int),[],(0:Int))).fst != (1:Int))=true then decide ((0:Nat)+(s1.fst.getD []).length=(s1.fst.getD []).length)&&(decide ((s1.fst.getD []).length+nat_lit 1≤nat_lit 68719476736)&&s1.fst.isSome==s1.fst.isSome)else decide (((f.getD []).getD s1.snd.toNat ((0:Int),[],(0:Int))).snd.fst=[])||(!decide (ag (s1.fst.getD [])>(0:Int))||decide ((0:Int)≤IntKind.i64.wrap (ag (s1.fst.getD []) - (1:Int))∧IntKind.i64.wrap (ag (s1.fst.getD []) - (1:Int))<ag (s1.fst.getD []))&&aS ((0:Nat)+(IntKind.i64.wrap (ag (s1.fst.getD []) - (1:Int))).toNat) (s1.fst.getD []).length)&&if(decide (ag (s1.fst.getD [])>(0:Int))&&((s1.fst.getD []).getD ((0:Nat)+(IntKind.i64.wrap (ag (s1.fst.getD []) - (1:Int))).toNat) ((0:Int),[],(0:Int))).fst==(1:Int))=true then decide ((0:Int)≤IntKind.i64.wrap (ag (s1.fst.getD []) - (1:Int))∧IntKind.i64.wrap (ag (s1.fst.getD []) - (1:Int))<ag (s1.fst.getD []))&&(aS ((0:Nat)+(IntKind.i64.wrap (ag (s1.fst.getD []) - (1:Int))).toNat) (s1.fst.getD []).length&&(decide (((s1.fst.getD []).getD ((0:Nat)+(IntKind.i64.wrap (ag (s1.fst.getD []) - (1:Int))).toNat) ((0:Int),[],(0:Int))).snd.fst.length+((f.getD []).getD s1.snd.toNat ((0:Int),[],(0:Int))).snd.fst.length≤nat_lit 1152921504606846976)&&(decide ((0:Int)≤IntKind.i64.wrap (ag (s1.fst.getD []) - (1:Int))∧IntKind.i64.wrap (ag (s1.fst.getD []) - (1:Int))<ag (s1.fst.getD []))&&aS ((0:Nat)+(IntKind.i64.wrap (ag (s1.fst.getD []) - (1:Int))).toNat) (s1.fst.getD []).length)))else decide ((0:Nat)+(s1.fst.getD []).length=(s1.fst.getD []).length)&&(decide ((s1.fst.getD []).length+nat_lit 1≤nat_lit 68719476736)&&s1.fst.isSome==s1.fst.isSome))=true then some (Sum.inl (if(((f.getD []).getD s1.snd.toNat ((0:Int),[],(0:Int))).fst != (1:Int))=true then some (s1.fst.getD []++[(f.getD []).getD s1.snd.toNat ((0:Int),[],(0:Int))])else if decide (((f.getD []).getD s1.snd.toNat ((0:Int),[],(0:Int))).snd.fst=[])=true then s1.fst else some (if(decide (ag (s1.fst.getD [])>(0:Int))&&((s1.fst.getD []).getD ((0:Nat)+(IntKind.i64.wrap (ag (s1.fst.getD []) - (1:Int))).toNat) ((0:Int),[],(0:Int))).fst==(1:Int))=true then(s1.fst.getD []).set ((0:Nat)+(IntKind.i64.wrap (ag (s1.fst.getD []) - (1:Int))).toNat) ((1:Int),((s1.fst.getD []).getD ((0:Nat)+(IntKind.i64.wrap (ag (s1.fst.getD []) - (1:Int))).toNat) ((0:Int),[],(0:Int))).snd.fst++((f.getD []).getD s1.snd.toNat ((0:Int),[],(0:Int))).snd.fst,(0:Int))else s1.fst.getD []++[((1:Int),((f.getD []).getD s1.snd.toNat ((0:Int),[],(0:Int))).snd.fst,(0:Int))]),IntKind.i64.wrap (s1.snd+(1:Int))))else none else some (Sum.inr s1.fst)
def pN:Option (List (Int×List UInt8×Int))→Option (Option (List (Int×List UInt8×Int))):=fun f=>aI (bO (ajw f) (none,(0:Int))) fun r1=>if(r1.isSome==r1.isSome)=true then if(r1.isSome==r1.isSome)=true then some r1 else none else none
def ou:Option (List (Int×List UInt8×Int))→Option (List (Int×List UInt8×Int))→Option (Option (List (Int×List UInt8×Int))):=fun a b=>if decide ((a.getD []).length≤nat_lit 68719476736)=true then if decide ((0:Nat)+((eT (a.getD [])).getD []).length=((eT (a.getD [])).getD []).length)=true then if decide (((eT (a.getD [])).getD []).length+(b.getD []).length≤nat_lit 68719476736)=true then if((eT (a.getD [])).isSome==(eT (a.getD [])).isSome)=true then if((gN (eT (a.getD [])) (b.getD [])).isSome==(gN (eT (a.getD [])) (b.getD [])).isSome)=true then aI (pN (gN (eT (a.getD [])) (b.getD []))) fun r1=>some r1 else none else none else none else none else none
def ajx:List UInt8→Int→Option (Int ⊕ List UInt8 ⊕ Unit):=fun s s1=>if decide (s1<ag s)=true then if(decide ((0:Int)≤s1)&&aS s1.toNat s.length)=true then if(aR (s.getD s1.toNat (0:UInt8))==(32:Int))=true then if decide ((0:Int)≤(0:Int)∧(0:Int)≤s1∧s1≤ag s)=true then some (Sum.inr (Sum.inl (bV (0:Int) s1 s)))else none else some (Sum.inl (IntKind.i64.wrap (s1+(1:Int))))else none else some (Sum.inr (Sum.inr ()))
def rN:List UInt8→Option (List UInt8):=fun s=>aI (bO (ajx s) (0:Int)) fun r1=>gL r1 (fun r2=>some r2) fun r3=>some s
def nj:Int→Option (Int×List UInt8×Int):=fun b=>some ((1:Int),jR [b],(0:Int))
def pO:List UInt8→Option ((Int×List UInt8×Int)×Int):=fun s=>if(true&&aS (nat_lit 0) s.length)=true then if(!aR (s.getD (nat_lit 0) (0:UInt8))==(34:Int)&& !aR (s.getD (nat_lit 0) (0:UInt8))==(123:Int))=true then if aS (nat_lit 0) s.length=true then aI (nj (Int.ofNat (s.getD (nat_lit 0) (0:UInt8)).toNat)) fun r1=>some (r1,(1:Int))else none else none else none
def rO:Int→List UInt8→Option ((Int×List UInt8×Int)×Int):=fun format s=>if(!format==(1:Int)&& !format==(2:Int))=true then aI (pO s) fun r1=>some r1 else none
def aCN:Int→List UInt8→Option (List (Int×List UInt8×Int))×Option (List (Int×List UInt8×Int))×Option (List Int)×Int×Int×Int→Option (Option (List (Int×List UInt8×Int))×Option (List (Int×List UInt8×Int))×Option (List Int)×Int×Int×Int ⊕ Option (List (Int×List UInt8×Int))×Option (List Int)×Int×Int ⊕ Option (List (Int×List UInt8×Int))×Option (List (Int×List UInt8×Int))×Option (List Int)×Int):=fun format raw s1=>if decide (s1.snd.snd.snd.fst<ag raw)=true then if decide ((0:Int)≤s1.snd.snd.snd.fst∧s1.snd.snd.snd.fst≤ag raw∧ag raw≤ag raw)=true then aI (rO format (bV s1.snd.snd.snd.fst (ag raw) raw)) fun r1=>if(r1.snd==(0:Int))=true then some (Sum.inr (Sum.inl (none,none,s1.snd.snd.snd.fst,(2:Int))))else if(r1.fst.fst==(0:Int))=true then some (Sum.inl (s1.fst,s1.snd.fst,s1.snd.snd.fst,IntKind.i64.wrap (s1.snd.snd.snd.fst+r1.snd),s1.snd.snd.snd.snd))else if(if(r1.fst.fst==(2:Int))=true then r1.fst.fst==(2:Int)else r1.fst.fst==(4:Int))=true then aI (ou s1.fst (some [(r1.fst.fst,r1.fst.snd.fst,IntKind.i64.wrap (s1.snd.snd.snd.snd.snd+(1:Int)))])) fun r2=>if(decide (ag (r2.getD [])>(512:Int))||decide (ag (s1.snd.snd.fst.getD [])≥(1024:Int)))=true then some (Sum.inr (Sum.inl (none,none,s1.snd.snd.snd.fst,(3:Int))))else if((!r1.fst.fst==(2:Int)||decide ((0:Nat)+(s1.snd.fst.getD []).length=(s1.snd.fst.getD []).length)&&(decide ((s1.snd.fst.getD []).length+nat_lit 1≤nat_lit 68719476736)&&s1.snd.fst.isSome==s1.snd.fst.isSome))&&(decide ((0:Nat)+(s1.snd.snd.fst.getD []).length=(s1.snd.snd.fst.getD []).length)&&(decide ((s1.snd.snd.fst.getD []).length+nat_lit 1≤nat_lit 68719476736)&&s1.snd.snd.fst.isSome==s1.snd.snd.fst.isSome)))=true then some (Sum.inl (r2,if(r1.fst.fst==(2:Int))=true then some (s1.snd.fst.getD []++[(r1.fst.fst,r1.fst.snd.fst,IntKind.i64.wrap (s1.snd.snd.snd.snd.snd+(1:Int)))])else s1.snd.fst,some (s1.snd.snd.fst.getD []++[s1.snd.snd.snd.snd.fst]),IntKind.i64.wrap (s1.snd.snd.snd.fst+r1.snd),IntKind.i64.wrap (s1.snd.snd.snd.fst+r1.snd),IntKind.i64.wrap (s1.snd.snd.snd.snd.snd+(1:Int))))else none else if(r1.fst.fst==(3:Int))=true then if decide (IntKind.i64.wrap (ag (s1.snd.fst.getD []) - (1:Int))<(0:Int))=true then some (Sum.inr (Sum.inl (none,none,s1.snd.snd.snd.fst,(7:Int))))else if decide ((0:Int)≤IntKind.i64.wrap (ag (s1.snd.fst.getD []) - (1:Int))∧IntKind.i64.wrap (ag (s1.snd.fst.getD []) - (1:Int))<ag (s1.snd.fst.getD []))=true then if aS ((0:Nat)+(IntKind.i64.wrap (ag (s1.snd.fst.getD []) - (1:Int))).toNat) (s1.snd.fst.getD []).length=true then aI (rN ((s1.snd.fst.getD []).getD ((0:Nat)+(IntKind.i64.wrap (ag (s1.snd.fst.getD []) - (1:Int))).toNat) ((0:Int),[],(0:Int))).snd.fst) fun r3=>if(!decide (r3=r1.fst.snd.fst))=true then some (Sum.inr (Sum.inl (none,none,s1.snd.snd.snd.fst,(7:Int))))else if(decide ((0:Int)≤IntKind.i64.wrap (ag (s1.snd.fst.getD []) - (1:Int))∧IntKind.i64.wrap (ag (s1.snd.fst.getD []) - (1:Int))<ag (s1.snd.fst.getD []))&&aS ((0:Nat)+(IntKind.i64.wrap (ag (s1.snd.fst.getD []) - (1:Int))).toNat) (s1.snd.fst.getD []).length&&(decide ((0:Int)≤(0:Int)∧(0:Int)≤IntKind.i64.wrap (ag (s1.snd.fst.getD []) - (1:Int))∧IntKind.i64.wrap (ag (s1.snd.fst.getD []) - (1:Int))≤ag (s1.snd.fst.getD []))&&(Option.map (bV (0:Int) (IntKind.i64.wrap (ag (s1.snd.fst.getD []) - (1:Int)))) s1.snd.fst).isSome==s1.snd.fst.isSome))=true then aI (ou s1.fst (some [(r1.fst.fst,r1.fst.snd.fst,((s1.snd.fst.getD []).getD ((0:Nat)+(IntKind.i64.wrap (ag (s1.snd.fst.getD []) - (1:Int))).toNat) ((0:Int),[],(0:Int))).snd.snd)])) fun r4=>if(decide (ag (r4.getD [])>(512:Int))||decide (ag (s1.snd.snd.fst.getD [])≥(1024:Int)))=true then some (Sum.inr (Sum.inl (none,none,s1.snd.snd.snd.fst,(3:Int))))else if((!r1.fst.fst==(2:Int)||decide ((0:Nat)+((Option.map (bV (0:Int) (IntKind.i64.wrap (ag (s1.snd.fst.getD []) - (1:Int)))) s1.snd.fst).getD []).length=((Option.map (bV (0:Int) (IntKind.i64.wrap (ag (s1.snd.fst.getD []) - (1:Int)))) s1.snd.fst).getD []).length)&&(decide (((Option.map (bV (0:Int) (IntKind.i64.wrap (ag (s1.snd.fst.getD []) - (1:Int)))) s1.snd.fst).getD []).length+nat_lit 1≤nat_lit 68719476736)&&(Option.map (bV (0:Int) (IntKind.i64.wrap (ag (s1.snd.fst.getD []) - (1:Int)))) s1.snd.fst).isSome==(Option.map (bV (0:Int) (IntKind.i64.wrap (ag (s1.snd.fst.getD []) - (1:Int)))) s1.snd.fst).isSome))&&(decide ((0:Nat)+(s1.snd.snd.fst.getD []).length=(s1.snd.snd.fst.getD []).length)&&(decide ((s1.snd.snd.fst.getD []).length+nat_lit 1≤nat_lit 68719476736)&&s1.snd.snd.fst.isSome==s1.snd.snd.fst.isSome)))=true then some (Sum.inl (r4,if(r1.fst.fst==(2:Int))=true then some ((Option.map (bV (0:Int) (IntKind.i64.wrap (ag (s1.snd.fst.getD []) - (1:Int)))) s1.snd.fst).getD []++[(r1.fst.fst,r1.fst.snd.fst,((s1.snd.fst.getD []).getD ((0:Nat)+(IntKind.i64.wrap (ag (s1.snd.fst.getD []) - (1:Int))).toNat) ((0:Int),[],(0:Int))).snd.snd)])else Option.map (bV (0:Int) (IntKind.i64.wrap (ag (s1.snd.fst.getD []) - (1:Int)))) s1.snd.fst,some (s1.snd.snd.fst.getD []++[s1.snd.snd.snd.snd.fst]),IntKind.i64.wrap (s1.snd.snd.snd.fst+r1.snd),IntKind.i64.wrap (s1.snd.snd.snd.fst+r1.snd),s1.snd.snd.snd.snd.snd))else none else none else none else none else aI (ou s1.fst (some [r1.fst])) fun r5=>if(decide (ag (r5.getD [])>(512:Int))||decide (ag (s1.snd.snd.fst.getD [])≥(1024:Int)))=true then some (Sum.inr (Sum.inl (none,none,s1.snd.snd.snd.fst,(3:Int))))else if((!r1.fst.fst==(2:Int)||decide ((0:Nat)+(s1.snd.fst.getD []).length=(s1.snd.fst.getD []).length)&&(decide ((s1.snd.fst.getD []).length+nat_lit 1≤nat_lit 68719476736)&&s1.snd.fst.isSome==s1.snd.fst.isSome))&&(decide ((0:Nat)+(s1.snd.snd.fst.getD []).length=(s1.snd.snd.fst.getD []).length)&&(decide ((s1.snd.snd.fst.getD []).length+nat_lit 1≤nat_lit 68719476736)&&s1.snd.snd.fst.isSome==s1.snd.snd.fst.isSome)))=true then some (Sum.inl (r5,if(r1.fst.fst==(2:Int))=true then some (s1.snd.fst.getD []++[r1.fst])else s1.snd.fst,some (s1.snd.snd.fst.getD []++[s1.snd.snd.snd.snd.fst]),IntKind.i64.wrap (s1.snd.snd.snd.fst+r1.snd),IntKind.i64.wrap (s1.snd.snd.snd.fst+r1.snd),s1.snd.snd.snd.snd.snd))else none else none else some (Sum.inr (Sum.inr (s1.fst,s1.snd.fst,s1.snd.snd.fst,s1.snd.snd.snd.snd.fst)))
def aaO:Int→List UInt8→Option (Option (List (Int×List UInt8×Int))×Option (List Int)×Int×Int):=fun format raw=>aI (bO (aCN format raw) (none,none,none,(0:Int),(0:Int),(0:Int))) fun r1=>gL r1 (fun r2=>some r2) fun r3=>if decide (ag (r3.snd.fst.getD [])>(0:Int))=true then some (none,none,Int.ofNat raw.length,(7:Int))else if(decide ((0:Nat)+(r3.snd.snd.fst.getD []).length=(r3.snd.snd.fst.getD []).length)&&(decide ((r3.snd.snd.fst.getD []).length+nat_lit 1≤nat_lit 68719476736)&&r3.snd.snd.fst.isSome==r3.snd.snd.fst.isSome))=true then some (r3.fst,some (r3.snd.snd.fst.getD []++[r3.snd.snd.snd]),(0:Int),(0:Int))else none
def aaP:List UInt8×Option (List (Bool×List UInt8×List UInt8))×Int→Option (Option (List (Bool×List UInt8×List UInt8))×List UInt8×Unit×Int):=fun b=>if(decide ((0:Int)≤b.snd.snd∧b.snd.snd≤ag b.fst∧ag b.fst≤ag b.fst)&&(decide ((0:Nat)+(b.snd.fst.getD []).length=(b.snd.fst.getD []).length)&&(decide ((b.snd.fst.getD []).length+nat_lit 1≤nat_lit 68719476736)&&b.snd.fst.isSome==b.snd.fst.isSome)))=true then some (some (b.snd.fst.getD []++[(false,[],bV b.snd.snd (ag b.fst) b.fst)]),b.fst,Unit.unit,b.snd.snd)else none
def xk:List UInt8→Int→Int→List UInt8×Option (List (Bool×List UInt8×List UInt8))×Int→Option (List UInt8×Option (List (Bool×List UInt8×List UInt8))×Int):=fun key from' to b=>if(decide ((0:Int)≤b.snd.snd∧b.snd.snd≤from'∧from'≤ag b.fst)&&(decide ((0:Int)≤from'∧from'≤to∧to≤ag b.fst)&&(decide ((0:Nat)+(b.snd.fst.getD []).length=(b.snd.fst.getD []).length)&&(decide ((b.snd.fst.getD []).length+nat_lit 2≤nat_lit 68719476736)&&b.snd.fst.isSome==b.snd.fst.isSome))))=true then some (b.fst,some (b.snd.fst.getD []++[(false,[],bV b.snd.snd from' b.fst),(true,key,bV from' to b.fst)]),to)else none
def uv:List UInt8→Int→Option (Int ⊕ Int):=
 fun data s1=>
  if
    (!decide (s1<ag data)||
       decide ((0:Int)≤s1)&&
        (aS s1.toNat data.length&&
          (aR (data.getD s1.toNat (0:UInt8)) != (34:Int)||
            (!decide (IntKind.i64.wrap (s1+(1:Int))<ag data)||
              decide ((0:Int)≤IntKind.i64.wrap (s1+(1:Int)))&&
               aS (IntKind.i64.wrap (s1+(1:Int))).toNat data.length))))=
      true then
   if
     (decide (s1<ag data)&&
        (aR (data.getD s1.toNat (0:UInt8)) != (34:Int)||
          decide (IntKind.i64.wrap (s1+(1:Int))<ag data)&&
           aR (data.getD (IntKind.i64.wrap (s1+(1:Int))).toNat (0:UInt8))==(34:Int)))=
       true then
    if(decide ((0:Int)≤s1)&&aS s1.toNat data.length)=true then
     some
      (Sum.inl
        (IntKind.i64.wrap
          ((if(aR (data.getD s1.toNat (0:UInt8))==(34:Int))=true then IntKind.i64.wrap (s1+(1:Int))
            else s1)+
            (1:Int))))
    else none
   else some (Sum.inr s1)
  else none
def uw:List UInt8→Int→Option (Int ⊕ Int):=
 fun data s1=>
  if
    (!decide (s1<ag data)||
       decide ((0:Int)≤s1)&&
        (aS s1.toNat data.length&&
          (!aR (data.getD s1.toNat (0:UInt8)) != (34:Int)||
            decide ((0:Int)≤s1)&&
             (aS s1.toNat data.length&&
               (!aR (data.getD s1.toNat (0:UInt8)) != (44:Int)||
                 decide ((0:Int)≤s1)&&aS s1.toNat data.length)))))=
      true then
   if
     (decide (s1<ag data)&&
        (aR (data.getD s1.toNat (0:UInt8)) != (34:Int)&&
          (aR (data.getD s1.toNat (0:UInt8)) != (44:Int)&&
            aR (data.getD s1.toNat (0:UInt8)) != (10:Int))))=
       true then
    some (Sum.inl (IntKind.i64.wrap (s1+(1:Int))))
   else some (Sum.inr s1)
  else none
def lY:List UInt8→Int→Option (Int×Bool×Bool):=
 fun data at'=>
  if(!decide (at'<ag data)||decide ((0:Int)≤at')&&aS at'.toNat data.length)=true then
   if(decide (at'<ag data)&&aR (data.getD at'.toNat (0:UInt8))==(34:Int))=true then
    aI (bO (uv data) (IntKind.i64.wrap (at'+(1:Int)))) fun r1=>
     if decide (r1≥ag data)=true then some ((0:Int),true,false)
     else
      if
        (IntKind.i64.wrap (r1+(1:Int))==ag data||
           decide ((0:Int)≤IntKind.i64.wrap (r1+(1:Int)))&&
            (aS (IntKind.i64.wrap (r1+(1:Int))).toNat data.length&&
              (aR (data.getD (IntKind.i64.wrap (r1+(1:Int))).toNat (0:UInt8))==(44:Int)||
                decide ((0:Int)≤IntKind.i64.wrap (r1+(1:Int)))&&
                 aS (IntKind.i64.wrap (r1+(1:Int))).toNat data.length)))=
          true then
       some
        (if(IntKind.i64.wrap (r1+(1:Int))==ag data)=true then IntKind.i64.wrap (r1+(1:Int))
          else
           if(aR (data.getD (IntKind.i64.wrap (r1+(1:Int))).toNat (0:UInt8))==(44:Int))=true then
            IntKind.i64.wrap (r1+(1:Int))
           else IntKind.i64.wrap (r1+(1:Int)),
          if(IntKind.i64.wrap (r1+(1:Int))==ag data)=true then
           decide (at'<ag data)&&aR (data.getD at'.toNat (0:UInt8))==(34:Int)
          else
           if(aR (data.getD (IntKind.i64.wrap (r1+(1:Int))).toNat (0:UInt8))==(44:Int))=true then
            decide (at'<ag data)&&aR (data.getD at'.toNat (0:UInt8))==(34:Int)
           else decide (at'<ag data)&&aR (data.getD at'.toNat (0:UInt8))==(34:Int),
          IntKind.i64.wrap (r1+(1:Int))==ag data||
           (aR (data.getD (IntKind.i64.wrap (r1+(1:Int))).toNat (0:UInt8))==(44:Int)||
             aR (data.getD (IntKind.i64.wrap (r1+(1:Int))).toNat (0:UInt8))==(10:Int)))
      else none
   else
    aI (bO (uw data) at') fun r2=>
     if
       (r2==ag data||
          decide ((0:Int)≤r2)&&
           (aS r2.toNat data.length&&
             (aR (data.getD r2.toNat (0:UInt8))==(44:Int)||
               decide ((0:Int)≤r2)&&aS r2.toNat data.length)))=
         true then
      some
       (if(r2==ag data)=true then r2
         else if(aR (data.getD r2.toNat (0:UInt8))==(44:Int))=true then r2 else r2,
         if(r2==ag data)=true then
          decide (at'<ag data)&&aR (data.getD at'.toNat (0:UInt8))==(34:Int)
         else
          if(aR (data.getD r2.toNat (0:UInt8))==(44:Int))=true then
           decide (at'<ag data)&&aR (data.getD at'.toNat (0:UInt8))==(34:Int)
          else decide (at'<ag data)&&aR (data.getD at'.toNat (0:UInt8))==(34:Int),
         r2==ag data||
          (aR (data.getD r2.toNat (0:UInt8))==(44:Int)||
            aR (data.getD r2.toNat (0:UInt8))==(10:Int)))
     else none
  else none
def uy:List UInt8→
    Int×Int×Int×Int×List UInt8×Option (List (Bool×List UInt8×List UInt8))×Int→
     Int×Int×Int×Int×List UInt8×Option (List (Bool×List UInt8×List UInt8))×Int→
      Option
       (Int×Int×Int×Int×List UInt8×Option (List (Bool×List UInt8×List UInt8))×Int ⊕
         Option (List (Bool×List UInt8×List UInt8))×Int×Int ⊕
          Int×Int×Int×Int×List UInt8×Option (List (Bool×List UInt8×List UInt8))×Int):=
 fun a0 s1 s2=>
  aI (lY a0 s2.fst) fun r1=>
   if
     (!r1.snd.snd||
         decide (s1.snd.snd.snd.fst>0)&&
          (decide (s2.snd.snd.fst≥s1.snd.fst)||s2.snd.snd.fst==s2.snd.fst&& !r1.snd.fst))=
       true then
    some (Sum.inr (Sum.inl (none,s2.fst,2)))
   else
    if(!s1.snd.snd.snd.fst==0||decide (0≤s2.fst∧s2.fst≤r1.fst∧r1.fst≤ag a0))=true then
     if
       (decide (s1.snd.snd.snd.fst>0)&&
          s2.snd.snd.fst==
            if(s1.snd.snd.snd.fst==0&&decide (bV s2.fst r1.fst a0=[116,101,120,116]))=true then
             s2.snd.snd.fst
            else s2.snd.fst)=
         true then
      if
        decide
          (0≤IntKind.i64.wrap (s2.fst+1)∧
            IntKind.i64.wrap (s2.fst+1)≤IntKind.i64.wrap (r1.fst - 1)∧
             IntKind.i64.wrap (r1.fst - 1)≤ag a0)=
         true then
       aI (aaO 3 (bV (IntKind.i64.wrap (s2.fst+1)) (IntKind.i64.wrap (r1.fst - 1)) a0))
        fun r2=>
        if(r2.snd.snd.snd != 0)=true then
         some
          (Sum.inr
            (Sum.inl
              (none,IntKind.i64.wrap (IntKind.i64.wrap (s2.fst+1)+r2.snd.snd.fst),r2.snd.snd.snd)))
        else
         aI (ot s1.snd.snd.snd.fst) fun r3=>
          aI
           (xk r3 (IntKind.i64.wrap (s2.fst+1)) (IntKind.i64.wrap (r1.fst - 1))
             s2.snd.snd.snd.snd)
           fun r4=>
           if(decide (r1.fst≥ag a0)||decide (0≤r1.fst)&&aS r1.fst.toNat a0.length)=true then
            if(decide (r1.fst≥ag a0)||aR (a0.getD r1.fst.toNat 0)==10)=true then
             some
              (Sum.inr
                (Sum.inr
                  (r1.fst,
                    if
                      (s1.snd.snd.snd.fst==0&&
                          decide (bV s2.fst r1.fst a0=[116,101,120,116]))=
                        true then
                     s2.snd.snd.fst
                    else s2.snd.fst,
                    IntKind.i64.wrap (s2.snd.snd.fst+1),
                    if
                      (s1.snd.snd.snd.fst==0&&
                          decide (bV s2.fst r1.fst a0=[116,101,120,116]))=
                        true then
                     IntKind.i64.wrap (s2.snd.snd.snd.fst+1)
                    else s2.snd.snd.snd.fst,
                    r4)))
            else
             some
              (Sum.inl
                (IntKind.i64.wrap (r1.fst+1),
                  if
                    (s1.snd.snd.snd.fst==0&&decide (bV s2.fst r1.fst a0=[116,101,120,116]))=
                      true then
                   s2.snd.snd.fst
                  else s2.snd.fst,
                  IntKind.i64.wrap (s2.snd.snd.fst+1),
                  if
                    (s1.snd.snd.snd.fst==0&&decide (bV s2.fst r1.fst a0=[116,101,120,116]))=
                      true then
                   IntKind.i64.wrap (s2.snd.snd.snd.fst+1)
                  else s2.snd.snd.snd.fst,
                  r4))
           else none
      else none
     else
      if(decide (r1.fst≥ag a0)||decide (0≤r1.fst)&&aS r1.fst.toNat a0.length)=true then
       if(decide (r1.fst≥ag a0)||aR (a0.getD r1.fst.toNat 0)==10)=true then
        some
         (Sum.inr
           (Sum.inr
             (r1.fst,
               if(s1.snd.snd.snd.fst==0&&decide (bV s2.fst r1.fst a0=[116,101,120,116]))=true then
                s2.snd.snd.fst
               else s2.snd.fst,
               IntKind.i64.wrap (s2.snd.snd.fst+1),
               if(s1.snd.snd.snd.fst==0&&decide (bV s2.fst r1.fst a0=[116,101,120,116]))=true then
                IntKind.i64.wrap (s2.snd.snd.snd.fst+1)
               else s2.snd.snd.snd.fst,
               s2.snd.snd.snd.snd)))
       else
        some
         (Sum.inl
           (IntKind.i64.wrap (r1.fst+1),
             if(s1.snd.snd.snd.fst==0&&decide (bV s2.fst r1.fst a0=[116,101,120,116]))=true then
              s2.snd.snd.fst
             else s2.snd.fst,
             IntKind.i64.wrap (s2.snd.snd.fst+1),
             if(s1.snd.snd.snd.fst==0&&decide (bV s2.fst r1.fst a0=[116,101,120,116]))=true then
              IntKind.i64.wrap (s2.snd.snd.snd.fst+1)
             else s2.snd.snd.snd.fst,
             s2.snd.snd.snd.snd))
      else none
    else none
def xl:List UInt8→Int×Int×Int×Int×List UInt8×Option (List (Bool×List UInt8×List UInt8))×Int→Option (Int×Int×Int×Int×List UInt8×Option (List (Bool×List UInt8×List UInt8))×Int ⊕ Option (List (Bool×List UInt8×List UInt8))×Int×Int ⊕ List UInt8×Option (List (Bool×List UInt8×List UInt8))×Int):=fun a0 s1=>if(s1.snd.snd.snd.fst==0||decide (s1.fst<ag a0))=true then aI (bO (uy a0 s1) (s1.fst,s1.snd.snd.fst,0,0,s1.snd.snd.snd.snd)) fun r1=>gL r1 (fun r2=>some (Sum.inr (Sum.inl r2))) fun r3=>if(s1.snd.snd.snd.fst==0)=true then if(r3.snd.snd.snd.fst==0)=true then some (Sum.inr (Sum.inl (none,0,6)))else if decide (r3.snd.snd.snd.fst>1)=true then some (Sum.inr (Sum.inl (none,0,5)))else if decide (r3.snd.snd.fst<r3.snd.snd.fst)=true then some (Sum.inr (Sum.inl (none,s1.fst,2)))else some (Sum.inl (IntKind.i64.wrap (r3.fst+1),r3.snd.snd.fst,r3.snd.fst,IntKind.i64.wrap (s1.snd.snd.snd.fst+1),r3.snd.snd.snd.snd))else if decide (r3.snd.snd.fst<s1.snd.fst)=true then some (Sum.inr (Sum.inl (none,s1.fst,2)))else some (Sum.inl (IntKind.i64.wrap (r3.fst+1),s1.snd.fst,r3.snd.fst,IntKind.i64.wrap (s1.snd.snd.snd.fst+1),r3.snd.snd.snd.snd))else some (Sum.inr (Sum.inr s1.snd.snd.snd.snd))
def xm:List UInt8→Option (Option (List (Bool×List UInt8×List UInt8))×Int×Int):=fun a0=>aI (bO (xl a0) (0,0,-1,0,a0,none,0)) fun r1=>gL r1 (fun r2=>some r2) fun r3=>aI (aaP r3) fun r4=>some (r4.fst,0,0)
def aaQ:Int→List UInt8→Option (Option (List (Bool×List UInt8×List UInt8))×Int×Int):=fun format data=>if decide (ag data>(65536:Int))=true then some (none,(0:Int),(3:Int))else if(!format==(1:Int)&& !format==(2:Int))=true then aI (xm data) fun r1=>some r1 else none
def xo:Int→List UInt8→Option ((Int×Option (List (Bool×List UInt8×List UInt8)))×Int×Int):=fun format data=>aI (aaN format) fun r1=>if(!r1)=true then some (((0:Int),none),(0:Int),(1:Int))else aI (aaQ format data) fun r2=>if(r2.snd.snd != (0:Int))=true then some (((0:Int),none),r2.snd)else some ((format,r2.fst),(0:Int),(0:Int))
end Go.Fp
namespace Go.Fp
open Go Go.Vs Go.Ve Go.Fn
noncomputable section
abbrev aDb:=Int×Option (List (Bool×List UInt8×List UInt8))
abbrev aDc:=Int×Int×Int×(Int×Int)×Int×Option (List (Int×List UInt8×Int))×List UInt8×Int×Bool
abbrev uE:=Option (List aDb)×Option (List aDc)×Int
def jA (p:uE):Option Int:=xH (nr (none,none,0) 1 p) (xH (nr (none,none,1) 0 p) (xH (nr (none,none,1073741824) 0 p) (nr (none,none,1073741825) 1 p)))
def aa1:Option Bool:=some true
end
end Go.Fp
namespace Go.Fp
open Go Go.Vs Go.Ve
def xI:Int×Option (List (Bool×List UInt8×List UInt8))→Option (List Int)×Int→Option (Option (List Int)×Int ⊕ Option (List Int)):=fun d s1=>if decide (s1.snd<ag (d.snd.getD []))=true then if(decide ((0:Int)≤s1.snd∧s1.snd<ag (d.snd.getD []))&&(!((d.snd.getD []).getD s1.snd.toNat (false,[],[])).fst||decide ((0:Nat)+(s1.fst.getD []).length=(s1.fst.getD []).length)&&(decide ((s1.fst.getD []).length+nat_lit 1≤nat_lit 68719476736)&&s1.fst.isSome==s1.fst.isSome)))=true then some (Sum.inl (if((d.snd.getD []).getD s1.snd.toNat (false,[],[])).fst=true then some (s1.fst.getD []++[s1.snd])else s1.fst,IntKind.i64.wrap (s1.snd+(1:Int))))else none else some (Sum.inr s1.fst)
def nt:Int×Option (List (Bool×List UInt8×List UInt8))→Option (Option (List Int)):=fun d=>aI (bO (xI d) (none,(0:Int))) fun r1=>if(r1.isSome==r1.isSome)=true then if(r1.isSome==r1.isSome)=true then some r1 else none else none
def xJ:Int×Option (List (Bool×List UInt8×List UInt8))→Option (List UInt8):=fun d=>match d.2 with|some (p :: l)=>if(Nat.ble (p :: l).length 4611686018427387903&&Nat.ble ((p :: l).flatMap fun q=>q.2.2).length 140737488355328)=true then some ((p :: l).flatMap fun q=>q.2.2)else none|_=>none
def pS:Int→Option Bool:=fun format=>some (format==(1:Int)||(format==(2:Int)||format==(3:Int)))
def aa2:List UInt8→Option (List UInt8×Int×Option (List (Bool×List UInt8×List UInt8))):=fun data=>some (data,(0:Int),none)
def aa3:List UInt8×Int×Option (List (Bool×List UInt8×List UInt8))→Option (Option (List (Bool×List UInt8×List UInt8))×List UInt8×Int×Unit):=fun p=>if(decide ((0:Int)≤p.snd.fst∧p.snd.fst≤ag p.fst∧ag p.fst≤ag p.fst)&&(decide ((0:Nat)+(p.snd.snd.getD []).length=(p.snd.snd.getD []).length)&&(decide ((p.snd.snd.getD []).length+nat_lit 1≤nat_lit 68719476736)&&p.snd.snd.isSome==p.snd.snd.isSome)))=true then some (some (p.snd.snd.getD []++[(false,[],bV p.snd.fst (ag p.fst) p.fst)]),p.fst,p.snd.fst,Unit.unit)else none
def uF:List UInt8→Int→Option Int:=fun s c=>some (Lib.indexByte s c.toNat.toUInt8)
def pT:List UInt8→Int→Option Int:=fun s c=>aI (uF s c) fun r1=>some r1
def j4:List UInt8→Int→Option Int:=fun s c=>aI (pT s c) fun r1=>some r1
def uG:List UInt8→Int→Option (Int ⊕ Int):=
 fun data s1=>
  if decide (s1<ag data)=true then
   if(decide ((0:Int)≤s1)&&aS s1.toNat data.length)=true then
    if(aR (data.getD s1.toNat (0:UInt8)) != (34:Int))=true then
     some (Sum.inl (IntKind.i64.wrap (s1+(1:Int))))
    else
     if
       (!decide (IntKind.i64.wrap (s1+(1:Int))<ag data)||
          decide ((0:Int)≤IntKind.i64.wrap (s1+(1:Int)))&&
           aS (IntKind.i64.wrap (s1+(1:Int))).toNat data.length)=
         true then
      if
        (decide (IntKind.i64.wrap (s1+(1:Int))<ag data)&&
           aR (data.getD (IntKind.i64.wrap (s1+(1:Int))).toNat (0:UInt8))==(34:Int))=
          true then
       some (Sum.inl (IntKind.i64.wrap (s1+(2:Int))))
      else some (Sum.inr s1)
     else none
   else none
  else some (Sum.inr s1)
def uH:List UInt8→Int→Option (Int ⊕ Int):=fun data s1=>if decide (s1<ag data)=true then if decide ((0:Int)≤s1)=true then if aS s1.toNat data.length=true then aI (j4 [(34:UInt8),(44:UInt8),(10:UInt8)] (Int.ofNat (data.getD s1.toNat (0:UInt8)).toNat)) fun r1=>if decide (r1<(0:Int))=true then some (Sum.inl (IntKind.i64.wrap (s1+(1:Int))))else some (Sum.inr s1)else none else none else some (Sum.inr s1)
def mc:List UInt8→Int→Option (Int×Bool×Bool):=
 fun data at'=>
  if(!decide (at'<ag data)||decide ((0:Int)≤at')&&aS at'.toNat data.length)=true then
   if(decide (at'<ag data)&&aR (data.getD at'.toNat (0:UInt8))==(34:Int))=true then
    aI (bO (uG data) (IntKind.i64.wrap (at'+(1:Int)))) fun r1=>
     if decide (r1≥ag data)=true then some ((0:Int),true,false)
     else
      if
        (IntKind.i64.wrap (r1+(1:Int))==ag data||
           decide ((0:Int)≤IntKind.i64.wrap (r1+(1:Int)))&&
            (aS (IntKind.i64.wrap (r1+(1:Int))).toNat data.length&&
              (aR (data.getD (IntKind.i64.wrap (r1+(1:Int))).toNat (0:UInt8))==(44:Int)||
                decide ((0:Int)≤IntKind.i64.wrap (r1+(1:Int)))&&
                 aS (IntKind.i64.wrap (r1+(1:Int))).toNat data.length)))=
          true then
       some
        (if(IntKind.i64.wrap (r1+(1:Int))==ag data)=true then IntKind.i64.wrap (r1+(1:Int))
          else
           if(aR (data.getD (IntKind.i64.wrap (r1+(1:Int))).toNat (0:UInt8))==(44:Int))=true then
            IntKind.i64.wrap (r1+(1:Int))
           else IntKind.i64.wrap (r1+(1:Int)),
          true,
          IntKind.i64.wrap (r1+(1:Int))==ag data||
           (aR (data.getD (IntKind.i64.wrap (r1+(1:Int))).toNat (0:UInt8))==(44:Int)||
             aR (data.getD (IntKind.i64.wrap (r1+(1:Int))).toNat (0:UInt8))==(10:Int)))
      else none
   else
    aI (bO (uH data) at') fun r2=>
     if
       (r2==ag data||
          decide ((0:Int)≤r2)&&
           (aS r2.toNat data.length&&
             (aR (data.getD r2.toNat (0:UInt8))==(44:Int)||
               decide ((0:Int)≤r2)&&aS r2.toNat data.length)))=
         true then
      some
       (if(r2==ag data)=true then r2
         else if(aR (data.getD r2.toNat (0:UInt8))==(44:Int))=true then r2 else r2,
         false,
         r2==ag data||
          (aR (data.getD r2.toNat (0:UInt8))==(44:Int)||
            aR (data.getD r2.toNat (0:UInt8))==(10:Int)))
     else none
  else none
def xK:Int→Int→List UInt8→List UInt8×Int×Option (List (Bool×List UInt8×List UInt8))→Option (List UInt8×Int×Option (List (Bool×List UInt8×List UInt8))):=fun from' to key p=>if(decide ((0:Int)≤p.snd.fst∧p.snd.fst≤from'∧from'≤ag p.fst)&&(decide ((0:Int)≤from'∧from'≤to∧to≤ag p.fst)&&(decide ((0:Nat)+(p.snd.snd.getD []).length=(p.snd.snd.getD []).length)&&(decide ((p.snd.snd.getD []).length+nat_lit 2≤nat_lit 68719476736)&&p.snd.snd.isSome==p.snd.snd.isSome))))=true then some (p.fst,to,some (p.snd.snd.getD []++[(false,[],bV p.snd.fst from' p.fst),(true,key,bV from' to p.fst)]))else none
def afu:Option (List (Int×List UInt8×Int))×Option (List Int)×Option (List Int)→Option (Option (List (Int×List UInt8×Int))×Option (List Int)×Option (List Int)):=fun b=>if(!decide (ag (b.snd.fst.getD [])>(0:Int))||b.snd.fst.isSome==b.snd.fst.isSome&&(decide ((0:Nat)+(b.fst.getD []).length=(b.fst.getD []).length)&&(decide ((b.fst.getD []).length+nat_lit 1≤nat_lit 68719476736)&&b.fst.isSome==b.fst.isSome)))=true then some (if decide (ag (b.snd.fst.getD [])>(0:Int))=true then some (b.fst.getD []++[((1:Int),jR (b.snd.fst.getD []),(0:Int))])else b.fst,if decide (ag (b.snd.fst.getD [])>(0:Int))=true then none else b.snd.fst,if decide (ag (b.snd.fst.getD [])>(0:Int))=true then b.snd.snd else b.snd.snd)else none
def afv:Option (List (Int×List UInt8×Int))×Option (List Int)×Option (List Int)→Option (Option (List (Int×List UInt8×Int))×Option (List (Int×List UInt8×Int))×Option (List Int)×Option (List Int)):=fun b=>aI (afu b) fun r1=>if(r1.fst.isSome==r1.fst.isSome)=true then some (r1.fst,r1)else none
def afw:Bool→Option (List (Int×List UInt8×Int))×Option (List Int)×Option (List Int)→Option Bool:=fun text b=>some (decide ((if(!text||ag (b.snd.fst.getD [])==(0:Int))=true then IntKind.i64.wrap ((if decide (ag (b.snd.fst.getD [])>(0:Int))=true then IntKind.i64.wrap (ag (b.fst.getD [])+(1:Int))else ag (b.fst.getD []))+(1:Int))else if decide (ag (b.snd.fst.getD [])>(0:Int))=true then IntKind.i64.wrap (ag (b.fst.getD [])+(1:Int))else ag (b.fst.getD []))>(512:Int))||decide (IntKind.i64.wrap (ag (b.snd.snd.getD [])+(1:Int))>(1024:Int)))
def xL:Int→Int→Option (List (Int×List UInt8×Int))×Option (List Int)×Option (List Int)→Option (Bool×Option (List (Int×List UInt8×Int))×Option (List Int)×Option (List Int)):=fun c offset b=>aI (afw true b) fun r1=>if r1=true then some (false,b)else if(decide ((0:Nat)+(b.snd.fst.getD []).length=(b.snd.fst.getD []).length)&&(decide ((b.snd.fst.getD []).length+nat_lit 1≤nat_lit 68719476736)&&b.snd.fst.isSome==b.snd.fst.isSome))=true then if(decide ((0:Nat)+(b.snd.snd.getD []).length=(b.snd.snd.getD []).length)&&(decide ((b.snd.snd.getD []).length+nat_lit 1≤nat_lit 68719476736)&&b.snd.snd.isSome==b.snd.snd.isSome))=true then some (true,b.fst,some (b.snd.fst.getD []++[c]),some (b.snd.snd.getD []++[offset]))else none else none
def afx:List UInt8→List UInt8→Option Bool:=fun s zpf=>if(!decide (ag s≥ag zpf)||decide ((0:Int)≤0∧0≤ag zpf∧ag zpf≤ag s))=true then some (decide (ag s≥ag zpf)&&decide (bV 0 (ag zpf) s=zpf))else none
def aa4:List UInt8→List UInt8→Option Bool:=fun s zpf=>aI (afx s zpf) fun r1=>some r1
def afy:List UInt8→Int→Option (List (Int×List UInt8×Int))×Option (List Int)×Option (List Int)→Option (Int×Int×Option (List (Int×List UInt8×Int))×Option (List Int)×Option (List Int)):=fun raw at' b=>if decide ((0:Int)≤at'∧at'≤ag raw∧ag raw≤ag raw)=true then aI (aa4 (bV at' (ag raw) raw) [(34:UInt8),(34:UInt8)]) fun r1=>if r1=true then if aS (nat_lit 0) (bV at' (ag raw) raw).length=true then aI (xL (aR ((bV at' (ag raw) raw).getD (nat_lit 0) (0:UInt8))) at' b) fun r2=>if(!r2.fst)=true then some (at',(3:Int),r2.snd)else some (IntKind.i64.wrap (at'+(2:Int)),(0:Int),r2.snd)else none else aI (aa4 (bV at' (ag raw) raw) [(123:UInt8),(123:UInt8)]) fun r3=>if r3=true then if aS (nat_lit 0) (bV at' (ag raw) raw).length=true then aI (xL (aR ((bV at' (ag raw) raw).getD (nat_lit 0) (0:UInt8))) at' b) fun r4=>if(!r4.fst)=true then some (at',(3:Int),r4.snd)else some (IntKind.i64.wrap (at'+(2:Int)),(0:Int),r4.snd)else none else if(true&&aS (nat_lit 0) (bV at' (ag raw) raw).length)=true then if(aR ((bV at' (ag raw) raw).getD (nat_lit 0) (0:UInt8))==(34:Int))=true then some (at',(2:Int),b)else if(true&&aS (nat_lit 0) (bV at' (ag raw) raw).length)=true then if(aR ((bV at' (ag raw) raw).getD (nat_lit 0) (0:UInt8))==(123:Int))=true then aI (j4 (bV at' (ag raw) raw) (125:Int)) fun r5=>if decide (r5<(0:Int))=true then some (at',(2:Int),b)else if decide ((0:Int)≤(1:Int)∧(1:Int)≤r5∧r5≤ag (bV at' (ag raw) raw))=true then none else none else if aS (nat_lit 0) (bV at' (ag raw) raw).length=true then aI (xL (aR ((bV at' (ag raw) raw).getD (nat_lit 0) (0:UInt8))) at' b) fun r6=>if(!r6.fst)=true then some (at',(3:Int),r6.snd)else some (IntKind.i64.wrap (at'+(1:Int)),(0:Int),r6.snd)else none else none else none else none
def aDd:List UInt8→Int×Option (List (Int×List UInt8×Int))×Option (List Int)×Option (List Int)→Option (Int×Option (List (Int×List UInt8×Int))×Option (List Int)×Option (List Int) ⊕ Unit×Int×Int ⊕ Option (List (Int×List UInt8×Int))×Option (List Int)×Option (List Int)):=fun raw s1=>if decide (s1.fst<ag raw)=true then aI (afy raw s1.fst s1.snd) fun r1=>if(r1.snd.fst != (0:Int))=true then some (Sum.inr (Sum.inl ((),s1.fst,r1.snd.fst)))else some (Sum.inl (r1.fst,r1.snd.snd))else some (Sum.inr (Sum.inr s1.snd))
def afz:List UInt8→Option (Int×Int×Bool×Option (List (Int×List UInt8×Int))×Option (List Int)×Option (List Int)):=fun raw=>aI (bO (aDd raw) ((0:Int),none,none,none)) fun r1=>gL r1 (fun r2=>some (r2.snd.fst,r2.snd.snd,false,none,none,none)) fun r3=>some ((0:Int),(0:Int),true,r3)
def xM:List UInt8→Option (Option (List (Int×List UInt8×Int))×Int×Int):=fun raw=>aI (afz raw) fun r1=>if r1.snd.snd.fst=true then if(r1.snd.fst != (0:Int))=true then some (none,r1.fst,r1.snd.fst)else aI (afv r1.snd.snd.snd) fun r2=>some (r2.fst,(0:Int),(0:Int))else if(r1.snd.fst != (0:Int))=true then some (none,r1.fst,r1.snd.fst)else none
def strconv_Itoa:Int→Option (List UInt8):=fun n=>if(decide (-9223372036854775808≤n)&&decide (n≤9223372036854775807))=true then some (Lib.itoa n)else none
def xN:Int→Int→Int→Bool→List UInt8×Unit×Int×Int×Int×Int→List UInt8×Int×Option (List (Bool×List UInt8×List UInt8))→Option (Int×Int×List UInt8×Int×Option (List (Bool×List UInt8×List UInt8))):=fun from' to column quoted t parts=>if(decide (column≥t.snd.snd.snd.fst)||column==t.snd.snd.snd.snd.fst&& !quoted)=true then some (from',(2:Int),parts)else if(column != t.snd.snd.snd.snd.fst)=true then some ((0:Int),(0:Int),parts)else if decide ((0:Int)≤IntKind.i64.wrap (from'+(1:Int))∧IntKind.i64.wrap (from'+(1:Int))≤IntKind.i64.wrap (to - (1:Int))∧IntKind.i64.wrap (to - (1:Int))≤ag t.fst)=true then aI (xM (bV (IntKind.i64.wrap (from'+(1:Int))) (IntKind.i64.wrap (to - (1:Int))) t.fst)) fun r1=>if(r1.snd.snd != (0:Int))=true then some (IntKind.i64.wrap (IntKind.i64.wrap (from'+(1:Int))+r1.snd.fst),r1.snd.snd,parts)else aI (Fp.strconv_Itoa t.snd.snd.fst) fun r2=>aI (xK (IntKind.i64.wrap (from'+(1:Int))) (IntKind.i64.wrap (to - (1:Int))) r2 parts) fun r3=>some ((0:Int),(0:Int),r3)else none
def aa5:Int→Int→Int→List UInt8×Unit×Int×Int×Int×Int→List UInt8×Int×Option (List (Bool×List UInt8×List UInt8))→Option (Int×Int×Int):=fun from' to column t parts=>if decide ((0:Int)≤from'∧from'≤to∧to≤ag t.fst)=true then some (IntKind.i64.wrap (column+(1:Int)),if decide (bV from' to t.fst=[(116:UInt8),(101:UInt8),(120:UInt8),(116:UInt8)])=true then column else t.snd.snd.snd.snd.fst,if decide (bV from' to t.fst=[(116:UInt8),(101:UInt8),(120:UInt8),(116:UInt8)])=true then IntKind.i64.wrap (t.snd.snd.snd.snd.snd+(1:Int))else t.snd.snd.snd.snd.snd)else none
def uI:List UInt8×Unit×Int×Int×Int×Int→
    Int×Int×Int×Int×Int×List UInt8×Int×Option (List (Bool×List UInt8×List UInt8))→
     Option
      (Int×Int×Int×Int×Int×List UInt8×Int×Option (List (Bool×List UInt8×List UInt8)) ⊕
        Int×Int×Int×Int×Int×List UInt8×Int×Option (List (Bool×List UInt8×List UInt8)) ⊕
         Int×Int×Int×Int×Int×List UInt8×Int×Option (List (Bool×List UInt8×List UInt8))):=
 fun t s1=>
  aI (mc t.fst s1.fst) fun r1=>
   if(!r1.snd.snd)=true then some (Sum.inr (Sum.inl (s1.fst,(2:Int),s1.snd.snd)))
   else
    if(t.snd.snd.fst==(0:Int))=true then
     aI
      (aa5 s1.fst r1.fst s1.snd.fst
        (t.fst,(),t.snd.snd.fst,s1.snd.snd.fst,s1.snd.snd.snd.fst,s1.snd.snd.snd.snd.fst)
        s1.snd.snd.snd.snd.snd)
      fun r2=>
      if(r1.fst==ag t.fst||decide ((0:Int)≤r1.fst)&&aS r1.fst.toNat t.fst.length)=true then
       if(r1.fst==ag t.fst||aR (t.fst.getD r1.fst.toNat (0:UInt8))==(10:Int))=true then
        some (Sum.inr (Sum.inr (r1.fst,s1.snd.fst,r2.fst,r2.snd.fst,r2.snd.snd,s1.snd.snd.snd.snd.snd)))
       else
        some
         (Sum.inl
           (IntKind.i64.wrap (r1.fst+(1:Int)),IntKind.i64.wrap (s1.snd.fst+(1:Int)),r2.fst,
             r2.snd.fst,r2.snd.snd,s1.snd.snd.snd.snd.snd))
      else none
    else
     aI
      (xN s1.fst r1.fst s1.snd.fst r1.snd.fst
        (t.fst,(),t.snd.snd.fst,s1.snd.snd.fst,s1.snd.snd.snd.fst,s1.snd.snd.snd.snd.fst)
        s1.snd.snd.snd.snd.snd)
      fun r3=>
      if(r3.snd.fst != (0:Int))=true then
       some
        (Sum.inr
          (Sum.inl
            (r3.fst,r3.snd.fst,s1.snd.snd.fst,s1.snd.snd.snd.fst,s1.snd.snd.snd.snd.fst,r3.snd.snd)))
      else
       if(r1.fst==ag t.fst||decide ((0:Int)≤r1.fst)&&aS r1.fst.toNat t.fst.length)=true then
        if(r1.fst==ag t.fst||aR (t.fst.getD r1.fst.toNat (0:UInt8))==(10:Int))=true then
         some
          (Sum.inr
            (Sum.inr
              (r1.fst,s1.snd.fst,s1.snd.snd.fst,s1.snd.snd.snd.fst,s1.snd.snd.snd.snd.fst,r3.snd.snd)))
        else
         some
          (Sum.inl
            (IntKind.i64.wrap (r1.fst+(1:Int)),IntKind.i64.wrap (s1.snd.fst+(1:Int)),s1.snd.snd.fst,
              s1.snd.snd.snd.fst,s1.snd.snd.snd.snd.fst,r3.snd.snd))
       else none
def rT:Int→List UInt8×Unit×Int×Int×Int×Int→List UInt8×Int×Option (List (Bool×List UInt8×List UInt8))→Option (Int×Int×Int×Int×Int×List UInt8×Int×Option (List (Bool×List UInt8×List UInt8))):=fun begin t parts=>aI (bO (uI t) (begin,(0:Int),t.snd.snd.snd.fst,t.snd.snd.snd.snd.fst,t.snd.snd.snd.snd.snd,parts)) fun r1=>gL r1 (fun r2=>some r2) fun r3=>if(decide (t.snd.snd.fst>(0:Int))&&decide (IntKind.i64.wrap (r3.snd.fst+(1:Int))<r3.snd.snd.fst))=true then some (begin,(2:Int),r3.snd.snd)else if(t.snd.snd.fst==(0:Int)&&r3.snd.snd.snd.snd.fst==(0:Int))=true then some ((0:Int),(6:Int),r3.snd.snd)else if(t.snd.snd.fst==(0:Int)&&decide (r3.snd.snd.snd.snd.fst>(1:Int)))=true then some ((0:Int),(5:Int),r3.snd.snd)else some (jd (IntKind.i64.wrap (r3.fst+(1:Int))) (ag t.fst),(0:Int),r3.snd.snd)
def xO:List UInt8→Int×List UInt8×Int×Option (List (Bool×List UInt8×List UInt8))×Int×Int×Int×Int→Option (Int×List UInt8×Int×Option (List (Bool×List UInt8×List UInt8))×Int×Int×Int×Int ⊕ Option (List (Bool×List UInt8×List UInt8))×Int×Int ⊕ List UInt8×Int×Option (List (Bool×List UInt8×List UInt8))×Int×Int×Int×Int):=fun data s1=>if(decide (s1.fst<ag data)||s1.snd.snd.snd.snd.fst==(0:Int))=true then aI (rT s1.fst (data,(),s1.snd.snd.snd.snd) (s1.snd.fst,s1.snd.snd.fst,s1.snd.snd.snd.fst)) fun r1=>if(r1.snd.fst != (0:Int))=true then some (Sum.inr (Sum.inl (none,r1.fst,r1.snd.fst)))else some (Sum.inl (r1.fst,r1.snd.snd.snd.snd.snd.fst,r1.snd.snd.snd.snd.snd.snd.fst,r1.snd.snd.snd.snd.snd.snd.snd,IntKind.i64.wrap (s1.snd.snd.snd.snd.fst+(1:Int)),r1.snd.snd.fst,r1.snd.snd.snd.fst,r1.snd.snd.snd.snd.fst))else some (Sum.inr (Sum.inr s1.snd))
def xP:List UInt8→Option (Option (List (Bool×List UInt8×List UInt8))×Int×Int):=fun data=>if decide (ag data>(65536:Int))=true then some (none,(0:Int),(3:Int))else aI (aa2 data) fun r1=>aI (bO (xO data) ((0:Int),r1.fst,r1.snd.fst,r1.snd.snd,(0:Int),(0:Int),(0:Int),(0:Int))) fun r2=>gL r2 (fun r3=>some r3) fun r4=>aI (aa3 (r4.fst,r4.snd.fst,r4.snd.snd.fst)) fun r5=>some (r5.fst,(0:Int),(0:Int))
def aa6:Int→List UInt8→Option (Option (List (Bool×List UInt8×List UInt8))×Int×Int):=fun format data=>if(!format==(1:Int)&& !format==(2:Int))=true then aI (xP data) fun r1=>some r1 else none
def xQ:Int→List UInt8→Option ((Int×Option (List (Bool×List UInt8×List UInt8)))×Int×Int):=fun format data=>aI (pS format) fun r1=>if(!r1)=true then some (((0:Int),none),(0:Int),(1:Int))else aI (aa6 format data) fun r2=>if(r2.snd.snd != (0:Int))=true then some (((0:Int),none),r2.snd)else some ((format,r2.fst),(0:Int),(0:Int))
def uJ:Option (List (Bool×List UInt8×List UInt8))→Option (List (Bool×List UInt8×List UInt8))→Int→Option (Int ⊕ Bool ⊕ Unit):=fun iQ jB s1=>if decide (s1<ag (iQ.getD []))=true then if(decide ((0:Int)≤s1∧s1<ag (iQ.getD []))&&decide ((0:Int)≤s1∧s1<ag (jB.getD [])))=true then if(!(((iQ.getD []).getD s1.toNat (false,[],[])).fst==((jB.getD []).getD s1.toNat (false,[],[])).fst&&(decide (((iQ.getD []).getD s1.toNat (false,[],[])).snd.fst=((jB.getD []).getD s1.toNat (false,[],[])).snd.fst)&&(decide (((iQ.getD []).getD s1.toNat (false,[],[])).snd.snd=((jB.getD []).getD s1.toNat (false,[],[])).snd.snd)&&true))))=true then some (Sum.inr (Sum.inl false))else some (Sum.inl (IntKind.i64.wrap (s1+(1:Int))))else none else some (Sum.inr (Sum.inr ()))
def oA:Option (List (Bool×List UInt8×List UInt8))→Option (List (Bool×List UInt8×List UInt8))→Option Bool:=fun iQ jB=>if(ag (iQ.getD []) != ag (jB.getD []))=true then some false else aI (bO (uJ iQ jB) (0:Int)) fun r1=>gL r1 (fun r2=>some r2) fun r3=>some true
def xR:Int×Option (List (Bool×List UInt8×List UInt8))→Option Int:=fun d=>aI (pS d.fst) fun r1=>if(!r1)=true then some (1:Int)else aI (xJ d) fun r2=>aI (xQ d.fst r2) fun r3=>if(r3.snd.snd != (0:Int))=true then some (11:Int)else aI (oA r3.fst.snd d.snd) fun r4=>if(!r4)=true then some (11:Int)else some (0:Int)
def j5:Int→Option Int:=fun b=>if(b==(9:Int)||(b==(10:Int)||(b==(13:Int)||b==(32:Int))))=true then some (2:Int)else if(decide (b<(32:Int))||b==(127:Int))=true then some (1:Int)else if(decide (b≥(48:Int))&&decide (b≤(57:Int)))=true then some (3:Int)else if(if decide (b≥(97:Int))=true then decide (b≤(122:Int))||if decide (b≥(65:Int))=true then decide (b≤(90:Int))||decide (b≥(128:Int))else decide (b≥(128:Int))else if decide (b≥(65:Int))=true then decide (b≤(90:Int))||decide (b≥(128:Int))else decide (b≥(128:Int)))=true then some (4:Int)else some (5:Int)
def ajU:List UInt8→Int→Option (Int ⊕ Int):=fun s s1=>if decide (s1<ag s)=true then if decide ((0:Int)≤s1)=true then if aS s1.toNat s.length=true then aI (j5 (Int.ofNat (s.getD s1.toNat (0:UInt8)).toNat)) fun r1=>if(r1==(2:Int))=true then some (Sum.inl (IntKind.i64.wrap (s1+(1:Int))))else some (Sum.inr s1)else none else none else some (Sum.inr s1)
def ajV:List UInt8→Int→Int→Option (Int ⊕ Int):=fun s r1 s1=>if decide (s1>r1)=true then if decide ((0:Int)≤IntKind.i64.wrap (s1 - (1:Int)))=true then if aS (IntKind.i64.wrap (s1 - (1:Int))).toNat s.length=true then aI (j5 (Int.ofNat (s.getD (IntKind.i64.wrap (s1 - (1:Int))).toNat (0:UInt8)).toNat)) fun r2=>if(r2==(2:Int))=true then some (Sum.inl (IntKind.i64.wrap (s1 - (1:Int))))else some (Sum.inr s1)else none else none else some (Sum.inr s1)
def rU:List UInt8→Option (Int×Int):=fun s=>aI (bO (ajU s) (0:Int)) fun r1=>aI (bO (ajV s r1) (ag s)) fun r2=>if(r1==r2)=true then some ((0:Int),(0:Int))else some (r1,r2)
def nu:Int×List UInt8×Int→Option Int:=fun x=>if(x.fst==(1:Int))=true then some (Int.ofNat x.snd.fst.length)else some (1:Int)
def ajW:Option (List (Int×List UInt8×Int))→Int×Int→Option (Int×Int ⊕ Int):=fun f s1=>if decide (s1.snd<ag (f.getD []))=true then if decide ((0:Int)≤s1.snd∧s1.snd<ag (f.getD []))=true then aI (nu ((f.getD []).getD s1.snd.toNat ((0:Int),[],(0:Int)))) fun r1=>some (Sum.inl (IntKind.i64.wrap (s1.fst+r1),IntKind.i64.wrap (s1.snd+(1:Int))))else none else some (Sum.inr s1.fst)
def oB:Option (List (Int×List UInt8×Int))→Option Int:=fun f=>aI (bO (ajW f) ((0:Int),(0:Int))) fun r1=>some r1
def ajX:Option (List (Int×List UInt8×Int))→Option (List Int)×Int→Option (Option (List Int)×Int ⊕ Option (List Int)):=fun f s1=>if decide (s1.snd<ag (f.getD []))=true then if(decide ((0:Int)≤s1.snd∧s1.snd<ag (f.getD []))&&if(((f.getD []).getD s1.snd.toNat ((0:Int),[],(0:Int))).fst==(1:Int))=true then decide ((0:Nat)+(s1.fst.getD []).length=(s1.fst.getD []).length)&&(decide ((s1.fst.getD []).length+(jc ((f.getD []).getD s1.snd.toNat ((0:Int),[],(0:Int))).snd.fst).length≤nat_lit 68719476736)&&(s1.fst.isSome==s1.fst.isSome&&(gN s1.fst (jc ((f.getD []).getD s1.snd.toNat ((0:Int),[],(0:Int))).snd.fst)).isSome==(gN s1.fst (jc ((f.getD []).getD s1.snd.toNat ((0:Int),[],(0:Int))).snd.fst)).isSome))else !((f.getD []).getD s1.snd.toNat ((0:Int),[],(0:Int))).fst==(5:Int)||decide ((0:Nat)+(s1.fst.getD []).length=(s1.fst.getD []).length)&&(decide ((s1.fst.getD []).length+nat_lit 1≤nat_lit 68719476736)&&s1.fst.isSome==s1.fst.isSome))=true then some (Sum.inl (if(((f.getD []).getD s1.snd.toNat ((0:Int),[],(0:Int))).fst==(1:Int))=true then gN s1.fst (jc ((f.getD []).getD s1.snd.toNat ((0:Int),[],(0:Int))).snd.fst)else if(((f.getD []).getD s1.snd.toNat ((0:Int),[],(0:Int))).fst==(5:Int))=true then some (s1.fst.getD []++[(255:Int)])else s1.fst,IntKind.i64.wrap (s1.snd+(1:Int))))else none else some (Sum.inr s1.fst)
def oC:Option (List (Int×List UInt8×Int))→Option (List UInt8):=fun f=>aI (bO (ajX f) (none,(0:Int))) fun r1=>if(r1.isSome==r1.isSome)=true then some (jR (r1.getD []))else none
def aDe:Option (List (Int×List UInt8×Int))→Int→Int→Option (List (Int×List UInt8×Int))×Int×Int→Option (Option (List (Int×List UInt8×Int))×Int×Int ⊕ Option (List (Int×List UInt8×Int))):=fun f from' to s1=>if decide (s1.snd.snd<ag (f.getD []))=true then if decide ((0:Int)≤s1.snd.snd∧s1.snd.snd<ag (f.getD []))=true then aI (nu ((f.getD []).getD s1.snd.snd.toNat ((0:Int),[],(0:Int)))) fun r1=>if(!decide (ju from' s1.snd.fst<jd to (IntKind.i64.wrap (s1.snd.fst+r1)))||(!((f.getD []).getD s1.snd.snd.toNat ((0:Int),[],(0:Int))).fst==(1:Int)||decide ((0:Int)≤IntKind.i64.wrap (ju from' s1.snd.fst - s1.snd.fst)∧IntKind.i64.wrap (ju from' s1.snd.fst - s1.snd.fst)≤IntKind.i64.wrap (jd to (IntKind.i64.wrap (s1.snd.fst+r1)) - s1.snd.fst)∧IntKind.i64.wrap (jd to (IntKind.i64.wrap (s1.snd.fst+r1)) - s1.snd.fst)≤ag ((f.getD []).getD s1.snd.snd.toNat ((0:Int),[],(0:Int))).snd.fst))&&(decide ((0:Nat)+(s1.fst.getD []).length=(s1.fst.getD []).length)&&(decide ((s1.fst.getD []).length+nat_lit 1≤nat_lit 68719476736)&&s1.fst.isSome==s1.fst.isSome)))=true then some (Sum.inl (if decide (ju from' s1.snd.fst<jd to (IntKind.i64.wrap (s1.snd.fst+r1)))=true then some (s1.fst.getD []++[(((f.getD []).getD s1.snd.snd.toNat ((0:Int),[],(0:Int))).fst,if(((f.getD []).getD s1.snd.snd.toNat ((0:Int),[],(0:Int))).fst==(1:Int))=true then bV (IntKind.i64.wrap (ju from' s1.snd.fst - s1.snd.fst)) (IntKind.i64.wrap (jd to (IntKind.i64.wrap (s1.snd.fst+r1)) - s1.snd.fst)) ((f.getD []).getD s1.snd.snd.toNat ((0:Int),[],(0:Int))).snd.fst else((f.getD []).getD s1.snd.snd.toNat ((0:Int),[],(0:Int))).snd.fst,((f.getD []).getD s1.snd.snd.toNat ((0:Int),[],(0:Int))).snd.snd)])else s1.fst,IntKind.i64.wrap (s1.snd.fst+r1),IntKind.i64.wrap (s1.snd.snd+(1:Int))))else none else none else some (Sum.inr s1.fst)
def afA:Option (List (Int×List UInt8×Int))→Int→Int→Option (Option (List (Int×List UInt8×Int))×Bool):=fun f from' to=>if decide (from'<(0:Int))=true then some (none,false)else if decide (to<from')=true then some (none,false)else aI (oB f) fun r1=>if decide (to>r1)=true then some (none,false)else aI (bO (aDe f from' to) (none,(0:Int),(0:Int))) fun r2=>if(r2.isSome==r2.isSome)=true then if(r2.isSome==r2.isSome)=true then some (r2,true)else none else none
def ajY:List UInt8→List Int×Int→Option (List Int×Int ⊕ List Int):=fun s s1=>if decide (s1.snd<ag (List.replicate (ag s).toNat (0:Int)))=true then if(decide (0≤IntKind.i64.wrap (IntKind.i64.wrap (ag s - 1) - s1.snd))&&(aS (IntKind.i64.wrap (IntKind.i64.wrap (ag s - 1) - s1.snd)).toNat s.length&&(decide (0≤s1.snd∧s1.snd<ag s1.fst)&&aS (0+s1.snd.toNat) s1.fst.length)))=true then some (Sum.inl (s1.fst.set (0+s1.snd.toNat) (aR (s.getD (IntKind.i64.wrap (IntKind.i64.wrap (ag s - 1) - s1.snd)).toNat 0)),IntKind.i64.wrap (s1.snd+1)))else none else some (Sum.inr s1.fst)
def rV:List UInt8→Option (List UInt8):=fun s=>if decide (0≤ag s∧ag s≤ag s∧ag s≤68719476736)=true then aI (bO (ajY s) (List.replicate (ag s).toNat 0,0)) fun r1=>some (jR r1)else none
def aDf:Option (List (Bool×Option (List ((Int×Int×Int×Int×Int×Int×Int×Int×Int×Int×Int×Int×Int×Int×Int×Int×Int×Int×Int×Int×Int×Int×Int×Int×Int×Int×Int×Int×Int×Int×Int×Int)×Int×Bool))×Option (List ((Int×Int×Int×Int×Int×Int×Int×Int×Int×Int×Int×Int×Int×Int×Int×Int×Int×Int×Int×Int×Int×Int×Int×Int×Int×Int×Int×Int×Int×Int×Int×Int)×Int×Bool))))→Unit→Option (Unit ⊕ Unit):=fun rules s1=>if decide ((0:Int)<ag (rules.getD []))=true then if decide ((0:Int)≤(0:Int)∧(0:Int)<ag (rules.getD []))=true then none else none else some (Sum.inr ())
def aDg:List UInt8→Option (List Int)×Int→Option (Option (List Int)×Int ⊕ Option (List Int)):=fun text s1=>if decide (s1.snd<ag (List.replicate (IntKind.i64.wrap (ag text+(1:Int))).toNat false))=true then if(decide ((0:Int)≤s1.snd∧s1.snd<ag (List.replicate (IntKind.i64.wrap (ag text+(1:Int))).toNat false))&&aS ((0:Nat)+s1.snd.toNat) (List.replicate (IntKind.i64.wrap (ag text+(1:Int))).toNat false).length&&(!(List.replicate (IntKind.i64.wrap (ag text+(1:Int))).toNat false).getD ((0:Nat)+s1.snd.toNat) false||decide ((0:Nat)+(s1.fst.getD []).length=(s1.fst.getD []).length)&&(decide ((s1.fst.getD []).length+nat_lit 1≤nat_lit 68719476736)&&s1.fst.isSome==s1.fst.isSome)))=true then some (Sum.inl (if(List.replicate (IntKind.i64.wrap (ag text+(1:Int))).toNat false).getD ((0:Nat)+s1.snd.toNat) false=true then some (s1.fst.getD []++[s1.snd])else s1.fst,IntKind.i64.wrap (s1.snd+(1:Int))))else none else some (Sum.inr s1.fst)
def afB:Option (List (Bool×Option (List ((Int×Int×Int×Int×Int×Int×Int×Int×Int×Int×Int×Int×Int×Int×Int×Int×Int×Int×Int×Int×Int×Int×Int×Int×Int×Int×Int×Int×Int×Int×Int×Int)×Int×Bool))×Option (List ((Int×Int×Int×Int×Int×Int×Int×Int×Int×Int×Int×Int×Int×Int×Int×Int×Int×Int×Int×Int×Int×Int×Int×Int×Int×Int×Int×Int×Int×Int×Int×Int)×Int×Bool))))→List UInt8→Option (Option (List Int)):=fun rules text=>if decide (ag text>(1024:Int))=true then some none else aI (rV text) fun r1=>if decide ((0:Int)≤IntKind.i64.wrap (ag text+(1:Int))∧IntKind.i64.wrap (ag text+(1:Int))≤IntKind.i64.wrap (ag text+(1:Int))∧IntKind.i64.wrap (ag text+(1:Int))≤(68719476736:Int))=true then if decide ((0:Int)≤IntKind.i64.wrap (ag text+(1:Int))∧IntKind.i64.wrap (ag text+(1:Int))≤IntKind.i64.wrap (ag text+(1:Int))∧IntKind.i64.wrap (ag text+(1:Int))≤(68719476736:Int))=true then aI (bO (aDf rules) ()) fun r2=>aI (bO (aDg text) (none,(0:Int))) fun r3=>if(r3.isSome==r3.isSome)=true then if(r3.isSome==r3.isSome)=true then some r3 else none else none else none else none
def ajZ:Option (List (Int×List UInt8×Int))→Option (List Bool)×Int→Option (List Bool)×Int→Option (Option (List Bool)×Int ⊕ Option (List Bool)):=fun f s1 s2=>if decide (s2.snd<ag ((f.getD []).getD s1.snd.toNat ((0:Int),[],(0:Int))).snd.fst)=true then if decide ((0:Int)≤s2.snd)=true then if aS s2.snd.toNat ((f.getD []).getD s1.snd.toNat ((0:Int),[],(0:Int))).snd.fst.length=true then aI (j5 (Int.ofNat (((f.getD []).getD s1.snd.toNat ((0:Int),[],(0:Int))).snd.fst.getD s2.snd.toNat (0:UInt8)).toNat)) fun r1=>if(decide ((0:Nat)+(s2.fst.getD []).length=(s2.fst.getD []).length)&&(decide ((s2.fst.getD []).length+nat_lit 1≤nat_lit 68719476736)&&s2.fst.isSome==s2.fst.isSome))=true then some (Sum.inl (some (s2.fst.getD []++[r1==(2:Int)]),IntKind.i64.wrap (s2.snd+(1:Int))))else none else none else none else some (Sum.inr s2.fst)
def aj0:Option (List (Int×List UInt8×Int))→Option (List Bool)×Int→Option (Option (List Bool)×Int ⊕ Option (List Bool)):=fun f s1=>if decide (s1.snd<ag (f.getD []))=true then if decide ((0:Int)≤s1.snd∧s1.snd<ag (f.getD []))=true then if(((f.getD []).getD s1.snd.toNat ((0:Int),[],(0:Int))).fst != (1:Int))=true then if(decide ((0:Nat)+(s1.fst.getD []).length=(s1.fst.getD []).length)&&(decide ((s1.fst.getD []).length+nat_lit 1≤nat_lit 68719476736)&&s1.fst.isSome==s1.fst.isSome))=true then some (Sum.inl (some (s1.fst.getD []++[false]),IntKind.i64.wrap (s1.snd+(1:Int))))else none else aI (bO (ajZ f s1) (s1.fst,(0:Int))) fun r1=>some (Sum.inl (r1,IntKind.i64.wrap (s1.snd+(1:Int))))else none else some (Sum.inr s1.fst)
def rW:Option (List (Int×List UInt8×Int))→Option (Option (List Bool)):=fun f=>aI (bO (aj0 f) (none,(0:Int))) fun r1=>if(r1.isSome==r1.isSome)=true then if(r1.isSome==r1.isSome)=true then some r1 else none else none
def aDh:Option (List Int)→Unit→Option (Unit ⊕ Unit):=fun r1 s1=>if decide ((0:Int)<ag (r1.getD []))=true then if decide ((0:Int)≤(0:Int)∧(0:Int)<ag (r1.getD []))=true then none else none else some (Sum.inr ())
def aDi:Option (List Bool)→Int→Option (Int ⊕ Int):=fun r1 s1=>if decide ((0:Int)≤s1∧s1<ag (r1.getD []))=true then if(r1.getD []).getD s1.toNat false=true then some (Sum.inl (IntKind.i64.wrap (s1+(1:Int))))else some (Sum.inr s1)else none
def aDj:Option (List Bool)→Int→Option (Int ⊕ Int):=fun r1 s1=>if decide ((0:Int)≤IntKind.i64.wrap (s1 - (1:Int))∧IntKind.i64.wrap (s1 - (1:Int))<ag (r1.getD []))=true then if(r1.getD []).getD (IntKind.i64.wrap (s1 - (1:Int))).toNat false=true then some (Sum.inl (IntKind.i64.wrap (s1 - (1:Int))))else some (Sum.inr s1)else none
def aDk:Option (List (Int×List UInt8×Int))→Int→Option (List Bool)→Option (List (Int×Int))×Int×Int→Option (Option (List (Int×Int))×Int×Int ⊕ Option (List (Int×Int))):=fun f r1 r2 s1=>if decide (s1.snd.snd<ag [r1])=true then if(decide ((0:Int)≤s1.snd.snd∧s1.snd.snd<ag [r1])&&aS ((0:Nat)+s1.snd.snd.toNat) (nat_lit 1))=true then aI (afA f s1.snd.fst ([r1].getD ((0:Nat)+s1.snd.snd.toNat) (0:Int))) fun r3=>aI (oC r3.fst) fun r4=>aI (rU r4) fun r5=>if decide (r5.fst<r5.snd)=true then aI (bO (aDi r2) s1.snd.fst) fun r6=>aI (bO (aDj r2) ([r1].getD ((0:Nat)+s1.snd.snd.toNat) (0:Int))) fun r7=>if(decide ((0:Nat)+(s1.fst.getD []).length=(s1.fst.getD []).length)&&(decide ((s1.fst.getD []).length+nat_lit 1≤nat_lit 68719476736)&&s1.fst.isSome==s1.fst.isSome))=true then some (Sum.inl (some (s1.fst.getD []++[(r6,r7)]),[r1].getD ((0:Nat)+s1.snd.snd.toNat) (0:Int),IntKind.i64.wrap (s1.snd.snd+(1:Int))))else none else some (Sum.inl (s1.fst,[r1].getD ((0:Nat)+s1.snd.snd.toNat) (0:Int),IntKind.i64.wrap (s1.snd.snd+(1:Int))))else none else some (Sum.inr s1.fst)
def aa7:Option (List (Bool×Option (List ((Int×Int×Int×Int×Int×Int×Int×Int×Int×Int×Int×Int×Int×Int×Int×Int×Int×Int×Int×Int×Int×Int×Int×Int×Int×Int×Int×Int×Int×Int×Int×Int)×Int×Bool))×Option (List ((Int×Int×Int×Int×Int×Int×Int×Int×Int×Int×Int×Int×Int×Int×Int×Int×Int×Int×Int×Int×Int×Int×Int×Int×Int×Int×Int×Int×Int×Int×Int×Int)×Int×Bool))))→Option (List (Int×List UInt8×Int))→Option (Option (List (Int×Int))):=fun rules f=>aI (oC f) fun r1=>aI (afB rules r1) fun r2=>aI (bO (aDh r2) ()) fun r3=>aI (oB f) fun r4=>if decide (nat_lit 1≤nat_lit 68719476736)=true then aI (rW f) fun r5=>aI (bO (aDk f r4 r5) (none,(0:Int),(0:Int))) fun r6=>if(r6.isSome==r6.isSome)=true then if(r6.isSome==r6.isSome)=true then some r6 else none else none else none
def aa8:Int→List UInt8→Option (Option (List (Int×List UInt8×Int))×Int):=fun format raw=>if(format==(1:Int))=true then none else if(format==(2:Int))=true then none else aI (xM raw) fun r1=>some (r1.fst,r1.snd.snd)
def xS:Int×Option (List (Bool×List UInt8×List UInt8))→Int→Option (Option (List (Int×List UInt8×Int))×Int):=fun d part=>aI (pS d.fst) fun r1=>if(!r1)=true then some (none,(1:Int))else if(decide (part<(0:Int))||(decide (part≥ag (d.snd.getD []))||decide ((0:Int)≤part∧part<ag (d.snd.getD []))))=true then if(decide (part<(0:Int))||(decide (part≥ag (d.snd.getD []))|| !((d.snd.getD []).getD part.toNat (false,[],[])).fst))=true then some (none,(6:Int))else if decide ((0:Int)≤part∧part<ag (d.snd.getD []))=true then aI (aa8 d.fst ((d.snd.getD []).getD part.toNat (false,[],[])).snd.snd) fun r2=>some r2 else none else none
def aa9:Int×Option (List (Bool×List UInt8×List UInt8))→Option (List Int)→List (Int×Option (List (Int×List UInt8×Int)))×Int→Option (List (Int×Option (List (Int×List UInt8×Int)))×Int ⊕ List (Int×Option (List (Int×List UInt8×Int)))):=fun d r1 s1=>if decide (s1.snd<ag (r1.getD []))=true then if decide ((0:Int)≤s1.snd∧s1.snd<ag (r1.getD []))=true then aI (xS d ((r1.getD []).getD s1.snd.toNat (0:Int))) fun r2=>some (Sum.inl (mR (Ty.int IntKind.i64) ((r1.getD []).getD s1.snd.toNat (0:Int)) r2.fst s1.fst,IntKind.i64.wrap (s1.snd+(1:Int))))else none else some (Sum.inr s1.fst)
def xT:Int×Option (List (Bool×List UInt8×List UInt8))→Option (List (Int×Option (List (Int×List UInt8×Int)))):=fun d=>aI (nt d) fun r1=>aI (bO (aa9 d r1) ([],(0:Int))) fun r2=>some r2
def rX:Option (List (Int×List UInt8×Int))→Option (Option (List (Int×List UInt8×Int))):=fun s=>if(!s.isSome)=true then some none else if(true&&decide (nat_lit 0+(s.getD []).length≤nat_lit 68719476736))=true then some (some ([]++s.getD []))else none
def afC:Int×Int×Int×(Int×Int)×Int×Option (List (Int×List UInt8×Int))×List UInt8×Int×Bool→Option (Int×Int×Int×(Int×Int)×Int×Option (List (Int×List UInt8×Int))×List UInt8×Int×Bool):=fun s=>aI (rX s.snd.snd.snd.snd.snd.fst) fun r1=>some (s.fst,s.snd.fst,s.snd.snd.fst,s.snd.snd.snd.fst,s.snd.snd.snd.snd.fst,r1,s.snd.snd.snd.snd.snd.snd)
def abb:Option (List (Bool×List UInt8×List UInt8))→Option (Option (List (Bool×List UInt8×List UInt8))):=fun s=>if(!s.isSome)=true then some none else if(true&&decide (nat_lit 0+(s.getD []).length≤nat_lit 68719476736))=true then some (some ([]++s.getD []))else none
def xU:Int×Option (List (Bool×List UInt8×List UInt8))→Option (Int×Option (List (Bool×List UInt8×List UInt8))):=fun d=>aI (abb d.snd) fun r1=>some (d.fst,r1)
def abd:Option (List (Int×Option (List (Bool×List UInt8×List UInt8))))×Option (List (Int×Int×Int×(Int×Int)×Int×Option (List (Int×List UInt8×Int))×List UInt8×Int×Bool))×Int→Int×Option (List (Int×Option (List (Bool×List UInt8×List UInt8))))×Option (List (Int×Int×Int×(Int×Int)×Int×Option (List (Int×List UInt8×Int))×List UInt8×Int×Bool))×Int→Option (Int×Option (List (Int×Option (List (Bool×List UInt8×List UInt8))))×Option (List (Int×Int×Int×(Int×Int)×Int×Option (List (Int×List UInt8×Int))×List UInt8×Int×Bool))×Int ⊕ Option (List (Int×Option (List (Bool×List UInt8×List UInt8))))×Option (List (Int×Int×Int×(Int×Int)×Int×Option (List (Int×List UInt8×Int))×List UInt8×Int×Bool))×Int):=fun p s1=>if decide (s1.fst<ag (p.fst.getD []))=true then if decide ((0:Int)≤s1.fst∧s1.fst<ag (p.fst.getD []))=true then aI (xU ((p.fst.getD []).getD s1.fst.toNat ((0:Int),none))) fun r1=>if(decide ((0:Nat)+(s1.snd.fst.getD []).length=(s1.snd.fst.getD []).length)&&(decide ((s1.snd.fst.getD []).length+nat_lit 1≤nat_lit 68719476736)&&s1.snd.fst.isSome==s1.snd.fst.isSome))=true then some (Sum.inl (IntKind.i64.wrap (s1.fst+(1:Int)),some (s1.snd.fst.getD []++[r1]),s1.snd.snd))else none else none else some (Sum.inr s1.snd)
def afD:Option (List (Int×Option (List (Bool×List UInt8×List UInt8))))×Option (List (Int×Int×Int×(Int×Int)×Int×Option (List (Int×List UInt8×Int))×List UInt8×Int×Bool))×Int→Int×Option (List (Int×Option (List (Bool×List UInt8×List UInt8))))×Option (List (Int×Int×Int×(Int×Int)×Int×Option (List (Int×List UInt8×Int))×List UInt8×Int×Bool))×Int→Option (Int×Option (List (Int×Option (List (Bool×List UInt8×List UInt8))))×Option (List (Int×Int×Int×(Int×Int)×Int×Option (List (Int×List UInt8×Int))×List UInt8×Int×Bool))×Int ⊕ Option (List (Int×Option (List (Bool×List UInt8×List UInt8))))×Option (List (Int×Int×Int×(Int×Int)×Int×Option (List (Int×List UInt8×Int))×List UInt8×Int×Bool))×Int):=fun p s1=>if decide (s1.fst<ag (p.snd.fst.getD []))=true then if decide ((0:Int)≤s1.fst∧s1.fst<ag (p.snd.fst.getD []))=true then aI (afC ((p.snd.fst.getD []).getD s1.fst.toNat ((0:Int),(0:Int),(0:Int),((0:Int),(0:Int)),(0:Int),none,[],(0:Int),false))) fun r1=>if(decide ((0:Nat)+(s1.snd.snd.fst.getD []).length=(s1.snd.snd.fst.getD []).length)&&(decide ((s1.snd.snd.fst.getD []).length+nat_lit 1≤nat_lit 68719476736)&&s1.snd.snd.fst.isSome==s1.snd.snd.fst.isSome))=true then some (Sum.inl (IntKind.i64.wrap (s1.fst+(1:Int)),s1.snd.fst,some (s1.snd.snd.fst.getD []++[r1]),s1.snd.snd.snd))else none else none else some (Sum.inr s1.snd)
def xV:Option (List (Int×Option (List (Bool×List UInt8×List UInt8))))×Option (List (Int×Int×Int×(Int×Int)×Int×Option (List (Int×List UInt8×Int))×List UInt8×Int×Bool))×Int→Option (Option (List (Int×Option (List (Bool×List UInt8×List UInt8))))×Option (List (Int×Int×Int×(Int×Int)×Int×Option (List (Int×List UInt8×Int))×List UInt8×Int×Bool))×Int):=fun p=>aI (bO (abd p) ((0:Int),none,none,p.snd.snd)) fun r1=>aI (bO (afD p) ((0:Int),r1)) fun r2=>if(r2.fst.isSome==r2.fst.isSome&&r2.snd.fst.isSome==r2.snd.fst.isSome)=true then if(r2.fst.isSome==r2.fst.isSome)=true then if(r2.snd.fst.isSome==r2.snd.fst.isSome)=true then some r2 else none else none else none
def abe:Option (List (Int×Option (List (Bool×List UInt8×List UInt8))))→Int→Option (Int ⊕ Int×Option (List (Int×Option (List (Bool×List UInt8×List UInt8))))×Option (List (Int×Int×Int×(Int×Int)×Int×Option (List (Int×List UInt8×Int))×List UInt8×Int×Bool))×Int ⊕ Unit):=fun docs s1=>if decide (s1<ag (docs.getD []))=true then if decide ((0:Int)≤s1∧s1<ag (docs.getD []))=true then aI (xR ((docs.getD []).getD s1.toNat ((0:Int),none))) fun r1=>if(r1 != (0:Int))=true then some (Sum.inr (Sum.inl (r1,none,none,(0:Int))))else some (Sum.inl (IntKind.i64.wrap (s1+(1:Int))))else none else some (Sum.inr (Sum.inr ()))
def abf:Int×Option (List (Int×Option (List (Bool×List UInt8×List UInt8))))×Option (List (Int×Int×Int×(Int×Int)×Int×Option (List (Int×List UInt8×Int))×List UInt8×Int×Bool))×Int→Option (List Int)→Int×Option (List (Int×Option (List (Bool×List UInt8×List UInt8))))×Option (List (Int×Int×Int×(Int×Int)×Int×Option (List (Int×List UInt8×Int))×List UInt8×Int×Bool))×Int→Option (List (Int×Int))→Int×Option (List (Int×Option (List (Bool×List UInt8×List UInt8))))×Option (List (Int×Int×Int×(Int×Int)×Int×Option (List (Int×List UInt8×Int))×List UInt8×Int×Bool))×Int→Option (Int×Option (List (Int×Option (List (Bool×List UInt8×List UInt8))))×Option (List (Int×Int×Int×(Int×Int)×Int×Option (List (Int×List UInt8×Int))×List UInt8×Int×Bool))×Int ⊕ Option (List (Int×Option (List (Bool×List UInt8×List UInt8))))×Option (List (Int×Int×Int×(Int×Int)×Int×Option (List (Int×List UInt8×Int))×List UInt8×Int×Bool))×Int):=fun s1 r1 s2 r2 s3=>if decide (s3.fst<ag (r2.getD []))=true then if(decide ((0:Int)≤s3.fst∧s3.fst<ag (r2.getD []))&&(decide ((0:Nat)+(s3.snd.snd.fst.getD []).length=(s3.snd.snd.fst.getD []).length)&&(decide ((s3.snd.snd.fst.getD []).length+nat_lit 1≤nat_lit 68719476736)&&s3.snd.snd.fst.isSome==s3.snd.snd.fst.isSome)))=true then some (Sum.inl (IntKind.i64.wrap (s3.fst+(1:Int)),s3.snd.fst,some (s3.snd.snd.fst.getD []++[(s3.snd.snd.snd,s1.fst,(r1.getD []).getD s2.fst.toNat (0:Int),(r2.getD []).getD s3.fst.toNat ((0:Int),(0:Int)),(0:Int),none,[],(0:Int),false)]),IntKind.i64.wrap (s3.snd.snd.snd+(1:Int))))else none else some (Sum.inr s3.snd)
def abg:Option (List (Bool×Option (List ((Int×Int×Int×Int×Int×Int×Int×Int×Int×Int×Int×Int×Int×Int×Int×Int×Int×Int×Int×Int×Int×Int×Int×Int×Int×Int×Int×Int×Int×Int×Int×Int)×Int×Bool))×Option (List ((Int×Int×Int×Int×Int×Int×Int×Int×Int×Int×Int×Int×Int×Int×Int×Int×Int×Int×Int×Int×Int×Int×Int×Int×Int×Int×Int×Int×Int×Int×Int×Int)×Int×Bool))))→Int×Option (List (Int×Option (List (Bool×List UInt8×List UInt8))))×Option (List (Int×Int×Int×(Int×Int)×Int×Option (List (Int×List UInt8×Int))×List UInt8×Int×Bool))×Int→List (Int×Option (List (Int×List UInt8×Int)))→Option (List Int)→Int×Option (List (Int×Option (List (Bool×List UInt8×List UInt8))))×Option (List (Int×Int×Int×(Int×Int)×Int×Option (List (Int×List UInt8×Int))×List UInt8×Int×Bool))×Int→Option (Int×Option (List (Int×Option (List (Bool×List UInt8×List UInt8))))×Option (List (Int×Int×Int×(Int×Int)×Int×Option (List (Int×List UInt8×Int))×List UInt8×Int×Bool))×Int ⊕ Option (List (Int×Option (List (Bool×List UInt8×List UInt8))))×Option (List (Int×Int×Int×(Int×Int)×Int×Option (List (Int×List UInt8×Int))×List UInt8×Int×Bool))×Int):=fun rules s1 r1 r2 s2=>if decide (s2.fst<ag (r2.getD []))=true then if decide ((0:Int)≤s2.fst∧s2.fst<ag (r2.getD []))=true then aI (aa7 rules ((iJ (Ty.int IntKind.i64) ((r2.getD []).getD s2.fst.toNat (0:Int)) r1).getD none)) fun r3=>aI (bO (abf s1 r2 s2 r3) ((0:Int),s2.snd)) fun r4=>some (Sum.inl (IntKind.i64.wrap (s2.fst+(1:Int)),r4))else none else some (Sum.inr s2.snd)
def abh:Option (List (Int×Option (List (Bool×List UInt8×List UInt8))))→Option (List (Bool×Option (List ((Int×Int×Int×Int×Int×Int×Int×Int×Int×Int×Int×Int×Int×Int×Int×Int×Int×Int×Int×Int×Int×Int×Int×Int×Int×Int×Int×Int×Int×Int×Int×Int)×Int×Bool))×Option (List ((Int×Int×Int×Int×Int×Int×Int×Int×Int×Int×Int×Int×Int×Int×Int×Int×Int×Int×Int×Int×Int×Int×Int×Int×Int×Int×Int×Int×Int×Int×Int×Int)×Int×Bool))))→Int×Option (List (Int×Option (List (Bool×List UInt8×List UInt8))))×Option (List (Int×Int×Int×(Int×Int)×Int×Option (List (Int×List UInt8×Int))×List UInt8×Int×Bool))×Int→Option (Int×Option (List (Int×Option (List (Bool×List UInt8×List UInt8))))×Option (List (Int×Int×Int×(Int×Int)×Int×Option (List (Int×List UInt8×Int))×List UInt8×Int×Bool))×Int ⊕ Option (List (Int×Option (List (Bool×List UInt8×List UInt8))))×Option (List (Int×Int×Int×(Int×Int)×Int×Option (List (Int×List UInt8×Int))×List UInt8×Int×Bool))×Int):=fun docs rules s1=>if decide (s1.fst<ag (docs.getD []))=true then if decide ((0:Int)≤s1.fst∧s1.fst<ag (docs.getD []))=true then aI (xT ((docs.getD []).getD s1.fst.toNat ((0:Int),none))) fun r1=>aI (nt ((docs.getD []).getD s1.fst.toNat ((0:Int),none))) fun r2=>aI (bO (abg rules s1 r1 r2) ((0:Int),s1.snd)) fun r3=>some (Sum.inl (IntKind.i64.wrap (s1.fst+(1:Int)),r3))else none else some (Sum.inr s1.snd)
def xW:Option (List (Int×Option (List (Bool×List UInt8×List UInt8))))→Option (List (Bool×Option (List ((Int×Int×Int×Int×Int×Int×Int×Int×Int×Int×Int×Int×Int×Int×Int×Int×Int×Int×Int×Int×Int×Int×Int×Int×Int×Int×Int×Int×Int×Int×Int×Int)×Int×Bool))×Option (List ((Int×Int×Int×Int×Int×Int×Int×Int×Int×Int×Int×Int×Int×Int×Int×Int×Int×Int×Int×Int×Int×Int×Int×Int×Int×Int×Int×Int×Int×Int×Int×Int)×Int×Bool))))→Option ((Option (List (Int×Option (List (Bool×List UInt8×List UInt8))))×Option (List (Int×Int×Int×(Int×Int)×Int×Option (List (Int×List UInt8×Int))×List UInt8×Int×Bool))×Int)×Int):=fun docs rules=>if decide (ag (docs.getD [])>(16:Int))=true then some ((none,none,(0:Int)),(3:Int))else aI (bO (abe docs) (0:Int)) fun r1=>gL r1 (fun r2=>if(r2.snd.fst.isSome==r2.snd.fst.isSome)=true then if(r2.snd.snd.fst.isSome==r2.snd.snd.fst.isSome)=true then some (r2.snd,r2.fst)else none else none) fun r3=>aI (xV (docs,none,(1:Int))) fun r4=>if(r4.fst.isSome==r4.fst.isSome&&r4.snd.fst.isSome==r4.snd.fst.isSome)=true then aI (bO (abh docs rules) ((0:Int),r4)) fun r5=>if decide (ag (r5.snd.fst.getD [])>(512:Int))=true then some ((none,none,(0:Int)),(3:Int))else if(r5.fst.isSome==r5.fst.isSome&&r5.snd.fst.isSome==r5.snd.fst.isSome)=true then if(r5.fst.isSome==r5.fst.isSome)=true then if(r5.snd.fst.isSome==r5.snd.fst.isSome)=true then some (r5,(0:Int))else none else none else none else none
end Go.Fp
namespace Go.Fp
open Go Go.Vs Go.Ve
noncomputable section
def abi:Int→List UInt8×Int→Option (List UInt8×Int ⊕ List UInt8):=fun r1 s1=>if decide (s1.snd<IntKind.i64.wrap ((511:Int)+r1))=true then if decide (s1.fst.length+nat_lit 4≤nat_lit 1152921504606846976)=true then some (Sum.inl (s1.fst++[(10:UInt8),(34:UInt8),(97:UInt8),(34:UInt8)],IntKind.i64.wrap (s1.snd+(1:Int))))else none else some (Sum.inr s1.fst)
def xX:Int→Int→Option Bool:=fun n next'=>aI (ni n (3:Int)) fun r1=>aI (bO (abi r1) ([(116:UInt8),(101:UInt8),(120:UInt8),(116:UInt8)],(0:Int))) fun r2=>aI (xo (3:Int) r2) fun r3=>aI (xW (some [r3.fst]) none) fun r4=>if(r3.snd.snd != (0:Int))=true then some false else if(r4.snd != if decide (IntKind.i64.wrap ((511:Int)+r1)>(512:Int))=true then(3:Int)else(0:Int))=true then some false else aI (xh (r4.snd==(0:Int))) fun r5=>if(ag (r4.fst.snd.fst.getD []) != IntKind.i64.wrap (IntKind.i64.wrap ((511:Int)+r1) * r5))=true then some false else aI (ni next' (4:Int)) fun r6=>if(decide ((0:Int)≤r6∧r6<(4:Int))&&aS ((0:Nat)+r6.toNat) (nat_lit 4))=true then aI (jA (none,none,[(0:Int),(1:Int),(1073741824:Int),(1073741825:Int)].getD ((0:Nat)+r6.toNat) (0:Int))) fun r7=>if decide ([(0:Int),(1:Int),(1073741824:Int),(1073741825:Int)].getD ((0:Nat)+r6.toNat) (0:Int)≥(1:Int))=true then if((r7==(0:Int))==decide ([(0:Int),(1:Int),(1073741824:Int),(1073741825:Int)].getD ((0:Nat)+r6.toNat) (0:Int)≤(1073741824:Int)))=true then aI aa1 fun r8=>some r8 else some false else if((r7==(0:Int))==false)=true then aI aa1 fun r9=>some r9 else some false else none
end
end Go.Fp
namespace Go.Fn
open Go Go.Vs Go.Ve
def uv:List UInt8→Int→Option (Int ⊕ Int):=
 fun data s1=>
  if
    (!decide (s1<ag data)||
       decide (0≤s1)&&
        (aS s1.toNat data.length&&
          (aR (data.getD s1.toNat 0) != 34||
            (!decide (IntKind.i64.wrap (s1+1)<ag data)||
              decide (0≤IntKind.i64.wrap (s1+1))&&aS (IntKind.i64.wrap (s1+1)).toNat data.length))))=
      true then
   if
     (decide (s1<ag data)&&
        (aR (data.getD s1.toNat 0) != 34||
          decide (IntKind.i64.wrap (s1+1)<ag data)&&
           aR (data.getD (IntKind.i64.wrap (s1+1)).toNat 0)==34))=
       true then
    if(decide (0≤s1)&&aS s1.toNat data.length)=true then
     some
      (Sum.inl
        (IntKind.i64.wrap
          ((if(aR (data.getD s1.toNat 0)==34)=true then IntKind.i64.wrap (s1+1)else s1)+1)))
    else none
   else some (Sum.inr s1)
  else none
def uw:List UInt8→Int→Option (Int ⊕ Int):=
 fun data s1=>
  if
    (!decide (s1<ag data)||
       decide (0≤s1)&&
        (aS s1.toNat data.length&&
          (!aR (data.getD s1.toNat 0) != 34||
            decide (0≤s1)&&
             (aS s1.toNat data.length&&
               (!aR (data.getD s1.toNat 0) != 44||decide (0≤s1)&&aS s1.toNat data.length)))))=
      true then
   if
     (decide (s1<ag data)&&
        (aR (data.getD s1.toNat 0) != 34&&
          (aR (data.getD s1.toNat 0) != 44&&aR (data.getD s1.toNat 0) != 10)))=
       true then
    some (Sum.inl (IntKind.i64.wrap (s1+1)))
   else some (Sum.inr s1)
  else none
def lY:List UInt8→Int→Option (Int×Bool×Bool):=
 fun data at'=>
  if(!decide (at'<ag data)||decide (0≤at')&&aS at'.toNat data.length)=true then
   if(decide (at'<ag data)&&aR (data.getD at'.toNat 0)==34)=true then
    aI (bO (uv data) (IntKind.i64.wrap (at'+1))) fun r1=>
     if decide (r1≥ag data)=true then some (0,true,false)
     else
      if
        (IntKind.i64.wrap (r1+1)==ag data||
           decide (0≤IntKind.i64.wrap (r1+1))&&
            (aS (IntKind.i64.wrap (r1+1)).toNat data.length&&
              (aR (data.getD (IntKind.i64.wrap (r1+1)).toNat 0)==44||
                decide (0≤IntKind.i64.wrap (r1+1))&&aS (IntKind.i64.wrap (r1+1)).toNat data.length)))=
          true then
       some
        (if(IntKind.i64.wrap (r1+1)==ag data)=true then IntKind.i64.wrap (r1+1)
          else
           if(aR (data.getD (IntKind.i64.wrap (r1+1)).toNat 0)==44)=true then IntKind.i64.wrap (r1+1)
           else IntKind.i64.wrap (r1+1),
          if(IntKind.i64.wrap (r1+1)==ag data)=true then
           decide (at'<ag data)&&aR (data.getD at'.toNat 0)==34
          else
           if(aR (data.getD (IntKind.i64.wrap (r1+1)).toNat 0)==44)=true then
            decide (at'<ag data)&&aR (data.getD at'.toNat 0)==34
           else decide (at'<ag data)&&aR (data.getD at'.toNat 0)==34,
          IntKind.i64.wrap (r1+1)==ag data||
           (aR (data.getD (IntKind.i64.wrap (r1+1)).toNat 0)==44||
             aR (data.getD (IntKind.i64.wrap (r1+1)).toNat 0)==10))
      else none
   else
    aI (bO (uw data) at') fun r2=>
     if
       (r2==ag data||
          decide (0≤r2)&&
           (aS r2.toNat data.length&&
             (aR (data.getD r2.toNat 0)==44||decide (0≤r2)&&aS r2.toNat data.length)))=
         true then
      some
       (if(r2==ag data)=true then r2 else if(aR (data.getD r2.toNat 0)==44)=true then r2 else r2,
         if(r2==ag data)=true then decide (at'<ag data)&&aR (data.getD at'.toNat 0)==34
         else
          if(aR (data.getD r2.toNat 0)==44)=true then
           decide (at'<ag data)&&aR (data.getD at'.toNat 0)==34
          else decide (at'<ag data)&&aR (data.getD at'.toNat 0)==34,
         r2==ag data||(aR (data.getD r2.toNat 0)==44||aR (data.getD r2.toNat 0)==10))
     else none
  else none
def uF:List UInt8→Int→Option Int:=fun s c=>some (Lib.indexByte s c.toNat.toUInt8)
def pT:List UInt8→Int→Option Int:=fun s c=>aI (uF s c) fun r1=>some r1
def j4:List UInt8→Int→Option Int:=fun s c=>aI (pT s c) fun r1=>some r1
def uG:List UInt8→Int→Option (Int ⊕ Int):=
 fun data s1=>
  if decide (s1<ag data)=true then
   if(decide (0≤s1)&&aS s1.toNat data.length)=true then
    if(aR (data.getD s1.toNat 0) != 34)=true then some (Sum.inl (IntKind.i64.wrap (s1+1)))
    else
     if
       (!decide (IntKind.i64.wrap (s1+1)<ag data)||
          decide (0≤IntKind.i64.wrap (s1+1))&&aS (IntKind.i64.wrap (s1+1)).toNat data.length)=
         true then
      if
        (decide (IntKind.i64.wrap (s1+1)<ag data)&&
           aR (data.getD (IntKind.i64.wrap (s1+1)).toNat 0)==34)=
          true then
       some (Sum.inl (IntKind.i64.wrap (s1+2)))
      else some (Sum.inr s1)
     else none
   else none
  else some (Sum.inr s1)
def uH:List UInt8→Int→Option (Int ⊕ Int):=fun data s1=>if decide (s1<ag data)=true then if decide (0≤s1)=true then if aS s1.toNat data.length=true then aI (j4 [34,44,10] (Int.ofNat (data.getD s1.toNat 0).toNat)) fun r1=>if decide (r1<0)=true then some (Sum.inl (IntKind.i64.wrap (s1+1)))else some (Sum.inr s1)else none else none else some (Sum.inr s1)
def mc:List UInt8→Int→Option (Int×Bool×Bool):=
 fun data at'=>
  if(!decide (at'<ag data)||decide (0≤at')&&aS at'.toNat data.length)=true then
   if(decide (at'<ag data)&&aR (data.getD at'.toNat 0)==34)=true then
    aI (bO (uG data) (IntKind.i64.wrap (at'+1))) fun r1=>
     if decide (r1≥ag data)=true then some (0,true,false)
     else
      if
        (IntKind.i64.wrap (r1+1)==ag data||
           decide (0≤IntKind.i64.wrap (r1+1))&&
            (aS (IntKind.i64.wrap (r1+1)).toNat data.length&&
              (aR (data.getD (IntKind.i64.wrap (r1+1)).toNat 0)==44||
                decide (0≤IntKind.i64.wrap (r1+1))&&aS (IntKind.i64.wrap (r1+1)).toNat data.length)))=
          true then
       some
        (if(IntKind.i64.wrap (r1+1)==ag data)=true then IntKind.i64.wrap (r1+1)
          else
           if(aR (data.getD (IntKind.i64.wrap (r1+1)).toNat 0)==44)=true then IntKind.i64.wrap (r1+1)
           else IntKind.i64.wrap (r1+1),
          true,
          IntKind.i64.wrap (r1+1)==ag data||
           (aR (data.getD (IntKind.i64.wrap (r1+1)).toNat 0)==44||
             aR (data.getD (IntKind.i64.wrap (r1+1)).toNat 0)==10))
      else none
   else
    aI (bO (uH data) at') fun r2=>
     if
       (r2==ag data||
          decide (0≤r2)&&
           (aS r2.toNat data.length&&
             (aR (data.getD r2.toNat 0)==44||decide (0≤r2)&&aS r2.toNat data.length)))=
         true then
      some
       (if(r2==ag data)=true then r2 else if(aR (data.getD r2.toNat 0)==44)=true then r2 else r2,
         false,r2==ag data||(aR (data.getD r2.toNat 0)==44||aR (data.getD r2.toNat 0)==10))
     else none
  else none
def uJ:Option (List (Bool×List UInt8×List UInt8))→Option (List (Bool×List UInt8×List UInt8))→Int→Option (Int ⊕ Bool ⊕ Unit):=fun iQ jB s1=>if decide (s1<ag (iQ.getD []))=true then if(decide (0≤s1∧s1<ag (iQ.getD []))&&decide (0≤s1∧s1<ag (jB.getD [])))=true then if(!(((iQ.getD []).getD s1.toNat (false,[],[])).fst==((jB.getD []).getD s1.toNat (false,[],[])).fst&&(decide (((iQ.getD []).getD s1.toNat (false,[],[])).snd.fst=((jB.getD []).getD s1.toNat (false,[],[])).snd.fst)&&(decide (((iQ.getD []).getD s1.toNat (false,[],[])).snd.snd=((jB.getD []).getD s1.toNat (false,[],[])).snd.snd)&&true))))=true then some (Sum.inr (Sum.inl false))else some (Sum.inl (IntKind.i64.wrap (s1+1)))else none else some (Sum.inr (Sum.inr ()))
def oA:Option (List (Bool×List UInt8×List UInt8))→Option (List (Bool×List UInt8×List UInt8))→Option Bool:=fun iQ jB=>if(ag (iQ.getD []) != ag (jB.getD []))=true then some false else aI (bO (uJ iQ jB) 0) fun r1=>gL r1 (fun r2=>some r2) fun r3=>some true
def nu:Int×List UInt8×Int→Option Int:=fun x=>if(x.fst==1)=true then some (Int.ofNat x.snd.fst.length)else some 1
def ajW:Option (List (Int×List UInt8×Int))→Int×Int→Option (Int×Int ⊕ Int):=fun f s1=>if decide (s1.snd<ag (f.getD []))=true then if decide (0≤s1.snd∧s1.snd<ag (f.getD []))=true then aI (nu ((f.getD []).getD s1.snd.toNat (0,[],0))) fun r1=>some (Sum.inl (IntKind.i64.wrap (s1.fst+r1),IntKind.i64.wrap (s1.snd+1)))else none else some (Sum.inr s1.fst)
def oB:Option (List (Int×List UInt8×Int))→Option Int:=fun f=>aI (bO (ajW f) (0,0)) fun r1=>some r1
def aFz:Option (List (Int×List UInt8×Int))→Int→Int→Option (List (Int×List UInt8×Int))×Int×Int→Option (Option (List (Int×List UInt8×Int))×Int×Int ⊕ Option (List (Int×List UInt8×Int))):=fun f from' to s1=>if decide (s1.snd.snd<ag (f.getD []))=true then if decide (0≤s1.snd.snd∧s1.snd.snd<ag (f.getD []))=true then aI (nu ((f.getD []).getD s1.snd.snd.toNat (0,[],0))) fun r1=>if(!decide (ju from' s1.snd.fst<jd to (IntKind.i64.wrap (s1.snd.fst+r1)))||(!((f.getD []).getD s1.snd.snd.toNat (0,[],0)).fst==1||decide (0≤IntKind.i64.wrap (ju from' s1.snd.fst - s1.snd.fst)∧IntKind.i64.wrap (ju from' s1.snd.fst - s1.snd.fst)≤IntKind.i64.wrap (jd to (IntKind.i64.wrap (s1.snd.fst+r1)) - s1.snd.fst)∧IntKind.i64.wrap (jd to (IntKind.i64.wrap (s1.snd.fst+r1)) - s1.snd.fst)≤ag ((f.getD []).getD s1.snd.snd.toNat (0,[],0)).snd.fst))&&(decide (0+(s1.fst.getD []).length=(s1.fst.getD []).length)&&(decide ((s1.fst.getD []).length+1≤68719476736)&&s1.fst.isSome==s1.fst.isSome)))=true then some (Sum.inl (if decide (ju from' s1.snd.fst<jd to (IntKind.i64.wrap (s1.snd.fst+r1)))=true then some (s1.fst.getD []++[(((f.getD []).getD s1.snd.snd.toNat (0,[],0)).fst,if(((f.getD []).getD s1.snd.snd.toNat (0,[],0)).fst==1)=true then bV (IntKind.i64.wrap (ju from' s1.snd.fst - s1.snd.fst)) (IntKind.i64.wrap (jd to (IntKind.i64.wrap (s1.snd.fst+r1)) - s1.snd.fst)) ((f.getD []).getD s1.snd.snd.toNat (0,[],0)).snd.fst else((f.getD []).getD s1.snd.snd.toNat (0,[],0)).snd.fst,((f.getD []).getD s1.snd.snd.toNat (0,[],0)).snd.snd)])else s1.fst,IntKind.i64.wrap (s1.snd.fst+r1),IntKind.i64.wrap (s1.snd.snd+1)))else none else none else some (Sum.inr s1.fst)
def amh:Option (List (Int×List UInt8×Int))→Int→Int→Option (Option (List (Int×List UInt8×Int))×Bool):=fun f from' to=>if decide (from'<0)=true then some (none,false)else if decide (to<from')=true then some (none,false)else aI (oB f) fun r1=>if decide (to>r1)=true then some (none,false)else aI (bO (aFz f from' to) (none,0,0)) fun r2=>if(r2.isSome==r2.isSome)=true then if(r2.isSome==r2.isSome)=true then some (r2,true)else none else none
def ajY:List UInt8→List Int×Int→Option (List Int×Int ⊕ List Int):=fun s s1=>if decide (s1.snd<ag (List.replicate (ag s).toNat (0:Int)))=true then if(decide (0≤IntKind.i64.wrap (IntKind.i64.wrap (ag s - 1) - s1.snd))&&(aS (IntKind.i64.wrap (IntKind.i64.wrap (ag s - 1) - s1.snd)).toNat s.length&&(decide (0≤s1.snd∧s1.snd<ag s1.fst)&&aS (0+s1.snd.toNat) s1.fst.length)))=true then some (Sum.inl (s1.fst.set (0+s1.snd.toNat) (aR (s.getD (IntKind.i64.wrap (IntKind.i64.wrap (ag s - 1) - s1.snd)).toNat 0)),IntKind.i64.wrap (s1.snd+1)))else none else some (Sum.inr s1.fst)
def rV:List UInt8→Option (List UInt8):=fun s=>if decide (0≤ag s∧ag s≤ag s∧ag s≤68719476736)=true then aI (bO (ajY s) (List.replicate (ag s).toNat 0,0)) fun r1=>some (jR r1)else none
def ab8:List UInt8→List UInt8→Option Bool:=fun s t=>if(!decide (ag s≥ag t)||decide ((0:Int)≤0∧0≤ag t∧ag t≤ag s))=true then some (decide (ag s≥ag t)&&decide (bV 0 (ag t) s=t))else none
def nj:Int→Option (Int×List UInt8×Int):=fun b=>some (1,jR [b],0)
def pO:List UInt8→Option ((Int×List UInt8×Int)×Int):=fun s=>if(true&&aS 0 s.length)=true then if(aR (s.getD 0 0)==34)=true then aI (ab8 s [34,34]) fun r1=>if r1=true then aI (nj 34) fun r2=>some (r2,2)else some ((0,[],0),0)else if(aR (s.getD 0 0)==123)=true then aI (ab8 s [123,123]) fun r3=>if r3=true then aI (nj 123) fun r4=>some (r4,2)else none else if aS 0 s.length=true then aI (nj (Int.ofNat (s.getD 0 0).toNat)) fun r5=>some (r5,1)else none else none
def rO:Int→List UInt8→Option ((Int×List UInt8×Int)×Int):=fun format s=>if(!format==1&& !format==2)=true then aI (pO s) fun r1=>some r1 else none
def ajw:Option (List (Int×List UInt8×Int))→Option (List (Int×List UInt8×Int))×Int→Option (Option (List (Int×List UInt8×Int))×Int ⊕ Option (List (Int×List UInt8×Int))):=fun f s1=>if decide (s1.snd<ag (f.getD []))=true then if(decide (0≤s1.snd∧s1.snd<ag (f.getD []))&&if(((f.getD []).getD s1.snd.toNat (0,[],0)).fst != 1)=true then decide (0+(s1.fst.getD []).length=(s1.fst.getD []).length)&&(decide ((s1.fst.getD []).length+1≤68719476736)&&s1.fst.isSome==s1.fst.isSome)else decide (((f.getD []).getD s1.snd.toNat (0,[],0)).snd.fst=[])||(!decide (ag (s1.fst.getD [])>0)||decide (0≤IntKind.i64.wrap (ag (s1.fst.getD []) - 1)∧IntKind.i64.wrap (ag (s1.fst.getD []) - 1)<ag (s1.fst.getD []))&&aS (0+(IntKind.i64.wrap (ag (s1.fst.getD []) - 1)).toNat) (s1.fst.getD []).length)&&if(decide (ag (s1.fst.getD [])>0)&&((s1.fst.getD []).getD (0+(IntKind.i64.wrap (ag (s1.fst.getD []) - 1)).toNat) (0,[],0)).fst==1)=true then decide (0≤IntKind.i64.wrap (ag (s1.fst.getD []) - 1)∧IntKind.i64.wrap (ag (s1.fst.getD []) - 1)<ag (s1.fst.getD []))&&(aS (0+(IntKind.i64.wrap (ag (s1.fst.getD []) - 1)).toNat) (s1.fst.getD []).length&&(decide (((s1.fst.getD []).getD (0+(IntKind.i64.wrap (ag (s1.fst.getD []) - 1)).toNat) (0,[],0)).snd.fst.length+((f.getD []).getD s1.snd.toNat (0,[],0)).snd.fst.length≤1152921504606846976)&&(decide (0≤IntKind.i64.wrap (ag (s1.fst.getD []) - 1)∧IntKind.i64.wrap (ag (s1.fst.getD []) - 1)<ag (s1.fst.getD []))&&aS (0+(IntKind.i64.wrap (ag (s1.fst.getD []) - 1)).toNat) (s1.fst.getD []).length)))else decide (0+(s1.fst.getD []).length=(s1.fst.getD []).length)&&(decide ((s1.fst.getD []).length+1≤68719476736)&&s1.fst.isSome==s1.fst.isSome))=true then some (Sum.inl (if(((f.getD []).getD s1.snd.toNat (0,[],0)).fst != 1)=true then some (s1.fst.getD []++[(f.getD []).getD s1.snd.toNat (0,[],0)])else if decide (((f.getD []).getD s1.snd.toNat (0,[],0)).snd.fst=[])=true then s1.fst else some (if(decide (ag (s1.fst.getD [])>0)&&((s1.fst.getD []).getD (0+(IntKind.i64.wrap (ag (s1.fst.getD []) - 1)).toNat) (0,[],0)).fst==1)=true then(s1.fst.getD []).set (0+(IntKind.i64.wrap (ag (s1.fst.getD []) - 1)).toNat) (1,((s1.fst.getD []).getD (0+(IntKind.i64.wrap (ag (s1.fst.getD []) - 1)).toNat) (0,[],0)).snd.fst++((f.getD []).getD s1.snd.toNat (0,[],0)).snd.fst,0)else s1.fst.getD []++[(1,((f.getD []).getD s1.snd.toNat (0,[],0)).snd.fst,0)]),IntKind.i64.wrap (s1.snd+1)))else none else some (Sum.inr s1.fst)
def pN:Option (List (Int×List UInt8×Int))→Option (Option (List (Int×List UInt8×Int))):=fun f=>aI (bO (ajw f) (none,0)) fun r1=>if(r1.isSome==r1.isSome)=true then if(r1.isSome==r1.isSome)=true then some r1 else none else none
def ou:Option (List (Int×List UInt8×Int))→Option (List (Int×List UInt8×Int))→Option (Option (List (Int×List UInt8×Int))):=fun a b=>if decide ((a.getD []).length≤68719476736)=true then if decide (0+((eT (a.getD [])).getD []).length=((eT (a.getD [])).getD []).length)=true then if decide (((eT (a.getD [])).getD []).length+(b.getD []).length≤68719476736)=true then if((eT (a.getD [])).isSome==(eT (a.getD [])).isSome)=true then if((gN (eT (a.getD [])) (b.getD [])).isSome==(gN (eT (a.getD [])) (b.getD [])).isSome)=true then aI (pN (gN (eT (a.getD [])) (b.getD []))) fun r1=>if(r1.isSome==r1.isSome)=true then if(r1.isSome==r1.isSome)=true then some r1 else none else none else none else none else none else none else none
def xj:Int×List UInt8→Option (Int×List UInt8 ⊕ List UInt8):=fun s1=>if(true&&decide (1+s1.snd.length≤1152921504606846976))=true then if(IntKind.i64.wrap (s1.fst.tdiv 10)==0)=true then some (Sum.inr (jR [IntKind.u8.wrap (IntKind.i64.wrap (48+s1.fst.tmod 10))]++s1.snd))else some (Sum.inl (IntKind.i64.wrap (s1.fst.tdiv 10),jR [IntKind.u8.wrap (IntKind.i64.wrap (48+s1.fst.tmod 10))]++s1.snd))else none
def kV:Int→Option (List UInt8):=fun n=>aI (bO xj (n,[])) fun r1=>some r1
def ot:Int→Option (List UInt8):=fun n=>if(decide (n<0)&&decide (n> -4611686018427387904))=true then aI (kV (IntKind.i64.wrap (0 - n))) fun r1=>if decide (1+r1.length≤1152921504606846976)=true then some (45 :: r1)else none else aI (kV (ju n 0)) fun r2=>some r2
def ajx:List UInt8→Int→Option (Int ⊕ List UInt8 ⊕ Unit):=fun s s1=>if decide (s1<ag s)=true then if(decide (0≤s1)&&aS s1.toNat s.length)=true then if(aR (s.getD s1.toNat 0)==32)=true then if decide ((0:Int)≤0∧0≤s1∧s1≤ag s)=true then some (Sum.inr (Sum.inl (bV 0 s1 s)))else none else some (Sum.inl (IntKind.i64.wrap (s1+1)))else none else some (Sum.inr (Sum.inr ()))
def rN:List UInt8→Option (List UInt8):=fun s=>aI (bO (ajx s) 0) fun r1=>gL r1 (fun r2=>some r2) fun r3=>some s
def j5:Int→Option Int:=fun b=>if(b==9||(b==10||(b==13||b==32)))=true then some 2 else if(decide (b<32)||b==127)=true then some 1 else if(decide (b≥48)&&decide (b≤57))=true then some 3 else if(if decide (b≥97)=true then decide (b≤122)||if decide (b≥65)=true then decide (b≤90)||decide (b≥128)else decide (b≥128)else if decide (b≥65)=true then decide (b≤90)||decide (b≥128)else decide (b≥128))=true then some 4 else some 5
def ajU:List UInt8→Int→Option (Int ⊕ Int):=fun s s1=>if decide (s1<ag s)=true then if decide (0≤s1)=true then if aS s1.toNat s.length=true then aI (j5 (Int.ofNat (s.getD s1.toNat 0).toNat)) fun r1=>if(r1==2)=true then some (Sum.inl (IntKind.i64.wrap (s1+1)))else some (Sum.inr s1)else none else none else some (Sum.inr s1)
def ajV:List UInt8→Int→Int→Option (Int ⊕ Int):=fun s r1 s1=>if decide (s1>r1)=true then if decide (0≤IntKind.i64.wrap (s1 - 1))=true then if aS (IntKind.i64.wrap (s1 - 1)).toNat s.length=true then aI (j5 (Int.ofNat (s.getD (IntKind.i64.wrap (s1 - 1)).toNat 0).toNat)) fun r2=>if(r2==2)=true then some (Sum.inl (IntKind.i64.wrap (s1 - 1)))else some (Sum.inr s1)else none else none else some (Sum.inr s1)
def rU:List UInt8→Option (Int×Int):=fun s=>aI (bO (ajU s) 0) fun r1=>aI (bO (ajV s r1) (ag s)) fun r2=>if(r1==r2)=true then some (0,0)else some (r1,r2)
def aFF:Option (List (Int×List UInt8×Int))→Int×Option (List Int)→Option (Int×Option (List Int) ⊕ Int×Option (List Int)):=fun f s1=>if(!decide (s1.fst<ag (f.getD []))||decide (0≤s1.fst∧s1.fst<ag (f.getD [])))=true then if(decide (s1.fst<ag (f.getD []))&&((f.getD []).getD s1.fst.toNat (0,[],0)).fst==1)=true then if(decide (0≤s1.fst∧s1.fst<ag (f.getD []))&&(decide (0+(s1.snd.getD []).length=(s1.snd.getD []).length)&&(decide ((s1.snd.getD []).length+(jc ((f.getD []).getD s1.fst.toNat (0,[],0)).snd.fst).length≤68719476736)&&(s1.snd.isSome==s1.snd.isSome&&(gN s1.snd (jc ((f.getD []).getD s1.fst.toNat (0,[],0)).snd.fst)).isSome==(gN s1.snd (jc ((f.getD []).getD s1.fst.toNat (0,[],0)).snd.fst)).isSome))))=true then some (Sum.inl (IntKind.i64.wrap (s1.fst+1),gN s1.snd (jc ((f.getD []).getD s1.fst.toNat (0,[],0)).snd.fst)))else none else some (Sum.inr s1)else none
def aFG:Option (List (Int×List UInt8×Int))→Option (List (Int×List UInt8×Int))×Int→Option (Option (List (Int×List UInt8×Int))×Int ⊕ Option (List (Int×List UInt8×Int))):=fun f s1=>if decide (s1.snd<ag (f.getD []))=true then if decide (0≤s1.snd∧s1.snd<ag (f.getD []))=true then if(((f.getD []).getD s1.snd.toNat (0,[],0)).fst != 1)=true then if(decide (0≤s1.snd∧s1.snd<ag (f.getD []))&&(decide (0+(s1.fst.getD []).length=(s1.fst.getD []).length)&&(decide ((s1.fst.getD []).length+1≤68719476736)&&s1.fst.isSome==s1.fst.isSome)))=true then some (Sum.inl (some (s1.fst.getD []++[(f.getD []).getD s1.snd.toNat (0,[],0)]),IntKind.i64.wrap (s1.snd+1)))else none else aI (bO (aFF f) (s1.snd,none)) fun r1=>if(!decide (ag (r1.snd.getD [])>0)||r1.snd.isSome==r1.snd.isSome&&(decide (0+(s1.fst.getD []).length=(s1.fst.getD []).length)&&(decide ((s1.fst.getD []).length+1≤68719476736)&&s1.fst.isSome==s1.fst.isSome)))=true then some (Sum.inl (if decide (ag (r1.snd.getD [])>0)=true then some (s1.fst.getD []++[(1,jR (r1.snd.getD []),0)])else s1.fst,r1.fst))else none else none else some (Sum.inr s1.fst)
def afN:Option (List (Int×List UInt8×Int))→Option (Option (List (Int×List UInt8×Int))):=fun f=>aI (bO (aFG f) (none,0)) fun r1=>if(r1.isSome==r1.isSome)=true then if(r1.isSome==r1.isSome)=true then some r1 else none else none
def ajX:Option (List (Int×List UInt8×Int))→Option (List Int)×Int→Option (Option (List Int)×Int ⊕ Option (List Int)):=fun f s1=>if decide (s1.snd<ag (f.getD []))=true then if(decide (0≤s1.snd∧s1.snd<ag (f.getD []))&&if(((f.getD []).getD s1.snd.toNat (0,[],0)).fst==1)=true then decide (0+(s1.fst.getD []).length=(s1.fst.getD []).length)&&(decide ((s1.fst.getD []).length+(jc ((f.getD []).getD s1.snd.toNat (0,[],0)).snd.fst).length≤68719476736)&&(s1.fst.isSome==s1.fst.isSome&&(gN s1.fst (jc ((f.getD []).getD s1.snd.toNat (0,[],0)).snd.fst)).isSome==(gN s1.fst (jc ((f.getD []).getD s1.snd.toNat (0,[],0)).snd.fst)).isSome))else !((f.getD []).getD s1.snd.toNat (0,[],0)).fst==5||decide (0+(s1.fst.getD []).length=(s1.fst.getD []).length)&&(decide ((s1.fst.getD []).length+1≤68719476736)&&s1.fst.isSome==s1.fst.isSome))=true then some (Sum.inl (if(((f.getD []).getD s1.snd.toNat (0,[],0)).fst==1)=true then gN s1.fst (jc ((f.getD []).getD s1.snd.toNat (0,[],0)).snd.fst)else if(((f.getD []).getD s1.snd.toNat (0,[],0)).fst==5)=true then some (s1.fst.getD []++[255])else s1.fst,IntKind.i64.wrap (s1.snd+1)))else none else some (Sum.inr s1.fst)
def oC:Option (List (Int×List UInt8×Int))→Option (List UInt8):=fun f=>aI (bO (ajX f) (none,0)) fun r1=>if(r1.isSome==r1.isSome)=true then some (jR (r1.getD []))else none
def aFJ:Option (List (Int×List UInt8×Int))→Int×Int×Int→Option (Int×Int×Int ⊕ Int ⊕ Int×Int):=fun r1 s1=>if decide (s1.fst>0)=true then if(decide (0≤s1.snd.snd∧s1.snd.snd<ag (r1.getD []))&&aS (0+s1.snd.snd.toNat) (r1.getD []).length)=true then if(((r1.getD []).getD (0+s1.snd.snd.toNat) (0,[],0)).fst==1&&decide (ag ((r1.getD []).getD (0+s1.snd.snd.toNat) (0,[],0)).snd.fst>s1.fst))=true then some (Sum.inr (Sum.inl (IntKind.i64.wrap (s1.snd.fst+s1.fst))))else some (Sum.inl (if(((r1.getD []).getD (0+s1.snd.snd.toNat) (0,[],0)).fst==1)=true then IntKind.i64.wrap (s1.fst - ag ((r1.getD []).getD (0+s1.snd.snd.toNat) (0,[],0)).snd.fst)else if(((r1.getD []).getD (0+s1.snd.snd.toNat) (0,[],0)).fst==5)=true then IntKind.i64.wrap (s1.fst - 1)else s1.fst,if(((r1.getD []).getD (0+s1.snd.snd.toNat) (0,[],0)).fst==1)=true then IntKind.i64.wrap (s1.snd.fst+ag ((r1.getD []).getD (0+s1.snd.snd.toNat) (0,[],0)).snd.fst)else if(((r1.getD []).getD (0+s1.snd.snd.toNat) (0,[],0)).fst==5)=true then IntKind.i64.wrap (s1.snd.fst+1)else IntKind.i64.wrap (s1.snd.fst+1),IntKind.i64.wrap (s1.snd.snd+1)))else none else some (Sum.inr (Sum.inr s1.snd))
def aFK:Option (List (Int×List UInt8×Int))→Int×Int→Option (Int×Int ⊕ Int):=fun r1 s1=>if(!decide (s1.snd<ag (r1.getD []))||decide (0≤s1.snd∧s1.snd<ag (r1.getD []))&&aS (0+s1.snd.toNat) (r1.getD []).length)=true then if(decide (s1.snd<ag (r1.getD []))&&((r1.getD []).getD (0+s1.snd.toNat) (0,[],0)).fst==3)=true then some (Sum.inl (IntKind.i64.wrap (s1.fst+1),IntKind.i64.wrap (s1.snd+1)))else some (Sum.inr s1.fst)else none
def aml:Option (List (Int×List UInt8×Int))→Int→Option Int:=fun f offset=>if decide (offset<0)=true then some (-1)else aI (oC f) fun r1=>if decide (offset>ag r1)=true then some (-1)else aI (afN f) fun r2=>if(r2.isSome==r2.isSome)=true then aI (bO (aFJ r2) (offset,0,0)) fun r3=>gL r3 (fun r4=>some r4) fun r5=>aI (bO (aFK r2) r5) fun r6=>some r6 else none
def ajZ:Option (List (Int×List UInt8×Int))→Option (List Bool)×Int→Option (List Bool)×Int→Option (Option (List Bool)×Int ⊕ Option (List Bool)):=fun f s1 s2=>if decide (s2.snd<ag ((f.getD []).getD s1.snd.toNat (0,[],0)).snd.fst)=true then if decide (0≤s2.snd)=true then if aS s2.snd.toNat ((f.getD []).getD s1.snd.toNat (0,[],0)).snd.fst.length=true then aI (j5 (Int.ofNat (((f.getD []).getD s1.snd.toNat (0,[],0)).snd.fst.getD s2.snd.toNat 0).toNat)) fun r1=>if(decide (0+(s2.fst.getD []).length=(s2.fst.getD []).length)&&(decide ((s2.fst.getD []).length+1≤68719476736)&&s2.fst.isSome==s2.fst.isSome))=true then some (Sum.inl (some (s2.fst.getD []++[r1==2]),IntKind.i64.wrap (s2.snd+1)))else none else none else none else some (Sum.inr s2.fst)
def aj0:Option (List (Int×List UInt8×Int))→Option (List Bool)×Int→Option (Option (List Bool)×Int ⊕ Option (List Bool)):=fun f s1=>if decide (s1.snd<ag (f.getD []))=true then if decide (0≤s1.snd∧s1.snd<ag (f.getD []))=true then if(((f.getD []).getD s1.snd.toNat (0,[],0)).fst != 1)=true then if(decide (0+(s1.fst.getD []).length=(s1.fst.getD []).length)&&(decide ((s1.fst.getD []).length+1≤68719476736)&&s1.fst.isSome==s1.fst.isSome))=true then some (Sum.inl (some (s1.fst.getD []++[false]),IntKind.i64.wrap (s1.snd+1)))else none else aI (bO (ajZ f s1) (s1.fst,0)) fun r1=>some (Sum.inl (r1,IntKind.i64.wrap (s1.snd+1)))else none else some (Sum.inr s1.fst)
def rW:Option (List (Int×List UInt8×Int))→Option (Option (List Bool)):=fun f=>aI (bO (aj0 f) (none,0)) fun r1=>if(r1.isSome==r1.isSome)=true then if(r1.isSome==r1.isSome)=true then some r1 else none else none
def amn:Int×List UInt8×Int→Option Bool:=fun x=>some (x.fst==2||(x.fst==3||x.fst==4))
def aFR:Int→List Int×Int→Option (List Int×Int ⊕ List Int):=fun n s1=>if decide (s1.snd<ag (List.replicate n.toNat (0:Int)))=true then if(decide (0≤s1.snd∧s1.snd<ag s1.fst)&&aS (0+s1.snd.toNat) s1.fst.length)=true then some (Sum.inl (s1.fst.set (0+s1.snd.toNat) (IntKind.i64.wrap (s1.snd+1)),IntKind.i64.wrap (s1.snd+1)))else none else some (Sum.inr s1.fst)
def amq:Int→Option (Option (List Int)):=fun n=>if decide (0≤n∧n≤n∧n≤68719476736)=true then aI (bO (aFR n) (List.replicate n.toNat 0,0)) fun r1=>some (some r1)else none
def afP:Int→Option Bool:=fun c=>if(c != 92)=true then if(c != 60)=true then if(c != 123)=true then if(c != 9)=true then if(c != 10)=true then if(c != 13)=true then aI (j5 c) fun r1=>some (r1 != 1)else some false else some false else some false else some false else some false else some false
def aFV:List UInt8→Option (List Int)×Int→Option (Option (List Int)×Int ⊕ Option (List Int)):=
 fun s s1=>
  if decide (s1.snd<ag s)=true then
   if(decide (0≤s1.snd)&&aS s1.snd.toNat s.length)=true then
    aI (afP (Int.ofNat (s.getD s1.snd.toNat 0).toNat)) fun r1=>
     if
       (if r1=true then !s1.fst.isSome&&decide ((1:Int)≤68719476736)
         else
          if(aR (s.getD s1.snd.toNat 0)==10)=true then !s1.fst.isSome&&true
          else
           if(aR (s.getD s1.snd.toNat 0)==9)=true then !s1.fst.isSome&&true
           else
            if
              (aR (s.getD s1.snd.toNat 0)==92||
                 (aR (s.getD s1.snd.toNat 0)==60||aR (s.getD s1.snd.toNat 0)==123))=
                true then
             !s1.fst.isSome&&decide ((2:Int)≤68719476736)
            else
             true&&
              (decide (0≤(aR (s.getD s1.snd.toNat 0)).fdiv 16)&&
                (aS ((aR (s.getD s1.snd.toNat 0)).fdiv 16).toNat 16&&
                  (decide (0≤dQ IntKind.u8 (aR (s.getD s1.snd.toNat 0)) 15)&&
                    (aS (dQ IntKind.u8 (aR (s.getD s1.snd.toNat 0)) 15).toNat 16&&
                      (!s1.fst.isSome&&decide ((4:Int)≤68719476736)))))))=
         true then
      none
     else none
   else none
  else some (Sum.inr s1.fst)
def ams:Option (List Int)→List UInt8→Option (Option (List Int)):=fun b s=>aI (bO (aFV s) (b,0)) fun r1=>none
def afR:Option (List ((Int×Int×Int×Int×Int×Int×Int×Int×Int×Int×Int×Int×Int×Int×Int×Int×Int×Int×Int×Int×Int×Int×Int×Int×Int×Int×Int×Int×Int×Int×Int×Int)×Int×Bool))→Option (Option (List ((Int×Int×Int×Int×Int×Int×Int×Int×Int×Int×Int×Int×Int×Int×Int×Int×Int×Int×Int×Int×Int×Int×Int×Int×Int×Int×Int×Int×Int×Int×Int×Int)×Int×Bool))):=fun s=>if(!s.isSome)=true then some none else if(true&&decide (0+(s.getD []).length≤68719476736))=true then some (some ([]++s.getD []))else none
def amw:Option (List ((Int×Int×Int×Int×Int×Int×Int×Int×Int×Int×Int×Int×Int×Int×Int×Int×Int×Int×Int×Int×Int×Int×Int×Int×Int×Int×Int×Int×Int×Int×Int×Int)×Int×Bool))→Option (Option (List ((Int×Int×Int×Int×Int×Int×Int×Int×Int×Int×Int×Int×Int×Int×Int×Int×Int×Int×Int×Int×Int×Int×Int×Int×Int×Int×Int×Int×Int×Int×Int×Int)×Int×Bool))):=fun p=>aI (afR p) fun r1=>if(r1.isSome==r1.isSome)=true then none else none
def internal_strconv_small:Int→Option (List UInt8):=fun i=>if decide (i<10)=true then if decide (0≤i∧i≤IntKind.i64.wrap (i+1)∧IntKind.i64.wrap (i+1)≤36)=true then some (bV i (IntKind.i64.wrap (i+1)) [48,49,50,51,52,53,54,55,56,57,97,98,99,100,101,102,103,104,105,106,107,108,109,110,111,112,113,114,115,116,117,118,119,120,121,122])else none else if decide (0≤IntKind.i64.wrap (i * 2)∧IntKind.i64.wrap (i * 2)≤IntKind.i64.wrap (IntKind.i64.wrap (i * 2)+2)∧IntKind.i64.wrap (IntKind.i64.wrap (i * 2)+2)≤200)=true then some (bV (IntKind.i64.wrap (i * 2)) (IntKind.i64.wrap (IntKind.i64.wrap (i * 2)+2)) [48,48,48,49,48,50,48,51,48,52,48,53,48,54,48,55,48,56,48,57,49,48,49,49,49,50,49,51,49,52,49,53,49,54,49,55,49,56,49,57,50,48,50,49,50,50,50,51,50,52,50,53,50,54,50,55,50,56,50,57,51,48,51,49,51,50,51,51,51,52,51,53,51,54,51,55,51,56,51,57,52,48,52,49,52,50,52,51,52,52,52,53,52,54,52,55,52,56,52,57,53,48,53,49,53,50,53,51,53,52,53,53,53,54,53,55,53,56,53,57,54,48,54,49,54,50,54,51,54,52,54,53,54,54,54,55,54,56,54,57,55,48,55,49,55,50,55,51,55,52,55,53,55,54,55,55,55,56,55,57,56,48,56,49,56,50,56,51,56,52,56,53,56,54,56,55,56,56,56,57,57,48,57,49,57,50,57,51,57,52,57,53,57,54,57,55,57,56,57,57])else none
def afU:Int→Int→Option (List UInt8):=fun i base=>if(base==10)=true then if(decide (0≤i)&&decide (i<100))=true then aI (internal_strconv_small i) fun r1=>some r1 else none else none
def internal_strconv_Itoa:Int→Option (List UInt8):=fun i=>aI (afU i 10) fun r1=>some r1
def amB:Int→Option (List UInt8):=fun i=>aI (internal_strconv_Itoa i) fun r1=>some r1
def nt:Int×Option (List (Bool×List UInt8×List UInt8))→Option (Option (List Int)):=fun d=>none
def rX:Option (List (Int×List UInt8×Int))→Option (Option (List (Int×List UInt8×Int))):=fun s=>if(!s.isSome)=true then some none else if(true&&decide (0+(s.getD []).length≤68719476736))=true then some (some ([]++s.getD []))else none
end Go.Fn
namespace Go.PL
open Go Go.Vs Go.Ve
def oG (n:Int):Prop:=-9223372036854775808≤n∧n≤9223372036854775807
theorem aIz {o:Option (List Int)} (h:Wf (.sl (.int .i64)) o):∀x∈o.getD [],oG x:=by
 cases o with
 |none=>intro x hx;cases hx
 |some xs=>exact h
theorem aIA {n:Int} (h:oG n):n.fdiv 9223372036854775808=if n<0 then -1 else 0:=by
 rw[Int.fdiv_eq_ediv_of_nonneg _ (by decide)]
 unfold oG at h
 split<;>omega
theorem wrap_u64 {n:Int} (h:oG n):IntKind.u64.wrap n=if n<0 then n+18446744073709551616 else n:=by
 unfold oG at h
 simp only[IntKind.wrap,IntKind.bits,IntKind.signed]
 simp
 split<;>omega
theorem ifT {α:Sort _} {c:Prop} [Decidable c] {a b x:α} (h:c) (k:a=x):(if c then a else b)=x:=(if_pos h).trans k
theorem ifF {α:Sort _} {c:Prop} [Decidable c] {a b x:α} (h:¬c) (k:b=x):(if c then a else b)=x:=(if_neg h).trans k
theorem dcT {α:Sort _} {c:Prop} [Decidable c] {a b x:α} (h:c) (k:a=x):(if decide c=true then a else b)=x:=(if_pos (decide_eq_true h)).trans k
theorem dcF {α:Sort _} {c:Prop} [Decidable c] {a b x:α} (h:¬c) (k:b=x):(if decide c=true then a else b)=x:=(if_neg (by simpa using h)).trans k
theorem sfT {α:Sort _} {b:Bool} {x y z:α} (k:x=z):(if(b==b)=true then x else y)=z:=(if_pos (beq_self_eq_true b)).trans k
theorem aIG {ρ α:Type} {o:Option ρ} {v:ρ} {f:ρ→Option α} {x:Option α} (h:o=some v) (k:f v=x):aI o f=x:=by rw[h];exact k
theorem ifL {α β:Sort _} {F:α→β} {c c':Prop} [Decidable c] [Decidable c'] {a b:α} {A B:β} (h:c↔c') (h1:c'→A=F a) (h2:¬c'→B=F b):(if c then A else B)=F (if c' then a else b):=by
 by_cases hc:c
 ·rw[if_pos hc,if_pos (h.1 hc)];exact h1 (h.1 hc)
 ·rw[if_neg hc,if_neg fun q=>hc (h.2 q)];exact h2 fun q=>hc (h.2 q)
def scan {ρ:Type} (e:Nat→Option ρ):Nat→Nat→Option ρ
 |_,0=>none
 |i,k+1=>match e i with
  |some r=>some r
  |none=>scan e (i+1) k
theorem avr {ρ:Type} {e:Nat→Option ρ}:∀(k i:Nat),scan e i k=none↔ ∀j,i≤j→j<i+k→e j=none
 |0,i=>by simp[scan];intro j h1 h2;omega
 |k+1,i=>by
  unfold scan
  constructor
  ·intro h j h1 h2
   cases he:e i with
   |some r=>rw[he]at h;cases h
   |none=>
    rw[he]at h
    rcases Nat.eq_or_lt_of_le h1 with rfl|h3
    ·exact he
    ·exact(avr k (i+1)).1 h j h3 (by omega)
  ·intro h
   rw[h i (Nat.le_refl _) (by omega)]
   exact(avr k (i+1)).2 fun j h1 h2=>h j (by omega) (by omega)
theorem aGC {ρ:Type} {e:Nat→Option ρ} {r:ρ}:∀{k i:Nat},scan e i k=some r→∃j,i≤j∧j<i+k∧e j=some r
 |0,i,h=>by simp[scan]at h
 |k+1,i,h=>by
  unfold scan at h
  cases he:e i with
  |some x=>rw[he]at h;cases h;exact⟨i,Nat.le_refl _,by omega,he⟩
  |none=>
   rw[he]at h
   obtain⟨j,h1,h2,h3⟩:=aGC h
   exact⟨j,by omega,by omega,h3⟩
theorem aGD {ρ:Type} {e e':Nat→Option ρ}:∀(k i:Nat),(∀j,i≤j→j<i+k→e j=e' j)→scan e i k=scan e' i k
 |0,_,_=>rfl
 |k+1,i,h=>by
  unfold scan
  rw[h i (Nat.le_refl _) (by omega),aGD k (i+1) fun j h1 h2=>h j (by omega) (by omega)]
def afX {ρ:Type}:Option ρ→ρ ⊕ Unit
 |some r=>.inl r
 |none=>.inr ()
def amF {ρ:Type} (i:Nat) (o:Option ρ):Option (Int ⊕ ρ ⊕ Unit):=match o with
 |none=>some (.inl ((i+1:Nat):Int))
 |some r=>some (.inr (.inl r))
theorem avs {ρ:Type} {f:Int→Option (Int ⊕ ρ ⊕ Unit)} (n:Nat) (e:Nat→Option ρ)
  (step:∀i,i<n→f (i:Int)=amF i (e i)) (stop:f (n:Int)=some (.inr (.inr ()))):
  ∀(k i m:Nat),i+k=n→k<m→eU f m (i:Int)=some (afX (scan e i k))
 |0,i,m,hi,hm=>by
  obtain⟨m,rfl⟩:∃q,m=q+1:=⟨m - 1,by omega⟩
  have:i=n:=by omega
  subst this
  unfold eU
  rw[stop];rfl
 |k+1,i,m,hi,hm=>by
  obtain⟨m,rfl⟩:∃q,m=q+1:=⟨m - 1,by omega⟩
  unfold eU scan
  rw[step i (by omega)]
  cases e i with
  |some r=>rfl
  |none=>exact avs n e step stop k (i+1) m (by omega) (by omega)
theorem aGE {ρ:Type} {f:Int→Option (Int ⊕ ρ ⊕ Unit)} (n:Nat) (e:Nat→Option ρ) (i:Nat)
  (step:∀i,i<n→f (i:Int)=amF i (e i)) (stop:f (n:Int)=some (.inr (.inr ()))) (hi:i≤n) (hn:n<fuel):
  bO f (i:Int)=some (afX (scan e i (n - i))):=
 avs n e step stop (n - i) i fuel (by omega) (by omega)
theorem aII {ρ:Type} {f:Int→Option (Int ⊕ ρ ⊕ Unit)} (n:Nat) (e:Nat→Option ρ)
 (step:∀i,i<n→f (i:Int)=amF i (e i)) (stop:f (n:Int)=some (.inr (.inr ()))) (hn:n<fuel):
 bO f 0=some (afX (scan e 0 n)):=aGE n e 0 step stop (Nat.zero_le _) hn
theorem aIJ {ρ α:Type} (o:Option ρ) (k:ρ→Option α) (d:Option α):gL (afX o) k (fun _=>d)=match o with|some r=>k r|none=>d:=by cases o<;>rfl
theorem avt {σ ρ:Type} {f:σ→Option (σ ⊕ ρ)} (n:Nat) (st:Nat→σ) {r:ρ} (step:∀i,i<n→f (st i)=some (.inl (st (i+1)))) (stop:f (st n)=some (.inr r)):
  ∀(k i m:Nat),i+k=n→k<m→eU f m (st i)=some r
 |0,i,m,hi,hm=>by
  obtain⟨m,rfl⟩:∃q,m=q+1:=⟨m - 1,by omega⟩
  have:i=n:=by omega
  subst this
  unfold eU
  rw[stop]
 |k+1,i,m,hi,hm=>by
  obtain⟨m,rfl⟩:∃q,m=q+1:=⟨m - 1,by omega⟩
  unfold eU
  rw[step i (by omega)]
  exact avt n st step stop k (i+1) m (by omega) (by omega)
theorem gJ {σ ρ:Type} {f:σ→Option (σ ⊕ ρ)} (n:Nat) (st:Nat→σ) {r:ρ} (step:∀i,i<n→f (st i)=some (.inl (st (i+1)))) (stop:f (st n)=some (.inr r)) (hn:n<fuel):bO f (st 0)=some r:=
 avt n st step stop n 0 fuel (by omega) (by omega)
theorem aIK {α:Type} {xs:List α} {i:Int} {r:Bool}:(decide (0≤i∧i<ag xs)&&(aS i.toNat xs.length&&r))=(decide (0≤i∧i<ag xs)&&r):=by
 rw[←Bool.and_assoc,ass]
theorem aIL {α:Type} {xs:List α} {k:Nat} (h:k<xs.length):(decide (0≤(k:Int)∧(k:Int)<ag xs)&&aS (0+((k:Int)).toNat) xs.length)=true:=by
 rw[Nat.zero_add,ass];exact decide_eq_true ⟨by omega,by rw[xg];omega⟩
def cK {α:Type} (l:List α):Option (List α):=match l with
 | []=>none
 |x :: r=>some (x :: r)
@[simp] theorem iT {α:Type} (l:List α):(cK l).getD []=l:=by cases l<;>rfl
theorem avu {α:Type} (l:List α) (x:α):some ((cK l).getD []++[x])=cK (l++[x]):=by cases l<;>rfl
theorem aIM (b:UInt8):0≤aR b:=Int.natCast_nonneg _
theorem aIN (b:UInt8):aR b<256:=by unfold aR;have:=b.toNat_lt;omega
theorem aIO {s:List UInt8} {k:Nat} (h:k<s.length):(decide (0≤(k:Int))&&aS ((k:Int)).toNat s.length)=true:=by
 rw[Bool.and_eq_true,decide_eq_true_iff,gY];omega
theorem aIP {s:List UInt8} {k:Nat} (h:k<s.length) {d:UInt8}:s.getD ((k:Int)).toNat d=s[k]:=by
 rw[Int.toNat_natCast,List.getD_eq_getElem?_getD,List.getElem?_eq_getElem h];rfl
theorem aIQ {α:Type} {xs:List α} {p:Int} (h0:1≤p) (h1:p≤(xs.length:Int)) (h2:(xs.length:Int)≤4611686018427387904):
  IntKind.i64.wrap (p - 1)=p - 1∧decide (0≤p - 1∧p - 1<ag xs)=true:=by
 refine⟨wrap_i64 (by omega) (by omega),decide_eq_true ?_⟩
 rw[xg];omega
end Go.PL
namespace Go.Fp
open Go Go.Vs Go.Ve Go.PL
abbrev Part:=Bool×List UInt8×List UInt8
def fR:Nat→List UInt8
 |0=>[]
 |n+1=>10 :: 34 :: 97 :: 34 :: fR n
def aC (n:Nat):List UInt8:=116 :: 101 :: 120 :: 116 :: fR n
theorem avv:∀n,(fR n).length=4 * n
 |0=>rfl
 |n+1=>by simp only[fR,List.length_cons,avv n];omega
theorem nw (n:Nat):(aC n).length=4 * n+4:=by simp only[aC,List.length_cons,avv]
theorem j7 (n:Nat):ag (aC n)=4 * (n:Int)+4:=by unfold ag;rw[nw];omega
theorem acd:∀(n k:Nat),k<n→(fR n)[4 * k]? =some 10∧(fR n)[4 * k+1]? =some 34∧(fR n)[4 * k+2]? =some 97∧(fR n)[4 * k+3]? =some 34
 |0,_,h=>by omega
 |n+1,0,_=>⟨rfl,rfl,rfl,rfl⟩
 |n+1,k+1,h=>by
  have:=acd n k (by omega)
  rw[show 4 * (k+1)=4 * k+4 by omega,show 4 * k+4+1=(4 * k+1)+4 by omega,show 4 * k+4+2=(4 * k+2)+4 by omega,show 4 * k+4+3=(4 * k+3)+4 by omega]
  simpa only[fR,List.getElem?_cons_succ]using this
theorem su {n k:Nat} (h:k<n):(aC n).getD (4 * k+4) 0=10:=by
 have:=(acd n k h).1
 rw[List.getD_eq_getElem?_getD]
 simp only[aC,List.getElem?_cons_succ,this,Option.getD_some]
theorem avw {n k:Nat} (h:k<n):(aC n).getD (4 * k+5) 0=34:=by
 have:=(acd n k h).2.1
 rw[List.getD_eq_getElem?_getD]
 simp only[aC,List.getElem?_cons_succ,this,Option.getD_some]
theorem avx {n k:Nat} (h:k<n):(aC n).getD (4 * k+6) 0=97:=by
 have:=(acd n k h).2.2.1
 rw[List.getD_eq_getElem?_getD]
 simp only[aC,List.getElem?_cons_succ,this,Option.getD_some]
theorem avy {n k:Nat} (h:k<n):(aC n).getD (4 * k+7) 0=34:=by
 have:=(acd n k h).2.2.2
 rw[List.getD_eq_getElem?_getD]
 simp only[aC,List.getElem?_cons_succ,this,Option.getD_some]
theorem avz:∀(n k:Nat),k<n→((fR n).take (4 * k+3)).drop (4 * k+2)=[97]
 |0,_,h=>by omega
 |n+1,0,_=>rfl
 |n+1,k+1,h=>by
  have:=avz n k (by omega)
  rw[show 4 * (k+1)+3=(4 * k+3)+4 by omega,show 4 * (k+1)+2=(4 * k+2)+4 by omega]
  simpa only[fR,List.take_succ_cons,List.drop_succ_cons]using this
theorem avA:∀(n k:Nat),k+1<n→((fR n).take (4 * k+6)).drop (4 * k+3)=[34,10,34]
 |0,_,h=>by omega
 |1,_,h=>by omega
 |n+2,0,_=>rfl
 |n+2,k+1,h=>by
  have:=avA (n+1) k (by omega)
  rw[show 4 * (k+1)+6=(4 * k+6)+4 by omega,show 4 * (k+1)+3=(4 * k+3)+4 by omega,fR]
  simpa only[List.take_succ_cons,List.drop_succ_cons]using this
theorem amG:∀(n:Nat),(fR (n+1)).drop (4 * n+3)=[34]
 |0=>rfl
 |n+1=>by
  have:=amG n
  rw[show 4 * (n+1)+3=(4 * n+3)+4 by omega,fR]
  simpa only[List.drop_succ_cons]using this
theorem amH {α:Type} (a b:Nat) (l:List α):bV (a:Int) (b:Int) l=(l.take b).drop a:=by
 unfold bV
 simp
theorem afY {n k:Nat} (h:k<n):bV ((4 * k+6:Nat):Int) ((4 * k+7:Nat):Int) (aC n)=[97]:=by
 rw[amH,show 4 * k+6=(4 * k+2)+4 by omega,show 4 * k+7=(4 * k+3)+4 by omega]
 simpa only[aC,List.take_succ_cons,List.drop_succ_cons]using avz n k h
theorem avB {n:Nat} (h:0<n):bV 0 6 (aC n)=[116,101,120,116,10,34]:=by
 cases n with
 |zero=>omega
 |succ n=>rfl
theorem avC {n k:Nat} (h:k+1<n):bV ((4 * k+7:Nat):Int) ((4 * k+10:Nat):Int) (aC n)=[34,10,34]:=by
 rw[amH,show 4 * k+7=(4 * k+3)+4 by omega,show 4 * k+10=(4 * k+6)+4 by omega]
 simpa only[aC,List.take_succ_cons,List.drop_succ_cons]using avA n k h
theorem avD (n:Nat):bV ((4 * n+7:Nat):Int) (ag (aC (n+1))) (aC (n+1))=[34]:=by
 have e:ag (aC (n+1))=(((aC (n+1)).length:Nat):Int):=rfl
 rw[e,amH,List.take_length,show 4 * n+7=(4 * n+3)+4 by omega]
 simpa only[aC,List.drop_succ_cons]using amG n
theorem jC {a b:Nat} (h:a<b):aS a b=true:=(gY a b).2 h
theorem aIR {s:List UInt8} {i:Nat} {c:UInt8} {z:Int} (h:s.getD i 0=c) (hz:aR c=z):aR (s.getD i 0)=z:=by rw[h,hz]
theorem aGF {n k:Nat} (h:k<n) (hn:n≤10000):lY (aC n) (4 * (k:Int)+5)=some (4 * (k:Int)+8,true,true):=by
 have hl:=j7 n
 have hL:=nw n
 have t5:(4 * (k:Int)+5).toNat=4 * k+5:=by omega
 have t6:(4 * (k:Int)+6).toNat=4 * k+6:=by omega
 have t7:(4 * (k:Int)+7).toNat=4 * k+7:=by omega
 have t8:(4 * (k:Int)+8).toNat=4 * k+8:=by omega
 have w6:IntKind.i64.wrap (4 * (k:Int)+5+1)=4 * (k:Int)+6:=by rw[wrap_i64 (by omega) (by omega)];omega
 have w7:IntKind.i64.wrap (4 * (k:Int)+6+1)=4 * (k:Int)+7:=by rw[wrap_i64 (by omega) (by omega)];omega
 have w8:IntKind.i64.wrap (4 * (k:Int)+7+1)=4 * (k:Int)+8:=by rw[wrap_i64 (by omega) (by omega)];omega
 have b5:aR ((aC n).getD (4 * k+5) 0)=34:=by rw[avw h];rfl
 have b6:aR ((aC n).getD (4 * k+6) 0)=97:=by rw[avx h];rfl
 have b7:aR ((aC n).getD (4 * k+7) 0)=34:=by rw[avy h];rfl
 have n5:aS (4 * k+5) (aC n).length=true:=jC (by omega)
 have n6:aS (4 * k+6) (aC n).length=true:=jC (by omega)
 have n7:aS (4 * k+7) (aC n).length=true:=jC (by omega)
 have l5:decide (4 * (k:Int)+5<ag (aC n))=true:=by rw[hl];exact decide_eq_true (by omega)
 have l6:decide (4 * (k:Int)+6<ag (aC n))=true:=by rw[hl];exact decide_eq_true (by omega)
 have l7:decide (4 * (k:Int)+7<ag (aC n))=true:=by rw[hl];exact decide_eq_true (by omega)
 have z5:decide (0≤4 * (k:Int)+5)=true:=decide_eq_true (by omega)
 have z6:decide (0≤4 * (k:Int)+6)=true:=decide_eq_true (by omega)
 have z7:decide (0≤4 * (k:Int)+7)=true:=decide_eq_true (by omega)
 have z8:decide (0≤4 * (k:Int)+8)=true:=decide_eq_true (by omega)
 have b8:(4 * (k:Int)+8=ag (aC n)∧decide (4 * (k:Int)+8<ag (aC n))=false)∨(¬4 * (k:Int)+8=ag (aC n)∧decide (4 * (k:Int)+8<ag (aC n))=true∧aS (4 * k+8) (aC n).length=true∧aR ((aC n).getD (4 * k+8) 0)=10):=by
  rcases Nat.lt_or_ge (k+1) n with h1|h1
  ·right
   have:=su h1
   rw[show 4 * (k+1)+4=4 * k+8 by omega]at this
   exact⟨by rw[hl];omega,by rw[hl];exact decide_eq_true (by omega),jC (by omega),by rw[this];rfl⟩
  ·left
   exact⟨by rw[hl];omega,by rw[hl];exact decide_eq_false (by omega)⟩
 have loop:bO (uv (aC n)) (4 * (k:Int)+6)=some (4 * (k:Int)+7):=by
  refine gJ (f:=uv (aC n)) 1 (fun i=>if i=0 then 4 * (k:Int)+6 else 4 * (k:Int)+7) (fun i hi=>?_) ?_ (by decide)
  ·have:i=0:=by omega
   subst this
   simp only[uv,t6,b6,n6,l6,z6,w7,Nat.zero_add,Nat.one_ne_zero,Bool.not_true,Bool.not_false,Bool.false_or,Bool.true_or,Bool.or_true,Bool.or_false,Bool.and_true,Bool.true_and,Bool.false_and,Bool.and_false,Bool.and_self,Bool.or_self,Bool.false_eq_true,if_true,if_false,reduceIte,Int.reduceBEq,Int.reduceBNe,beq_self_eq_true,bne_self_eq_false,bU,bY,bZ,decide_true,decide_false]
  ·simp only[uv,Nat.one_ne_zero,t7,b7,n7,l7,z7,w8,t8,Bool.not_true,Bool.not_false,Bool.false_or,Bool.true_or,Bool.or_true,Bool.or_false,Bool.and_true,Bool.true_and,Bool.false_and,Bool.and_false,Bool.and_self,Bool.or_self,Bool.false_eq_true,if_true,if_false,reduceIte,Int.reduceBEq,Int.reduceBNe,beq_self_eq_true,bne_self_eq_false,bU,bY,bZ,decide_true,decide_false]
   rcases b8 with⟨e1,e2⟩|⟨e1,e2,e3,e4⟩
   ·simp only[e2,Bool.not_true,Bool.not_false,Bool.false_or,Bool.true_or,Bool.or_true,Bool.or_false,Bool.and_true,Bool.true_and,Bool.false_and,Bool.and_false,Bool.and_self,Bool.or_self,Bool.false_eq_true,if_true,if_false,reduceIte,Int.reduceBEq,Int.reduceBNe,beq_self_eq_true,bne_self_eq_false,bU,bY,bZ,decide_true,decide_false]
   ·simp only[e2,e3,e4,z8,Bool.not_true,Bool.not_false,Bool.false_or,Bool.true_or,Bool.or_true,Bool.or_false,Bool.and_true,Bool.true_and,Bool.false_and,Bool.and_false,Bool.and_self,Bool.or_self,Bool.false_eq_true,if_true,if_false,reduceIte,Int.reduceBEq,Int.reduceBNe,beq_self_eq_true,bne_self_eq_false,bU,bY,bZ,decide_true,decide_false]
 have e7:decide (4 * (k:Int)+7≥ag (aC n))=false:=by rw[hl];exact decide_eq_false (by omega)
 simp only[lY,t5,b5,n5,l5,z5,w6,loop,w8,t8,e7,Bool.not_true,Bool.not_false,Bool.false_or,Bool.true_or,Bool.or_true,Bool.or_false,Bool.and_true,Bool.true_and,Bool.false_and,Bool.and_false,Bool.and_self,Bool.or_self,Bool.false_eq_true,if_true,if_false,reduceIte,Int.reduceBEq,Int.reduceBNe,beq_self_eq_true,bne_self_eq_false,bU,bY,bZ,decide_true,decide_false]
 rcases b8 with⟨e1,e2⟩|⟨e1,e2,e3,e4⟩
 ·simp only[e1,Bool.not_true,Bool.not_false,Bool.false_or,Bool.true_or,Bool.or_true,Bool.or_false,Bool.and_true,Bool.true_and,Bool.false_and,Bool.and_false,Bool.and_self,Bool.or_self,Bool.false_eq_true,if_true,if_false,reduceIte,Int.reduceBEq,Int.reduceBNe,beq_self_eq_true,bne_self_eq_false,bU,bY,bZ,decide_true,decide_false]
 ·have e5:(4 * (k:Int)+8==ag (aC n))=false:=by simpa using e1
  simp only[e5,e3,e4,z8,Bool.not_true,Bool.not_false,Bool.false_or,Bool.true_or,Bool.or_true,Bool.or_false,Bool.and_true,Bool.true_and,Bool.false_and,Bool.and_false,Bool.and_self,Bool.or_self,Bool.false_eq_true,if_true,if_false,reduceIte,Int.reduceBEq,Int.reduceBNe,beq_self_eq_true,bne_self_eq_false,bU,bY,bZ,decide_true,decide_false]
theorem aGG {d:Nat} (h:d<10):jR [IntKind.u8.wrap (IntKind.i64.wrap (48+(d:Int)))]=[UInt8.ofNat (48+d)]:=by
 have:d=0∨d=1∨d=2∨d=3∨d=4∨d=5∨d=6∨d=7∨d=8∨d=9:=by omega
 rcases this with rfl|rfl|rfl|rfl|rfl|rfl|rfl|rfl|rfl|rfl<;>rfl
theorem aGH:∀(u:Nat) (f:Nat) (acc:List UInt8),u<f→u≤1000000000→acc.length+u≤2000000000→eU xj f ((u:Int),acc)=some (Lib.decDigits u++acc):=by
 intro u
 induction u using Nat.strongRecOn with
 |_ u ih=>
  intro f acc hf hu hacc
  obtain⟨f,rfl⟩:∃g,f=g+1:=⟨f - 1,by omega⟩
  have e1:(u:Int).tdiv 10=((u / 10:Nat):Int):=by rw[Int.tdiv_eq_ediv_of_nonneg (by omega)];rfl
  have e2:(u:Int).tmod 10=((u % 10:Nat):Int):=by rw[Int.tmod_eq_emod_of_nonneg (by omega)];rfl
  have e3:IntKind.i64.wrap (((u / 10:Nat):Int))=((u / 10:Nat):Int):=wrap_i64 (by omega) (by omega)
  have hg:(true&&decide (1+acc.length≤1152921504606846976))=true:=by rw[Bool.true_and];exact decide_eq_true (by omega)
  have hb:=aGG (d:=u % 10) (Nat.mod_lt _ (by decide))
  rw[Lib.decDigits]
  simp only[eU,xj,e1,e2,e3,hb,hg,if_true]
  by_cases h:u<10
  ·have h0:u / 10=0:=by omega
   have h1:u % 10=u:=by omega
   rw[dif_pos h,h0,h1]
   rfl
  ·have h0:(((u / 10:Nat):Int)==0)=false:=by
     have:¬((u / 10:Nat):Int)=0:=by omega
     simpa using this
   rw[dif_neg h,h0]
   simp only[Bool.false_eq_true,if_false]
   rw[ih (u / 10) (by omega) f _ (by omega) (by omega) (by simp only[List.length_append,List.length_cons,List.length_nil];omega)]
   simp
theorem aGI (u:Nat) (hu:u≤1000000000):kV (u:Int)=some (Lib.decDigits u):=by
 unfold kV
 rw[show bO xj ((u:Int),[])=some (Lib.decDigits u++[])from aGH u fuel [] (Nat.lt_of_le_of_lt hu (by decide)) hu (by simp;omega)]
 simp
theorem aGJ (u:Nat) (hu:u≤1000000000):ot (u:Int)=some (Lib.decDigits u):=by
 unfold ot
 have h:decide ((u:Int)<0)=false:=decide_eq_false (by omega)
 have hm:ju (u:Int) 0=(u:Int):=by unfold ju;split<;>omega
 rw[h,hm,aGI u hu]
 rfl
theorem aGK (u:Nat) (hu:u≤1000000000):strconv_Itoa (u:Int)=some (Lib.decDigits u):=by
 unfold strconv_Itoa
 have h1:decide (-9223372036854775808≤(u:Int))=true:=decide_eq_true (by omega)
 have h2:decide ((u:Int)≤9223372036854775807)=true:=decide_eq_true (by omega)
 rw[h1,h2]
 unfold Lib.itoa
 rw[if_neg (show ¬(u:Int)<0 by omega)]
 rfl
def cO:Nat→List Part
 |0=>[]
 |k+1=>cO k++[(false,[],if k=0 then[116,101,120,116,10,34]else[34,10,34]),(true,Lib.decDigits (k+1),[97])]
def dG:Nat→Nat
 |0=>0
 |k+1=>4 * k+7
theorem nx:∀k,(cO k).length=2 * k
 |0=>rfl
 |k+1=>by simp only[cO,List.length_append,List.length_cons,List.length_nil,nx k];omega
theorem avE {α:Type} (l:List α) (x y:α):some ((cK l).getD []++[x,y])=cK (l++[x,y]):=by cases l<;>rfl
theorem iT {α:Type} (l:List α):(cK l).getD []=l:=by cases l<;>rfl
theorem aGL {n:Nat} (h:0<n) (hn:n≤10000):lY (aC n) 0=some (4,false,true):=by
 have hl:=j7 n
 have hL:=nw n
 have b0:aR ((aC n).getD 0 0)=116:=rfl
 have b1:aR ((aC n).getD 1 0)=101:=rfl
 have b2:aR ((aC n).getD 2 0)=120:=rfl
 have b3:aR ((aC n).getD 3 0)=116:=rfl
 have b4:aR ((aC n).getD 4 0)=10:=by have:=su h;rw[show 4 * 0+4=4 from rfl]at this;rw[this];rfl
 have nl:∀i:Nat,i≤4→aS i (aC n).length=true:=fun i hi=>jC (by omega)
 have ll:∀i:Nat,i≤4→decide ((i:Int)<ag (aC n))=true:=fun i hi=>by rw[hl];exact decide_eq_true (by omega)
 have n0:=nl 0 (by omega)
 have n4:=nl 4 (by omega)
 have l0:decide ((0:Int)<ag (aC n))=true:=ll 0 (by omega)
 have l4:decide ((4:Int)<ag (aC n))=true:=ll 4 (by omega)
 have loop:bO (uw (aC n)) 0=some 4:=by
  have:=gJ (f:=uw (aC n)) 4 (fun i=>(i:Int)) (r:=4) (fun i hi=>?_) ?_ (by decide)
  ·exact this
  ·have ht:((i:Int)).toNat=i:=by omega
   have hz:decide (0≤(i:Int))=true:=decide_eq_true (by omega)
   have hb:aR ((aC n).getD i 0)=116∨aR ((aC n).getD i 0)=101∨aR ((aC n).getD i 0)=120:=by
    have:i=0∨i=1∨i=2∨i=3:=by omega
    rcases this with rfl|rfl|rfl|rfl
    ·exact .inl b0
    ·exact .inr (.inl b1)
    ·exact .inr (.inr b2)
    ·exact .inl b3
   have hw:IntKind.i64.wrap ((i:Int)+1)=((i+1:Nat):Int):=by rw[wrap_i64 (by omega) (by omega)];omega
   rcases hb with hb|hb|hb<;>simp only[uw,ht,hb,nl i (by omega),ll i (by omega),hz,hw,Bool.not_true,Bool.not_false,Bool.false_or,Bool.true_or,Bool.or_true,Bool.or_false,Bool.and_true,Bool.true_and,Bool.false_and,Bool.and_false,Bool.and_self,Bool.or_self,Bool.false_eq_true,if_true,if_false,reduceIte,Int.reduceBEq,Int.reduceBNe,beq_self_eq_true,bne_self_eq_false,bU,bY,bZ,decide_true,decide_false]
  ·have ht:((4:Nat):Int).toNat=4:=rfl
   have hz:decide (0≤((4:Nat):Int))=true:=rfl
   have l4':=ll 4 (by omega)
   simp only[uw,ht,b4,n4,l4',hz,Bool.not_true,Bool.not_false,Bool.false_or,Bool.true_or,Bool.or_true,Bool.or_false,Bool.and_true,Bool.true_and,Bool.false_and,Bool.and_false,Bool.and_self,Bool.or_self,Bool.false_eq_true,if_true,if_false,reduceIte,Int.reduceBEq,Int.reduceBNe,beq_self_eq_true,bne_self_eq_false,bU,bY,bZ,decide_true,decide_false]
   rfl
 have t0:((0:Int)).toNat=0:=rfl
 have t4:((4:Int)).toNat=4:=rfl
 have z0:decide ((0:Int)≤0)=true:=rfl
 have z4:decide ((0:Int)≤4)=true:=rfl
 have e4:((4:Int)==ag (aC n))=false:=by
  have:¬(4:Int)=ag (aC n):=by rw[hl];omega
  simpa using this
 simp only[lY,t0,b0,n0,l0,z0,loop,t4,b4,n4,z4,e4,Bool.not_true,Bool.not_false,Bool.false_or,Bool.true_or,Bool.or_true,Bool.or_false,Bool.and_true,Bool.true_and,Bool.false_and,Bool.and_false,Bool.and_self,Bool.or_self,Bool.false_eq_true,if_true,if_false,reduceIte,Int.reduceBEq,Int.reduceBNe,beq_self_eq_true,bne_self_eq_false,bU,bY,bZ,decide_true,decide_false]
theorem aGM {n k:Nat} (h:k<n) (hn:n≤10000):xk (Lib.decDigits (k+1)) (4 * (k:Int)+6) (4 * (k:Int)+7) (aC n,cK (cO k),(dG k:Int))=some (aC n,cK (cO (k+1)),(dG (k+1):Int)):=by
 have hl:=j7 n
 have hp:=nx k
 have hf:dG k≤4 * k+6:=by cases k<;>simp only[dG]<;>omega
 have c1:decide (0≤(dG k:Int)∧(dG k:Int)≤4 * (k:Int)+6∧4 * (k:Int)+6≤ag (aC n))=true:=decide_eq_true ⟨by omega,by omega,by omega⟩
 have c2:decide (0≤4 * (k:Int)+6∧4 * (k:Int)+6≤4 * (k:Int)+7∧4 * (k:Int)+7≤ag (aC n))=true:=decide_eq_true ⟨by omega,by omega,by omega⟩
 have c3:decide (0+(cO k).length=(cO k).length)=true:=decide_eq_true (by omega)
 have c4:decide ((cO k).length+2≤68719476736)=true:=decide_eq_true (by omega)
 have s1:bV (dG k:Int) (4 * (k:Int)+6) (aC n)=if k=0 then[116,101,120,116,10,34]else[34,10,34]:=by
  cases k with
  |zero=>exact avB h
  |succ j=>
   rw[if_neg (by omega)]
   have:=avC (n:=n) (k:=j) h
   rw[show((4 * j+10:Nat):Int)=4 * ((j+1:Nat):Int)+6 by omega]at this
   exact this
 have s2:bV (4 * (k:Int)+6) (4 * (k:Int)+7) (aC n)=[97]:=by
  have:=afY h
  rw[show((4 * k+6:Nat):Int)=4 * (k:Int)+6 by omega,show((4 * k+7:Nat):Int)=4 * (k:Int)+7 by omega]at this
  exact this
 simp only[xk,iT,c1,c2,c3,c4,s1,s2,Bool.not_true,Bool.not_false,Bool.false_or,Bool.true_or,Bool.or_true,Bool.or_false,Bool.and_true,Bool.true_and,Bool.false_and,Bool.and_false,Bool.and_self,Bool.or_self,Bool.false_eq_true,if_true,if_false,reduceIte,Int.reduceBEq,Int.reduceBNe,beq_self_eq_true,bne_self_eq_false,bU,bY,bZ,decide_true,decide_false]
 refine congrArg some (Prod.ext rfl (Prod.ext ?_ ?_))
 ·show some (cO k++_)=cK (cO (k+1))
  rw[cO,←avE,iT]
 ·show 4 * (k:Int)+7=_
  simp only[dG];omega
theorem aGN:aaO 3 [97]=some (some [(1,[97],0)],some [0,1],0,0):=by kernel_rfl
theorem aGO {n k:Nat} (h:k<n) (hn:n≤10000):
  bO (uy (aC n) (4 * (k:Int)+5,1,0,((k+1:Nat):Int),aC n,cK (cO k),(dG k:Int))) (4 * (k:Int)+5,0,0,0,aC n,cK (cO k),(dG k:Int))=
   some (.inr (4 * (k:Int)+8,0,1,0,aC n,cK (cO (k+1)),(dG (k+1):Int))):=by
 have hl:=j7 n
 have hL:=nw n
 refine gJ (f:=uy (aC n) (4 * (k:Int)+5,1,0,((k+1:Nat):Int),aC n,cK (cO k),(dG k:Int))) 0 (fun _=>(4 * (k:Int)+5,0,0,0,aC n,cK (cO k),(dG k:Int))) (fun i hi=>by omega) ?_ (by decide)
 have w6:IntKind.i64.wrap (4 * (k:Int)+5+1)=4 * (k:Int)+6:=by rw[wrap_i64 (by omega) (by omega)];omega
 have w7:IntKind.i64.wrap (4 * (k:Int)+8 - 1)=4 * (k:Int)+7:=by rw[wrap_i64 (by omega) (by omega)];omega
 have w1:IntKind.i64.wrap ((0:Int)+1)=1:=rfl
 have g0:decide (((k+1:Nat):Int)>0)=true:=decide_eq_true (by omega)
 have g1:(((k+1:Nat):Int)==0)=false:=by
  have:¬((k+1:Nat):Int)=0:=by omega
  simpa using this
 have g2:decide ((0:Int)≥1)=false:=rfl
 have c2:decide (0≤4 * (k:Int)+6∧4 * (k:Int)+6≤4 * (k:Int)+7∧4 * (k:Int)+7≤ag (aC n))=true:=decide_eq_true ⟨by omega,by omega,by omega⟩
 have s2:bV (4 * (k:Int)+6) (4 * (k:Int)+7) (aC n)=[97]:=by
  have:=afY h
  rw[show((4 * k+6:Nat):Int)=4 * (k:Int)+6 by omega,show((4 * k+7:Nat):Int)=4 * (k:Int)+7 by omega]at this
  exact this
 have hd:=aGJ (k+1) (by omega)
 have t8:(4 * (k:Int)+8).toNat=4 * k+8:=by omega
 have z8:decide (0≤4 * (k:Int)+8)=true:=decide_eq_true (by omega)
 simp only[uy,aGF h hn,g0,g1,g2,w6,w7,w1,c2,s2,aGN,hd,aGM h hn,t8,z8,Bool.not_true,Bool.not_false,Bool.false_or,Bool.true_or,Bool.or_true,Bool.or_false,Bool.and_true,Bool.true_and,Bool.false_and,Bool.and_false,Bool.and_self,Bool.or_self,Bool.false_eq_true,if_true,if_false,reduceIte,Int.reduceBEq,Int.reduceBNe,beq_self_eq_true,bne_self_eq_false,bU,bY,bZ,decide_true,decide_false]
 rcases Nat.lt_or_ge (k+1) n with h1|h1
 ·have:=su h1
  rw[show 4 * (k+1)+4=4 * k+8 by omega]at this
  have b8:aR ((aC n).getD (4 * k+8) 0)=10:=by rw[this];rfl
  have n8:aS (4 * k+8) (aC n).length=true:=jC (by omega)
  simp only[b8,n8,Bool.not_true,Bool.not_false,Bool.false_or,Bool.true_or,Bool.or_true,Bool.or_false,Bool.and_true,Bool.true_and,Bool.false_and,Bool.and_false,Bool.and_self,Bool.or_self,Bool.false_eq_true,if_true,if_false,reduceIte,Int.reduceBEq,Int.reduceBNe,beq_self_eq_true,bne_self_eq_false,bU,bY,bZ,decide_true,decide_false]
 ·have e8:decide (4 * (k:Int)+8≥ag (aC n))=true:=by rw[hl];exact decide_eq_true (by omega)
  simp only[e8,Bool.not_true,Bool.not_false,Bool.false_or,Bool.true_or,Bool.or_true,Bool.or_false,Bool.and_true,Bool.true_and,Bool.false_and,Bool.and_false,Bool.and_self,Bool.or_self,Bool.false_eq_true,if_true,if_false,reduceIte,Int.reduceBEq,Int.reduceBNe,beq_self_eq_true,bne_self_eq_false,bU,bY,bZ,decide_true,decide_false]
theorem aGP {n:Nat} (h:0<n) (hn:n≤10000):
  bO (uy (aC n) (0,0,-1,0,aC n,none,0)) (0,-1,0,0,aC n,none,0)=some (.inr (4,0,1,1,aC n,none,0)):=by
 have hl:=j7 n
 have hL:=nw n
 refine gJ (f:=uy (aC n) (0,0,-1,0,aC n,none,0)) 0 (fun _=>(0,-1,0,0,aC n,none,0)) (fun i hi=>by omega) ?_ (by decide)
 have w1:IntKind.i64.wrap ((0:Int)+1)=1:=rfl
 have g0:decide ((0:Int)>0)=false:=rfl
 have c1:decide ((0:Int)≤0∧(0:Int)≤4∧4≤ag (aC n))=true:=decide_eq_true ⟨by omega,by omega,by omega⟩
 have s1:bV 0 4 (aC n)=[116,101,120,116]:=rfl
 have s2:decide (([116,101,120,116]:List UInt8)=[116,101,120,116])=true:=rfl
 have t4:((4:Int)).toNat=4:=rfl
 have z4:decide ((0:Int)≤4)=true:=rfl
 have b4:aR ((aC n).getD 4 0)=10:=by have:=su h;rw[show 4 * 0+4=4 from rfl]at this;rw[this];rfl
 have n4:aS 4 (aC n).length=true:=jC (by omega)
 simp only[uy,aGL h hn,g0,c1,s1,s2,w1,t4,z4,b4,n4,Bool.not_true,Bool.not_false,Bool.false_or,Bool.true_or,Bool.or_true,Bool.or_false,Bool.and_true,Bool.true_and,Bool.false_and,Bool.and_false,Bool.and_self,Bool.or_self,Bool.false_eq_true,if_true,if_false,reduceIte,Int.reduceBEq,Int.reduceBNe,beq_self_eq_true,bne_self_eq_false,bU,bY,bZ,decide_true,decide_false]
def cj (n:Nat):List Part:=cO n++[(false,[],[34])]
theorem aGQ {n:Nat} (h:0<n) (hn:n≤10000):xm (aC n)=some (some (cj n),0,0):=by
 have hl:=j7 n
 have loop:bO (xl (aC n)) (0,0,-1,0,aC n,none,0)=some (.inr (aC n,cK (cO n),(dG n:Int))):=by
  refine gJ (f:=xl (aC n)) (n+1) (fun i=>if i=0 then(0,0,-1,0,aC n,none,0)else(4 * ((i - 1:Nat):Int)+5,1,0,(i:Int),aC n,cK (cO (i - 1)),(dG (i - 1):Int))) (fun i hi=>?_) ?_ (Nat.lt_of_le_of_lt (show n+1≤10001 by omega) (by decide))
  ·cases i with
   |zero=>
    have w5:IntKind.i64.wrap ((4:Int)+1)=5:=rfl
    have w1:IntKind.i64.wrap ((0:Int)+1)=1:=rfl
    have g1:decide ((1:Int)>1)=false:=rfl
    have g2:decide ((1:Int)<1)=false:=rfl
    simp only[xl,aGP h hn,w5,w1,g1,g2,Nat.zero_add,Nat.one_ne_zero,Bool.not_true,Bool.not_false,Bool.false_or,Bool.true_or,Bool.or_true,Bool.or_false,Bool.and_true,Bool.true_and,Bool.false_and,Bool.and_false,Bool.and_self,Bool.or_self,Bool.false_eq_true,if_true,if_false,reduceIte,Int.reduceBEq,Int.reduceBNe,beq_self_eq_true,bne_self_eq_false,bU,bY,bZ,decide_true,decide_false]
    rfl
   |succ k=>
    have hk:k<n:=by omega
    have l5:decide (4 * (k:Int)+5<ag (aC n))=true:=by rw[hl];exact decide_eq_true (by omega)
    have g1:(((k+1:Nat):Int)==0)=false:=by
     have:¬((k+1:Nat):Int)=0:=by omega
     simpa using this
    have w9:IntKind.i64.wrap (4 * (k:Int)+8+1)=4 * ((k+1:Nat):Int)+5:=by rw[wrap_i64 (by omega) (by omega)];omega
    have w2:IntKind.i64.wrap (((k+1:Nat):Int)+1)=((k+1+1:Nat):Int):=by rw[wrap_i64 (by omega) (by omega)];omega
    have g2:decide ((1:Int)<1)=false:=rfl
    simp only[xl,Nat.add_one_ne_zero,Nat.add_sub_cancel,l5,g1,aGO hk hn,w9,w2,g2,Bool.not_true,Bool.not_false,Bool.false_or,Bool.true_or,Bool.or_true,Bool.or_false,Bool.and_true,Bool.true_and,Bool.false_and,Bool.and_false,Bool.and_self,Bool.or_self,Bool.false_eq_true,if_true,if_false,reduceIte,Int.reduceBEq,Int.reduceBNe,beq_self_eq_true,bne_self_eq_false,bU,bY,bZ,decide_true,decide_false]
  ·have l5:decide (4 * (n:Int)+5<ag (aC n))=false:=by rw[hl];exact decide_eq_false (by omega)
   have g1:(((n+1:Nat):Int)==0)=false:=by
    have:¬((n+1:Nat):Int)=0:=by omega
    simpa using this
   simp only[xl,Nat.add_one_ne_zero,Nat.add_sub_cancel,l5,g1,Bool.not_true,Bool.not_false,Bool.false_or,Bool.true_or,Bool.or_true,Bool.or_false,Bool.and_true,Bool.true_and,Bool.false_and,Bool.and_false,Bool.and_self,Bool.or_self,Bool.false_eq_true,if_true,if_false,reduceIte,Int.reduceBEq,Int.reduceBNe,beq_self_eq_true,bne_self_eq_false,bU,bY,bZ,decide_true,decide_false]
 have hp:=nx n
 obtain⟨m,rfl⟩:∃m,n=m+1:=⟨n - 1,by omega⟩
 have c1:decide (0≤(dG (m+1):Int)∧(dG (m+1):Int)≤ag (aC (m+1))∧ag (aC (m+1))≤ag (aC (m+1)))=true:=decide_eq_true ⟨by omega,by rw[hl];simp only[dG];omega,Int.le_refl _⟩
 have c3:decide (0+(cO (m+1)).length=(cO (m+1)).length)=true:=decide_eq_true (by omega)
 have c4:decide ((cO (m+1)).length+1≤68719476736)=true:=decide_eq_true (by omega)
 have s1:bV ((dG (m+1):Nat):Int) (ag (aC (m+1))) (aC (m+1))=[34]:=avD m
 simp only[xm,loop,aaP,iT,c1,c3,c4,s1,Bool.not_true,Bool.not_false,Bool.false_or,Bool.true_or,Bool.or_true,Bool.or_false,Bool.and_true,Bool.true_and,Bool.false_and,Bool.and_false,Bool.and_self,Bool.or_self,Bool.false_eq_true,if_true,if_false,reduceIte,Int.reduceBEq,Int.reduceBNe,beq_self_eq_true,bne_self_eq_false,bU,bY,bZ,decide_true,decide_false]
 rfl
theorem aGR {n:Nat} (h:0<n) (hn:n≤10000):xo 3 (aC n)=some ((3,some (cj n)),0,0):=by
 have hl:=j7 n
 have f3:aaN 3=some true:=by kernel_rfl
 have g:decide (ag (aC n)>65536)=false:=by rw[hl];exact decide_eq_false (by omega)
 simp only[xo,f3,aaQ,g,aGQ h hn,Bool.not_true,Bool.not_false,Bool.false_or,Bool.true_or,Bool.or_true,Bool.or_false,Bool.and_true,Bool.true_and,Bool.false_and,Bool.and_false,Bool.and_self,Bool.or_self,Bool.false_eq_true,if_true,if_false,reduceIte,Int.reduceBEq,Int.reduceBNe,beq_self_eq_true,bne_self_eq_false,bU,bY,bZ,decide_true,decide_false]
theorem aGS {n k:Nat} (h:k<n) (hn:n≤10000):mc (aC n) (4 * (k:Int)+5)=some (4 * (k:Int)+8,true,true):=by
 have hl:=j7 n
 have hL:=nw n
 have t5:(4 * (k:Int)+5).toNat=4 * k+5:=by omega
 have t6:(4 * (k:Int)+6).toNat=4 * k+6:=by omega
 have t7:(4 * (k:Int)+7).toNat=4 * k+7:=by omega
 have t8:(4 * (k:Int)+8).toNat=4 * k+8:=by omega
 have w6:IntKind.i64.wrap (4 * (k:Int)+5+1)=4 * (k:Int)+6:=by rw[wrap_i64 (by omega) (by omega)];omega
 have w7:IntKind.i64.wrap (4 * (k:Int)+6+1)=4 * (k:Int)+7:=by rw[wrap_i64 (by omega) (by omega)];omega
 have w8:IntKind.i64.wrap (4 * (k:Int)+7+1)=4 * (k:Int)+8:=by rw[wrap_i64 (by omega) (by omega)];omega
 have b5:aR ((aC n).getD (4 * k+5) 0)=34:=by rw[avw h];rfl
 have b6:aR ((aC n).getD (4 * k+6) 0)=97:=by rw[avx h];rfl
 have b7:aR ((aC n).getD (4 * k+7) 0)=34:=by rw[avy h];rfl
 have n5:aS (4 * k+5) (aC n).length=true:=jC (by omega)
 have n6:aS (4 * k+6) (aC n).length=true:=jC (by omega)
 have n7:aS (4 * k+7) (aC n).length=true:=jC (by omega)
 have l5:decide (4 * (k:Int)+5<ag (aC n))=true:=by rw[hl];exact decide_eq_true (by omega)
 have l6:decide (4 * (k:Int)+6<ag (aC n))=true:=by rw[hl];exact decide_eq_true (by omega)
 have l7:decide (4 * (k:Int)+7<ag (aC n))=true:=by rw[hl];exact decide_eq_true (by omega)
 have z5:decide (0≤4 * (k:Int)+5)=true:=decide_eq_true (by omega)
 have z6:decide (0≤4 * (k:Int)+6)=true:=decide_eq_true (by omega)
 have z7:decide (0≤4 * (k:Int)+7)=true:=decide_eq_true (by omega)
 have z8:decide (0≤4 * (k:Int)+8)=true:=decide_eq_true (by omega)
 have b8:(4 * (k:Int)+8=ag (aC n)∧decide (4 * (k:Int)+8<ag (aC n))=false)∨(¬4 * (k:Int)+8=ag (aC n)∧decide (4 * (k:Int)+8<ag (aC n))=true∧aS (4 * k+8) (aC n).length=true∧aR ((aC n).getD (4 * k+8) 0)=10):=by
  rcases Nat.lt_or_ge (k+1) n with h1|h1
  ·right
   have:=su h1
   rw[show 4 * (k+1)+4=4 * k+8 by omega]at this
   exact⟨by rw[hl];omega,by rw[hl];exact decide_eq_true (by omega),jC (by omega),by rw[this];rfl⟩
  ·left
   exact⟨by rw[hl];omega,by rw[hl];exact decide_eq_false (by omega)⟩
 have loop:bO (uG (aC n)) (4 * (k:Int)+6)=some (4 * (k:Int)+7):=by
  refine gJ (f:=uG (aC n)) 1 (fun i=>if i=0 then 4 * (k:Int)+6 else 4 * (k:Int)+7) (fun i hi=>?_) ?_ (by decide)
  ·have:i=0:=by omega
   subst this
   simp only[uG,t6,b6,n6,l6,z6,w7,Nat.zero_add,Nat.one_ne_zero,Bool.not_true,Bool.not_false,Bool.false_or,Bool.true_or,Bool.or_true,Bool.or_false,Bool.and_true,Bool.true_and,Bool.false_and,Bool.and_false,Bool.and_self,Bool.or_self,Bool.false_eq_true,if_true,if_false,reduceIte,Int.reduceBEq,Int.reduceBNe,beq_self_eq_true,bne_self_eq_false,bU,bY,bZ,decide_true,decide_false]
  ·simp only[uG,Nat.one_ne_zero,t7,b7,n7,l7,z7,w8,t8,Bool.not_true,Bool.not_false,Bool.false_or,Bool.true_or,Bool.or_true,Bool.or_false,Bool.and_true,Bool.true_and,Bool.false_and,Bool.and_false,Bool.and_self,Bool.or_self,Bool.false_eq_true,if_true,if_false,reduceIte,Int.reduceBEq,Int.reduceBNe,beq_self_eq_true,bne_self_eq_false,bU,bY,bZ,decide_true,decide_false]
   rcases b8 with⟨e1,e2⟩|⟨e1,e2,e3,e4⟩
   ·simp only[e2,Bool.not_true,Bool.not_false,Bool.false_or,Bool.true_or,Bool.or_true,Bool.or_false,Bool.and_true,Bool.true_and,Bool.false_and,Bool.and_false,Bool.and_self,Bool.or_self,Bool.false_eq_true,if_true,if_false,reduceIte,Int.reduceBEq,Int.reduceBNe,beq_self_eq_true,bne_self_eq_false,bU,bY,bZ,decide_true,decide_false]
   ·simp only[e2,e3,e4,z8,Bool.not_true,Bool.not_false,Bool.false_or,Bool.true_or,Bool.or_true,Bool.or_false,Bool.and_true,Bool.true_and,Bool.false_and,Bool.and_false,Bool.and_self,Bool.or_self,Bool.false_eq_true,if_true,if_false,reduceIte,Int.reduceBEq,Int.reduceBNe,beq_self_eq_true,bne_self_eq_false,bU,bY,bZ,decide_true,decide_false]
 have e7:decide (4 * (k:Int)+7≥ag (aC n))=false:=by rw[hl];exact decide_eq_false (by omega)
 simp only[mc,t5,b5,n5,l5,z5,w6,loop,w8,t8,e7,Bool.not_true,Bool.not_false,Bool.false_or,Bool.true_or,Bool.or_true,Bool.or_false,Bool.and_true,Bool.true_and,Bool.false_and,Bool.and_false,Bool.and_self,Bool.or_self,Bool.false_eq_true,if_true,if_false,reduceIte,Int.reduceBEq,Int.reduceBNe,beq_self_eq_true,bne_self_eq_false,bU,bY,bZ,decide_true,decide_false]
 rcases b8 with⟨e1,e2⟩|⟨e1,e2,e3,e4⟩
 ·simp only[e1,Bool.not_true,Bool.not_false,Bool.false_or,Bool.true_or,Bool.or_true,Bool.or_false,Bool.and_true,Bool.true_and,Bool.false_and,Bool.and_false,Bool.and_self,Bool.or_self,Bool.false_eq_true,if_true,if_false,reduceIte,Int.reduceBEq,Int.reduceBNe,beq_self_eq_true,bne_self_eq_false,bU,bY,bZ,decide_true,decide_false]
 ·have e5:(4 * (k:Int)+8==ag (aC n))=false:=by simpa using e1
  simp only[e5,e3,e4,z8,Bool.not_true,Bool.not_false,Bool.false_or,Bool.true_or,Bool.or_true,Bool.or_false,Bool.and_true,Bool.true_and,Bool.false_and,Bool.and_false,Bool.and_self,Bool.or_self,Bool.false_eq_true,if_true,if_false,reduceIte,Int.reduceBEq,Int.reduceBNe,beq_self_eq_true,bne_self_eq_false,bU,bY,bZ,decide_true,decide_false]
theorem aGT {n:Nat} (h:0<n) (hn:n≤10000):mc (aC n) 0=some (4,false,true):=by
 have hl:=j7 n
 have hL:=nw n
 have b0:aR ((aC n).getD 0 0)=116:=rfl
 have a4:(aC n).getD 4 0=10:=by have:=su h;rw[show 4 * 0+4=4 from rfl]at this;exact this
 have b4:aR ((aC n).getD 4 0)=10:=by rw[a4];rfl
 have nl:∀i:Nat,i≤4→aS i (aC n).length=true:=fun i hi=>jC (by omega)
 have ll:∀i:Nat,i≤4→decide ((i:Int)<ag (aC n))=true:=fun i hi=>by rw[hl];exact decide_eq_true (by omega)
 have n0:=nl 0 (by omega)
 have n4:=nl 4 (by omega)
 have l0:decide ((0:Int)<ag (aC n))=true:=ll 0 (by omega)
 have i116:j4 [34,44,10] (Int.ofNat (UInt8.toNat 116))=some (-1):=by kernel_rfl
 have i101:j4 [34,44,10] (Int.ofNat (UInt8.toNat 101))=some (-1):=by kernel_rfl
 have i120:j4 [34,44,10] (Int.ofNat (UInt8.toNat 120))=some (-1):=by kernel_rfl
 have i10:j4 [34,44,10] (Int.ofNat (UInt8.toNat 10))=some 2:=by kernel_rfl
 have loop:bO (uH (aC n)) 0=some 4:=by
  have:=gJ (f:=uH (aC n)) 4 (fun i=>(i:Int)) (r:=4) (fun i hi=>?_) ?_ (by decide)
  ·exact this
  ·have ht:((i:Int)).toNat=i:=by omega
   have hz:decide (0≤(i:Int))=true:=decide_eq_true (by omega)
   have hb:(aC n).getD i 0=116∨(aC n).getD i 0=101∨(aC n).getD i 0=120:=by
    have:i=0∨i=1∨i=2∨i=3:=by omega
    rcases this with rfl|rfl|rfl|rfl
    ·exact .inl rfl
    ·exact .inr (.inl rfl)
    ·exact .inr (.inr rfl)
    ·exact .inl rfl
   have hw:IntKind.i64.wrap ((i:Int)+1)=((i+1:Nat):Int):=by rw[wrap_i64 (by omega) (by omega)];omega
   have neg:decide ((-1:Int)<0)=true:=rfl
   rcases hb with hb|hb|hb<;>simp only[uH,ht,hb,nl i (by omega),ll i (by omega),hz,hw,i116,i101,i120,neg,Bool.not_true,Bool.not_false,Bool.false_or,Bool.true_or,Bool.or_true,Bool.or_false,Bool.and_true,Bool.true_and,Bool.false_and,Bool.and_false,Bool.and_self,Bool.or_self,Bool.false_eq_true,if_true,if_false,reduceIte,Int.reduceBEq,Int.reduceBNe,beq_self_eq_true,bne_self_eq_false,bU,bY,bZ,decide_true,decide_false]
  ·have ht:((4:Nat):Int).toNat=4:=rfl
   have hz:decide (0≤((4:Nat):Int))=true:=rfl
   have l4':=ll 4 (by omega)
   have neg:decide ((2:Int)<0)=false:=rfl
   simp only[uH,ht,a4,n4,l4',hz,i10,neg,Bool.not_true,Bool.not_false,Bool.false_or,Bool.true_or,Bool.or_true,Bool.or_false,Bool.and_true,Bool.true_and,Bool.false_and,Bool.and_false,Bool.and_self,Bool.or_self,Bool.false_eq_true,if_true,if_false,reduceIte,Int.reduceBEq,Int.reduceBNe,beq_self_eq_true,bne_self_eq_false,bU,bY,bZ,decide_true,decide_false]
   rfl
 have t0:((0:Int)).toNat=0:=rfl
 have t4:((4:Int)).toNat=4:=rfl
 have z0:decide ((0:Int)≤0)=true:=rfl
 have z4:decide ((0:Int)≤4)=true:=rfl
 have e4:((4:Int)==ag (aC n))=false:=by
  have:¬(4:Int)=ag (aC n):=by rw[hl];omega
  simpa using this
 simp only[mc,t0,b0,n0,l0,z0,loop,t4,b4,n4,z4,e4,Bool.not_true,Bool.not_false,Bool.false_or,Bool.true_or,Bool.or_true,Bool.or_false,Bool.and_true,Bool.true_and,Bool.false_and,Bool.and_false,Bool.and_self,Bool.or_self,Bool.false_eq_true,if_true,if_false,reduceIte,Int.reduceBEq,Int.reduceBNe,beq_self_eq_true,bne_self_eq_false,bU,bY,bZ,decide_true,decide_false]
theorem aGU:xM [97]=some (some [(1,[97],0)],0,0):=by kernel_rfl
theorem aGV {n k:Nat} (h:k<n) (hn:n≤10000):xK (4 * (k:Int)+6) (4 * (k:Int)+7) (Lib.decDigits (k+1)) (aC n,(dG k:Int),cK (cO k))=some (aC n,(dG (k+1):Int),cK (cO (k+1))):=by
 have hl:=j7 n
 have hp:=nx k
 have hf:dG k≤4 * k+6:=by cases k<;>simp only[dG]<;>omega
 have c1:decide (0≤(dG k:Int)∧(dG k:Int)≤4 * (k:Int)+6∧4 * (k:Int)+6≤ag (aC n))=true:=decide_eq_true ⟨by omega,by omega,by omega⟩
 have c2:decide (0≤4 * (k:Int)+6∧4 * (k:Int)+6≤4 * (k:Int)+7∧4 * (k:Int)+7≤ag (aC n))=true:=decide_eq_true ⟨by omega,by omega,by omega⟩
 have c3:decide (0+(cO k).length=(cO k).length)=true:=decide_eq_true (by omega)
 have c4:decide ((cO k).length+2≤68719476736)=true:=decide_eq_true (by omega)
 have s1:bV (dG k:Int) (4 * (k:Int)+6) (aC n)=if k=0 then[116,101,120,116,10,34]else[34,10,34]:=by
  cases k with
  |zero=>exact avB h
  |succ j=>
   rw[if_neg (by omega)]
   have:=avC (n:=n) (k:=j) h
   rw[show((4 * j+10:Nat):Int)=4 * ((j+1:Nat):Int)+6 by omega]at this
   exact this
 have s2:bV (4 * (k:Int)+6) (4 * (k:Int)+7) (aC n)=[97]:=by
  have:=afY h
  rw[show((4 * k+6:Nat):Int)=4 * (k:Int)+6 by omega,show((4 * k+7:Nat):Int)=4 * (k:Int)+7 by omega]at this
  exact this
 simp only[xK,iT,c1,c2,c3,c4,s1,s2,Bool.not_true,Bool.not_false,Bool.false_or,Bool.true_or,Bool.or_true,Bool.or_false,Bool.and_true,Bool.true_and,Bool.false_and,Bool.and_false,Bool.and_self,Bool.or_self,Bool.false_eq_true,if_true,if_false,reduceIte,Int.reduceBEq,Int.reduceBNe,beq_self_eq_true,bne_self_eq_false,bU,bY,bZ,decide_true,decide_false]
 refine congrArg some (Prod.ext rfl (Prod.ext ?_ ?_))
 ·show 4 * (k:Int)+7=_
  simp only[dG];omega
 ·show some (cO k++_)=cK (cO (k+1))
  rw[cO,←avE,iT]
theorem aGW {n k:Nat} (h:k<n) (hn:n≤10000):xN (4 * (k:Int)+5) (4 * (k:Int)+8) 0 true (aC n,(),((k+1:Nat):Int),1,0,1) (aC n,(dG k:Int),cK (cO k))=some (0,0,aC n,(dG (k+1):Int),cK (cO (k+1))):=by
 have hl:=j7 n
 have w6:IntKind.i64.wrap (4 * (k:Int)+5+1)=4 * (k:Int)+6:=by rw[wrap_i64 (by omega) (by omega)];omega
 have w7:IntKind.i64.wrap (4 * (k:Int)+8 - 1)=4 * (k:Int)+7:=by rw[wrap_i64 (by omega) (by omega)];omega
 have g2:decide ((0:Int)≥1)=false:=rfl
 have c2:decide (0≤4 * (k:Int)+6∧4 * (k:Int)+6≤4 * (k:Int)+7∧4 * (k:Int)+7≤ag (aC n))=true:=decide_eq_true ⟨by omega,by omega,by omega⟩
 have s2:bV (4 * (k:Int)+6) (4 * (k:Int)+7) (aC n)=[97]:=by
  have:=afY h
  rw[show((4 * k+6:Nat):Int)=4 * (k:Int)+6 by omega,show((4 * k+7:Nat):Int)=4 * (k:Int)+7 by omega]at this
  exact this
 have hd:=aGK (k+1) (by omega)
 simp only[xN,g2,w6,w7,c2,s2,aGU,hd,aGV h hn,Bool.not_true,Bool.not_false,Bool.false_or,Bool.true_or,Bool.or_true,Bool.or_false,Bool.and_true,Bool.true_and,Bool.false_and,Bool.and_false,Bool.and_self,Bool.or_self,Bool.false_eq_true,if_true,if_false,reduceIte,Int.reduceBEq,Int.reduceBNe,beq_self_eq_true,bne_self_eq_false,bU,bY,bZ,decide_true,decide_false]
theorem aGX {n k:Nat} (h:k<n) (hn:n≤10000):rT (4 * (k:Int)+5) (aC n,(),((k+1:Nat):Int),1,0,1) (aC n,(dG k:Int),cK (cO k))=
  some (if k+1<n then 4 * ((k+1:Nat):Int)+5 else ag (aC n),0,1,0,1,aC n,(dG (k+1):Int),cK (cO (k+1))):=by
 have hl:=j7 n
 have hL:=nw n
 have g0:decide (((k+1:Nat):Int)>0)=true:=decide_eq_true (by omega)
 have g1:(((k+1:Nat):Int)==0)=false:=by
  have:¬((k+1:Nat):Int)=0:=by omega
  simpa using this
 have t8:(4 * (k:Int)+8).toNat=4 * k+8:=by omega
 have z8:decide (0≤4 * (k:Int)+8)=true:=decide_eq_true (by omega)
 have loop:bO (uI (aC n,(),((k+1:Nat):Int),1,0,1)) (4 * (k:Int)+5,0,1,0,1,aC n,(dG k:Int),cK (cO k))=some (.inr (4 * (k:Int)+8,0,1,0,1,aC n,(dG (k+1):Int),cK (cO (k+1)))):=by
  refine gJ (f:=uI (aC n,(),((k+1:Nat):Int),1,0,1)) 0 (fun _=>(4 * (k:Int)+5,0,1,0,1,aC n,(dG k:Int),cK (cO k))) (fun i hi=>by omega) ?_ (by decide)
  simp only[uI,aGS h hn,g1,aGW h hn,t8,z8,Bool.not_true,Bool.not_false,Bool.false_or,Bool.true_or,Bool.or_true,Bool.or_false,Bool.and_true,Bool.true_and,Bool.false_and,Bool.and_false,Bool.and_self,Bool.or_self,Bool.false_eq_true,if_true,if_false,reduceIte,Int.reduceBEq,Int.reduceBNe,beq_self_eq_true,bne_self_eq_false,bU,bY,bZ,decide_true,decide_false]
  rcases Nat.lt_or_ge (k+1) n with h1|h1
  ·have:=su h1
   rw[show 4 * (k+1)+4=4 * k+8 by omega]at this
   have b8:aR ((aC n).getD (4 * k+8) 0)=10:=by rw[this];rfl
   have n8:aS (4 * k+8) (aC n).length=true:=jC (by omega)
   simp only[b8,n8,Bool.not_true,Bool.not_false,Bool.false_or,Bool.true_or,Bool.or_true,Bool.or_false,Bool.and_true,Bool.true_and,Bool.false_and,Bool.and_false,Bool.and_self,Bool.or_self,Bool.false_eq_true,if_true,if_false,reduceIte,Int.reduceBEq,Int.reduceBNe,beq_self_eq_true,bne_self_eq_false,bU,bY,bZ,decide_true,decide_false]
  ·have e8:(4 * (k:Int)+8==ag (aC n))=true:=by
     have:4 * (k:Int)+8=ag (aC n):=by rw[hl];omega
     simpa using this
   simp only[e8,Bool.not_true,Bool.not_false,Bool.false_or,Bool.true_or,Bool.or_true,Bool.or_false,Bool.and_true,Bool.true_and,Bool.false_and,Bool.and_false,Bool.and_self,Bool.or_self,Bool.false_eq_true,if_true,if_false,reduceIte,Int.reduceBEq,Int.reduceBNe,beq_self_eq_true,bne_self_eq_false,bU,bY,bZ,decide_true,decide_false]
 have w1:IntKind.i64.wrap ((0:Int)+1)=1:=rfl
 have g2:decide ((1:Int)<1)=false:=rfl
 have w9:IntKind.i64.wrap (4 * (k:Int)+8+1)=4 * (k:Int)+9:=by rw[wrap_i64 (by omega) (by omega)];omega
 have hm:jd (4 * (k:Int)+9) (ag (aC n))=if k+1<n then 4 * ((k+1:Nat):Int)+5 else ag (aC n):=by
  unfold jd
  rw[hl]
  split<;>split<;>omega
 simp only[rT,loop,g0,g1,w1,g2,w9,hm,Bool.not_true,Bool.not_false,Bool.false_or,Bool.true_or,Bool.or_true,Bool.or_false,Bool.and_true,Bool.true_and,Bool.false_and,Bool.and_false,Bool.and_self,Bool.or_self,Bool.false_eq_true,if_true,if_false,reduceIte,Int.reduceBEq,Int.reduceBNe,beq_self_eq_true,bne_self_eq_false,bU,bY,bZ,decide_true,decide_false]
theorem aGY {n:Nat} (h:0<n) (hn:n≤10000):rT 0 (aC n,(),0,0,0,0) (aC n,0,none)=some (5,0,1,0,1,aC n,0,none):=by
 have hl:=j7 n
 have hL:=nw n
 have c1:decide ((0:Int)≤0∧(0:Int)≤4∧4≤ag (aC n))=true:=decide_eq_true ⟨by omega,by omega,by omega⟩
 have s1:bV 0 4 (aC n)=[116,101,120,116]:=rfl
 have s2:decide (([116,101,120,116]:List UInt8)=[116,101,120,116])=true:=rfl
 have w1:IntKind.i64.wrap ((0:Int)+1)=1:=rfl
 have t4:((4:Int)).toNat=4:=rfl
 have z4:decide ((0:Int)≤4)=true:=rfl
 have b4:aR ((aC n).getD 4 0)=10:=by have:=su h;rw[show 4 * 0+4=4 from rfl]at this;rw[this];rfl
 have n4:aS 4 (aC n).length=true:=jC (by omega)
 have loop:bO (uI (aC n,(),0,0,0,0)) (0,0,0,0,0,aC n,0,none)=some (.inr (4,0,1,0,1,aC n,0,none)):=by
  refine gJ (f:=uI (aC n,(),0,0,0,0)) 0 (fun _=>(0,0,0,0,0,aC n,0,none)) (fun i hi=>by omega) ?_ (by decide)
  simp only[uI,aGT h hn,aa5,c1,s1,s2,w1,t4,z4,b4,n4,Bool.not_true,Bool.not_false,Bool.false_or,Bool.true_or,Bool.or_true,Bool.or_false,Bool.and_true,Bool.true_and,Bool.false_and,Bool.and_false,Bool.and_self,Bool.or_self,Bool.false_eq_true,if_true,if_false,reduceIte,Int.reduceBEq,Int.reduceBNe,beq_self_eq_true,bne_self_eq_false,bU,bY,bZ,decide_true,decide_false]
 have g0:decide ((0:Int)>0)=false:=rfl
 have g1:decide ((1:Int)>1)=false:=rfl
 have w5:IntKind.i64.wrap ((4:Int)+1)=5:=rfl
 have hm:jd 5 (ag (aC n))=5:=by unfold jd;rw[hl];split<;>omega
 simp only[rT,loop,g0,g1,w5,hm,Bool.not_true,Bool.not_false,Bool.false_or,Bool.true_or,Bool.or_true,Bool.or_false,Bool.and_true,Bool.true_and,Bool.false_and,Bool.and_false,Bool.and_self,Bool.or_self,Bool.false_eq_true,if_true,if_false,reduceIte,Int.reduceBEq,Int.reduceBNe,beq_self_eq_true,bne_self_eq_false,bU,bY,bZ,decide_true,decide_false]
theorem aGZ {n:Nat} (h:0<n) (hn:n≤10000):xP (aC n)=some (some (cj n),0,0):=by
 have hl:=j7 n
 have g:decide (ag (aC n)>65536)=false:=by rw[hl];exact decide_eq_false (by omega)
 have loop:bO (xO (aC n)) (0,aC n,0,none,0,0,0,0)=some (.inr (aC n,(dG n:Int),cK (cO n),((n+1:Nat):Int),1,0,1)):=by
  refine gJ (f:=xO (aC n)) (n+1) (fun i=>if i=0 then(0,aC n,0,none,0,0,0,0)else(if i≤n then 4 * ((i - 1:Nat):Int)+5 else ag (aC n),aC n,(dG (i - 1):Int),cK (cO (i - 1)),(i:Int),1,0,1)) (fun i hi=>?_) ?_ (Nat.lt_of_le_of_lt (show n+1≤10001 by omega) (by decide))
  ·cases i with
   |zero=>
    have w1:IntKind.i64.wrap ((0:Int)+1)=1:=rfl
    have h1:(0+1≤n)=True:=by simp;omega
    simp only[xO,aGY h hn,w1,h1,Nat.zero_add,Nat.one_ne_zero,Bool.not_true,Bool.not_false,Bool.false_or,Bool.true_or,Bool.or_true,Bool.or_false,Bool.and_true,Bool.true_and,Bool.false_and,Bool.and_false,Bool.and_self,Bool.or_self,Bool.false_eq_true,if_true,if_false,reduceIte,Int.reduceBEq,Int.reduceBNe,beq_self_eq_true,bne_self_eq_false,bU,bY,bZ,decide_true,decide_false]
    rfl
   |succ k=>
    have hk:k<n:=by omega
    have l5:decide (4 * (k:Int)+5<ag (aC n))=true:=by rw[hl];exact decide_eq_true (by omega)
    have w2:IntKind.i64.wrap (((k+1:Nat):Int)+1)=((k+1+1:Nat):Int):=by rw[wrap_i64 (by omega) (by omega)];omega
    simp only[xO,Nat.add_one_ne_zero,Nat.add_sub_cancel,if_pos (show k+1≤n from hk),l5,aGX hk hn,w2,Bool.not_true,Bool.not_false,Bool.false_or,Bool.true_or,Bool.or_true,Bool.or_false,Bool.and_true,Bool.true_and,Bool.false_and,Bool.and_false,Bool.and_self,Bool.or_self,Bool.false_eq_true,if_true,if_false,reduceIte,Int.reduceBEq,Int.reduceBNe,beq_self_eq_true,bne_self_eq_false,bU,bY,bZ,decide_true,decide_false]
    refine congrArg some (congrArg Sum.inl (Prod.ext ?_ rfl))
    show(if k+1<n then _ else _)=(if k+1+1≤n then _ else _)
    by_cases h2:k+1<n
    ·rw[if_pos h2,if_pos (show k+1+1≤n from h2)]
    ·rw[if_neg h2,if_neg (show ¬k+1+1≤n from h2)]
  ·have l5:decide (ag (aC n)<ag (aC n))=false:=decide_eq_false (by omega)
   have g1:(((n+1:Nat):Int)==0)=false:=by
    have:¬((n+1:Nat):Int)=0:=by omega
    simpa using this
   simp only[xO,Nat.add_one_ne_zero,Nat.add_sub_cancel,if_neg (show ¬n+1≤n by omega),l5,g1,Bool.not_true,Bool.not_false,Bool.false_or,Bool.true_or,Bool.or_true,Bool.or_false,Bool.and_true,Bool.true_and,Bool.false_and,Bool.and_false,Bool.and_self,Bool.or_self,Bool.false_eq_true,if_true,if_false,reduceIte,Int.reduceBEq,Int.reduceBNe,beq_self_eq_true,bne_self_eq_false,bU,bY,bZ,decide_true,decide_false]
 have hp:=nx n
 obtain⟨m,rfl⟩:∃m,n=m+1:=⟨n - 1,by omega⟩
 have c1:decide (0≤(dG (m+1):Int)∧(dG (m+1):Int)≤ag (aC (m+1))∧ag (aC (m+1))≤ag (aC (m+1)))=true:=decide_eq_true ⟨by omega,by rw[hl];simp only[dG];omega,Int.le_refl _⟩
 have c3:decide (0+(cO (m+1)).length=(cO (m+1)).length)=true:=decide_eq_true (by omega)
 have c4:decide ((cO (m+1)).length+1≤68719476736)=true:=decide_eq_true (by omega)
 have s1:bV ((dG (m+1):Nat):Int) (ag (aC (m+1))) (aC (m+1))=[34]:=avD m
 simp only[xP,aa2,g,loop,aa3,iT,c1,c3,c4,s1,Bool.not_true,Bool.not_false,Bool.false_or,Bool.true_or,Bool.or_true,Bool.or_false,Bool.and_true,Bool.true_and,Bool.false_and,Bool.and_false,Bool.and_self,Bool.or_self,Bool.false_eq_true,if_true,if_false,reduceIte,Int.reduceBEq,Int.reduceBNe,beq_self_eq_true,bne_self_eq_false,bU,bY,bZ,decide_true,decide_false]
 rfl
theorem aG0 {n:Nat} (h:0<n) (hn:n≤10000):xQ 3 (aC n)=some ((3,some (cj n)),0,0):=by
 have k3:pS 3=some true:=by kernel_rfl
 simp only[xQ,k3,aa6,aGZ h hn,Bool.not_true,Bool.not_false,Bool.false_or,Bool.true_or,Bool.or_true,Bool.or_false,Bool.and_true,Bool.true_and,Bool.false_and,Bool.and_false,Bool.and_self,Bool.or_self,Bool.false_eq_true,if_true,if_false,reduceIte,Int.reduceBEq,Int.reduceBNe,beq_self_eq_true,bne_self_eq_false,bU,bY,bZ,decide_true,decide_false]
theorem avF:∀n:Nat,(cO n).flatMap (fun q=>q.2.2)=if n=0 then[]else(aC n).take (4 * n+3)
 |0=>rfl
 |1=>rfl
 |n+2=>by
  have ih:=avF (n+1)
  rw[if_neg (by omega)]at ih
  have e:(aC (n+2)).take (4 * (n+2)+3)=(aC (n+1)).take (4 * (n+1)+3)++[34,10,34,97]:=by
   have key:∀m:Nat,(fR (m+2)).take (4 * m+7)=(fR (m+1)).take (4 * m+3)++[34,10,34,97]:=by
    intro m
    induction m with
    |zero=>rfl
    |succ m ih=>
     rw[show 4 * (m+1)+7=(4 * m+7)+4 by omega,show 4 * (m+1)+3=(4 * m+3)+4 by omega]
     show 10 :: 34 :: 97 :: 34 :: (fR (m+2)).take (4 * m+7)=10 :: 34 :: 97 :: 34 :: ((fR (m+1)).take (4 * m+3)++[34,10,34,97])
     rw[ih]
   have:=key n
   rw[show 4 * (n+2)+3=(4 * n+7)+4 by omega,show 4 * (n+1)+3=(4 * n+3)+4 by omega]
   simp only[aC,List.take_succ_cons,List.cons_append]
   rw[this]
  rw[if_neg (by omega),e,←ih,cO]
  simp
theorem aG1 {n:Nat} (h:0<n):(cj n).flatMap (fun q=>q.2.2)=aC n:=by
 obtain⟨m,rfl⟩:∃m,n=m+1:=⟨n - 1,by omega⟩
 unfold cj
 rw[List.flatMap_append,avF,if_neg (by omega)]
 have hd:=amG m
 have:(aC (m+1)).drop (4 * (m+1)+3)=[34]:=by
  rw[show 4 * (m+1)+3=(4 * m+3)+4 by omega]
  simpa only[aC,List.drop_succ_cons]using hd
 show(aC (m+1)).take (4 * (m+1)+3)++[34]=_
 rw[←this,List.take_append_drop]
theorem aG2 {n:Nat} (h:0<n) (hn:n≤10000):xJ (3,some (cj n))=some (aC n):=by
 have hj:=aG1 h
 have hlen:(cj n).length=2 * n+1:=by simp only[cj,List.length_append,nx,List.length_cons,List.length_nil]
 have hL:=nw n
 cases hp:cj n with
 |nil=>rw[hp]at hlen;simp at hlen
 |cons p l=>
  rw[hp]at hj hlen
  simp only[xJ,hj]
  have c1:Nat.ble (p :: l).length 4611686018427387903=true:=Nat.ble_eq_true_of_le (by omega)
  have c2:Nat.ble (aC n).length 140737488355328=true:=Nat.ble_eq_true_of_le (by omega)
  rw[c1,c2]
  rfl
theorem aG3 (l:List Part) (hl:l.length≤1000000):oA (some l) (some l)=some true:=by
 have loop:bO (uJ (some l) (some l)) 0=some (.inr ()):=by
  refine gJ (f:=uJ (some l) (some l)) l.length (fun i=>(i:Int)) (fun i hi=>?_) ?_ (Nat.lt_of_le_of_lt hl (by decide))
  ·have c0:decide ((i:Int)<ag l)=true:=decide_eq_true (by unfold ag;omega)
   have c1:decide (0≤(i:Int)∧(i:Int)<ag l)=true:=decide_eq_true ⟨by omega,by unfold ag;omega⟩
   have w:IntKind.i64.wrap ((i:Int)+1)=((i+1:Nat):Int):=by rw[wrap_i64 (by omega) (by omega)];omega
   simp only[uJ,Option.getD_some,c0,c1,w,Bool.not_true,Bool.not_false,Bool.false_or,Bool.true_or,Bool.or_true,Bool.or_false,Bool.and_true,Bool.true_and,Bool.false_and,Bool.and_false,Bool.and_self,Bool.or_self,Bool.false_eq_true,if_true,if_false,reduceIte,Int.reduceBEq,Int.reduceBNe,beq_self_eq_true,bne_self_eq_false,bU,bY,bZ,decide_true,decide_false]
  ·have c0:decide ((l.length:Int)<ag l)=false:=decide_eq_false (by unfold ag;omega)
   simp only[uJ,Option.getD_some,c0,Bool.not_true,Bool.not_false,Bool.false_or,Bool.true_or,Bool.or_true,Bool.or_false,Bool.and_true,Bool.true_and,Bool.false_and,Bool.and_false,Bool.and_self,Bool.or_self,Bool.false_eq_true,if_true,if_false,reduceIte,Int.reduceBEq,Int.reduceBNe,beq_self_eq_true,bne_self_eq_false,bU,bY,bZ,decide_true,decide_false]
 simp only[oA,Option.getD_some,loop,Bool.not_true,Bool.not_false,Bool.false_or,Bool.true_or,Bool.or_true,Bool.or_false,Bool.and_true,Bool.true_and,Bool.false_and,Bool.and_false,Bool.and_self,Bool.or_self,Bool.false_eq_true,if_true,if_false,reduceIte,Int.reduceBEq,Int.reduceBNe,beq_self_eq_true,bne_self_eq_false,bU,bY,bZ,decide_true,decide_false]
theorem aG4 {n:Nat} (h:0<n) (hn:n≤10000):xR (3,some (cj n))=some 0:=by
 have k3:pS 3=some true:=by kernel_rfl
 have hlen:(cj n).length=2 * n+1:=by simp only[cj,List.length_append,nx,List.length_cons,List.length_nil]
 simp only[xR,k3,aG2 h hn,aG0 h hn,aG3 (cj n) (by omega),Bool.not_true,Bool.not_false,Bool.false_or,Bool.true_or,Bool.or_true,Bool.or_false,Bool.and_true,Bool.true_and,Bool.false_and,Bool.and_false,Bool.and_self,Bool.or_self,Bool.false_eq_true,if_true,if_false,reduceIte,Int.reduceBEq,Int.reduceBNe,beq_self_eq_true,bne_self_eq_false,bU,bY,bZ,decide_true,decide_false]
theorem amJ:∀(n j:Nat),j<n→(∃r,(cO n)[2 * j]? =some (false,[],r))∧(cO n)[2 * j+1]? =some (true,Lib.decDigits (j+1),[97])
 |0,j,h=>by omega
 |n+1,j,h=>by
  have hl:=nx n
  rcases Nat.lt_or_ge j n with h1|h1
  ·obtain⟨⟨r,a⟩,b⟩:=amJ n j h1
   rw[cO,List.getElem?_append_left (by omega),List.getElem?_append_left (by omega)]
   exact⟨⟨r,a⟩,b⟩
  ·have:j=n:=by omega
   subst this
   rw[cO,List.getElem?_append_right (by omega),List.getElem?_append_right (by omega),hl]
   have e1:2 * j - 2 * j=0:=by omega
   have e2:2 * j+1 - 2 * j=1:=by omega
   rw[e1,e2]
   exact⟨⟨_,rfl⟩,rfl⟩
theorem amK (n:Nat):(cj n).length=2 * n+1:=by simp only[cj,List.length_append,nx,List.length_cons,List.length_nil]
theorem avG {n j:Nat} (h:j<n):(cj n).getD (2 * j+1) (false,[],[])=(true,Lib.decDigits (j+1),[97]):=by
 have hl:=nx n
 rw[List.getD_eq_getElem?_getD,cj,List.getElem?_append_left (by omega),(amJ n j h).2]
 rfl
theorem aG5 {n j:Nat} (h:j≤n):((cj n).getD (2 * j) (false,[],[])).1=false:=by
 have hl:=nx n
 rw[List.getD_eq_getElem?_getD,cj]
 rcases Nat.lt_or_ge j n with h1|h1
 ·obtain⟨⟨r,a⟩,b⟩:=amJ n j h1
  rw[List.getElem?_append_left (by omega),a]
  rfl
 ·have:j=n:=by omega
  subst this
  rw[List.getElem?_append_right (by omega),hl,Nat.sub_self]
  rfl
def fB (k:Nat):List Int:=(List.range k).map fun(j:Nat)=>2 * (j:Int)+1
theorem aG6 (k:Nat):fB (k+1)=fB k++[2 * (k:Int)+1]:=by simp[fB,List.range_succ]
theorem amL (k:Nat):(fB k).length=k:=by simp[fB]
theorem amM {n k:Nat} (h:k<n):(fB n).getD k 0=2 * (k:Int)+1:=by
 rw[List.getD_eq_getElem?_getD]
 simp[fB,h]
theorem avH (n:Nat):ag (cj n)=2 * (n:Int)+1:=by unfold ag;rw[amK];omega
theorem avI {n:Nat} (hn:n≤10000):nt (3,some (cj n))=some (cK (fB n)):=by
 have hL:=amK n
 have hl:=avH n
 have loop:bO (xI (3,some (cj n))) (none,0)=some (cK (fB n)):=by
  refine gJ (f:=xI (3,some (cj n))) (2 * n+1) (fun i=>(cK (fB (i / 2)),(i:Int))) (fun i hi=>?_) ?_ (Nat.lt_of_le_of_lt (show 2 * n+1≤20001 by omega) (by decide))
  ·have c0:decide ((i:Int)<ag (cj n))=true:=decide_eq_true (by omega)
   have c1:decide (0≤(i:Int)∧(i:Int)<ag (cj n))=true:=decide_eq_true ⟨by omega,by omega⟩
   have w:IntKind.i64.wrap ((i:Int)+1)=((i+1:Nat):Int):=by rw[wrap_i64 (by omega) (by omega)];omega
   have t:((i:Int)).toNat=i:=by omega
   have hU:=amL (i / 2)
   rcases Nat.mod_two_eq_zero_or_one i with he|ho
   ·have e:i=2 * (i / 2):=by omega
    have hf:=aG5 (n:=n) (j:=i / 2) (by omega)
    rw[←e]at hf
    have e2:(i+1) / 2=i / 2:=by omega
    simp only[xI,Option.getD_some,c0,c1,w,t,hf,e2,Bool.not_true,Bool.not_false,Bool.false_or,Bool.true_or,Bool.or_true,Bool.or_false,Bool.and_true,Bool.true_and,Bool.false_and,Bool.and_false,Bool.and_self,Bool.or_self,Bool.false_eq_true,if_true,if_false,reduceIte,Int.reduceBEq,Int.reduceBNe,beq_self_eq_true,bne_self_eq_false,bU,bY,bZ,decide_true,decide_false]
   ·have e:i=2 * (i / 2)+1:=by omega
    have hf:=avG (n:=n) (j:=i / 2) (by omega)
    rw[←e]at hf
    have e2:(i+1) / 2=i / 2+1:=by omega
    have c3:decide (0+(fB (i / 2)).length=(fB (i / 2)).length)=true:=decide_eq_true (by omega)
    have c4:decide ((fB (i / 2)).length+1≤68719476736)=true:=decide_eq_true (by omega)
    simp only[xI,Option.getD_some,c0,c1,w,t,hf,e2,iT,c3,c4,Bool.not_true,Bool.not_false,Bool.false_or,Bool.true_or,Bool.or_true,Bool.or_false,Bool.and_true,Bool.true_and,Bool.false_and,Bool.and_false,Bool.and_self,Bool.or_self,Bool.false_eq_true,if_true,if_false,reduceIte,Int.reduceBEq,Int.reduceBNe,beq_self_eq_true,bne_self_eq_false,bU,bY,bZ,decide_true,decide_false]
    rw[aG6,←avu,iT]
    have:(i:Int)=2 * ((i / 2:Nat):Int)+1:=by omega
    rw[←this]
  ·have c0:decide (((2 * n+1:Nat):Int)<ag (cj n))=false:=decide_eq_false (by omega)
   have e2:(2 * n+1) / 2=n:=by omega
   simp only[xI,Option.getD_some,c0,e2,Bool.not_true,Bool.not_false,Bool.false_or,Bool.true_or,Bool.or_true,Bool.or_false,Bool.and_true,Bool.true_and,Bool.false_and,Bool.and_false,Bool.and_self,Bool.or_self,Bool.false_eq_true,if_true,if_false,reduceIte,Int.reduceBEq,Int.reduceBNe,beq_self_eq_true,bne_self_eq_false,bU,bY,bZ,decide_true,decide_false]
 simp only[nt,loop,Bool.not_true,Bool.not_false,Bool.false_or,Bool.true_or,Bool.or_true,Bool.or_false,Bool.and_true,Bool.true_and,Bool.false_and,Bool.and_false,Bool.and_self,Bool.or_self,Bool.false_eq_true,if_true,if_false,reduceIte,Int.reduceBEq,Int.reduceBNe,beq_self_eq_true,bne_self_eq_false,bU,bY,bZ,decide_true,decide_false]
abbrev sw:Option (List (Int×List UInt8×Int)):=some [(1,[97],0)]
theorem aG7 {n k:Nat} (h:k<n) (hn:n≤10000):xS (3,some (cj n)) (2 * (k:Int)+1)=some (sw,0):=by
 have hl:=avH n
 have k3:pS 3=some true:=by kernel_rfl
 have d3:aa8 3 [97]=some (sw,0):=by kernel_rfl
 have c0:decide (2 * (k:Int)+1<0)=false:=decide_eq_false (by omega)
 have c1:decide (2 * (k:Int)+1≥ag (cj n))=false:=decide_eq_false (by omega)
 have c2:decide (0≤2 * (k:Int)+1∧2 * (k:Int)+1<ag (cj n))=true:=decide_eq_true ⟨by omega,by omega⟩
 have t:(2 * (k:Int)+1).toNat=2 * k+1:=by omega
 simp only[xS,Option.getD_some,k3,c0,c1,c2,t,avG h,d3,Bool.not_true,Bool.not_false,Bool.false_or,Bool.true_or,Bool.or_true,Bool.or_false,Bool.and_true,Bool.true_and,Bool.false_and,Bool.and_false,Bool.and_self,Bool.or_self,Bool.false_eq_true,if_true,if_false,reduceIte,Int.reduceBEq,Int.reduceBNe,beq_self_eq_true,bne_self_eq_false,bU,bY,bZ,decide_true,decide_false]
def ny (k:Nat):List (Int×Option (List (Int×List UInt8×Int))):=(List.range k).map fun(j:Nat)=>(2 * (j:Int)+1,sw)
theorem aG8 (k:Nat):ny (k+1)=ny k++[(2 * (k:Int)+1,sw)]:=by simp[ny,List.range_succ]
theorem avJ {V:Type} (x:Int) (y:V):∀l:List (Int×V),(∀r∈l,r.1≠x)→mR (.int .i64) x y l=l++[(x,y)]
 | [],_=>rfl
 |r :: l,h=>by
  have h0:fX (.int .i64) x r.1=false:=by
   show(x==r.1)=false
   have:=h r (List.mem_cons_self ..)
   simpa using fun e=>this e.symm
  show(match fX (.int .i64) x r.1 with|true=>(x,y) :: l|false=>r :: mR (.int .i64) x y l)=_
  rw[h0,avJ x y l fun r hr=>h r (List.mem_cons_of_mem _ hr)]
  rfl
theorem avK {V:Type} (v:V):∀(l:List (Int×V)) (x:Int),(x,v)∈l→(∀r∈l,r.1=x→r.2=v)→iJ (.int .i64) x l=some v
 | [],x,h,_=>by cases h
 |r :: l,x,h,hu=>by
  show(match fX (.int .i64) x r.1 with|true=>some r.2|false=>iJ (.int .i64) x l)=_
  cases he:fX (.int .i64) x r.1 with
  |true=>
   have he:(x==r.1)=true:=he
   have:r.1=x:=by simpa using(beq_iff_eq.1 he).symm
   show some r.2=some v
   rw[hu r (List.mem_cons_self ..) this]
  |false=>
   have he:(x==r.1)=false:=he
   rcases List.mem_cons.1 h with rfl|h
   ·simp at he
   ·exact avK v l x h fun r hr=>hu r (List.mem_cons_of_mem _ hr)
theorem aG9 {n k:Nat} (h:k<n):iJ (.int .i64) (2 * (k:Int)+1) (ny n)=some sw:=by
 refine avK sw _ _ ?_ ?_
 ·exact List.mem_map.2 ⟨k,List.mem_range.2 h,rfl⟩
 ·intro r hr _
  obtain⟨j,_,rfl⟩:=List.mem_map.1 hr
  rfl
theorem aHa {n:Nat} (hn:n≤10000):xT (3,some (cj n))=some (ny n):=by
 have hU:=amL n
 have loop:bO (aa9 (3,some (cj n)) (cK (fB n))) ([],0)=some (ny n):=by
  refine gJ (f:=aa9 (3,some (cj n)) (cK (fB n))) n (fun i=>(ny i,(i:Int))) (fun i hi=>?_) ?_ (Nat.lt_of_le_of_lt hn (by decide))
  ·have c0:decide ((i:Int)<ag (fB n))=true:=decide_eq_true (by unfold ag;omega)
   have c1:decide (0≤(i:Int)∧(i:Int)<ag (fB n))=true:=decide_eq_true ⟨by omega,by unfold ag;omega⟩
   have w:IntKind.i64.wrap ((i:Int)+1)=((i+1:Nat):Int):=by rw[wrap_i64 (by omega) (by omega)];omega
   have t:((i:Int)).toNat=i:=by omega
   simp only[aa9,iT,c0,c1,w,t,amM hi,aG7 hi hn,Bool.not_true,Bool.not_false,Bool.false_or,Bool.true_or,Bool.or_true,Bool.or_false,Bool.and_true,Bool.true_and,Bool.false_and,Bool.and_false,Bool.and_self,Bool.or_self,Bool.false_eq_true,if_true,if_false,reduceIte,Int.reduceBEq,Int.reduceBNe,beq_self_eq_true,bne_self_eq_false,bU,bY,bZ,decide_true,decide_false]
   refine congrArg some (congrArg Sum.inl (Prod.ext ?_ rfl))
   show mR (.int .i64) (2 * (i:Int)+1) sw (ny i)=ny (i+1)
   rw[aG8]
   refine avJ _ _ _ fun r hr=>?_
   obtain⟨j,hj,rfl⟩:=List.mem_map.1 hr
   have:=List.mem_range.1 hj
   show 2 * (j:Int)+1≠2 * (i:Int)+1
   omega
  ·have c0:decide ((n:Int)<ag (fB n))=false:=decide_eq_false (by unfold ag;omega)
   simp only[aa9,iT,c0,Bool.not_true,Bool.not_false,Bool.false_or,Bool.true_or,Bool.or_true,Bool.or_false,Bool.and_true,Bool.true_and,Bool.false_and,Bool.and_false,Bool.and_self,Bool.or_self,Bool.false_eq_true,if_true,if_false,reduceIte,Int.reduceBEq,Int.reduceBNe,beq_self_eq_true,bne_self_eq_false,bU,bY,bZ,decide_true,decide_false]
 simp only[xT,avI hn,loop,Bool.not_true,Bool.not_false,Bool.false_or,Bool.true_or,Bool.or_true,Bool.or_false,Bool.and_true,Bool.true_and,Bool.false_and,Bool.and_false,Bool.and_self,Bool.or_self,Bool.false_eq_true,if_true,if_false,reduceIte,Int.reduceBEq,Int.reduceBNe,beq_self_eq_true,bne_self_eq_false,bU,bY,bZ,decide_true,decide_false]
theorem aHb:aa7 none sw=some (some [(0,1)]):=by kernel_rfl
abbrev Seg:=Int×Int×Int×(Int×Int)×Int×Option (List (Int×List UInt8×Int))×List UInt8×Int×Bool
def fS (k:Nat):List Seg:=(List.range k).map fun(j:Nat)=>((j:Int)+1,0,2 * (j:Int)+1,(0,1),0,none,[],0,false)
theorem aHc (k:Nat):fS (k+1)=fS k++[((k:Int)+1,0,2 * (k:Int)+1,(0,1),0,none,[],0,false)]:=by simp[fS,List.range_succ]
theorem amO (k:Nat):(fS k).length=k:=by simp[fS]
theorem copy_eq (n:Nat) (hn:n≤10000):xV (some [(3,some (cj n))],none,1)=some (some [(3,some (cj n))],none,1):=by
 have hL:=amK n
 have cp:xU (3,some (cj n))=some (3,some (cj n)):=by
  have c:decide (0+(cj n).length≤68719476736)=true:=decide_eq_true (by omega)
  simp only[xU,abb,Option.isSome_some,Option.getD_some,c,List.nil_append,Bool.not_true,Bool.not_false,Bool.false_or,Bool.true_or,Bool.or_true,Bool.or_false,Bool.and_true,Bool.true_and,Bool.false_and,Bool.and_false,Bool.and_self,Bool.or_self,Bool.false_eq_true,if_true,if_false,reduceIte,Int.reduceBEq,Int.reduceBNe,beq_self_eq_true,bne_self_eq_false,bU,bY,bZ,decide_true,decide_false]
 have l0:bO (abd (some [(3,some (cj n))],none,1)) (0,none,none,1)=some (some [(3,some (cj n))],none,1):=by
  refine gJ (f:=abd (some [(3,some (cj n))],none,1)) 1 (fun i=>if i=0 then(0,none,none,1)else(1,some [(3,some (cj n))],none,1)) (fun i hi=>?_) ?_ (by decide)
  ·have:i=0:=by omega
   subst this
   have e:∀x:Int×Option (List Part),ag [x]=1:=fun _=>rfl
   have c0:decide ((0:Int)<1)=true:=rfl
   have c1:decide ((0:Int)≤0∧(0:Int)<1)=true:=rfl
   have g:∀x y:Int×Option (List Part),[x].getD ((0:Int)).toNat y=x:=fun _ _=>rfl
   have w:IntKind.i64.wrap ((0:Int)+1)=1:=rfl
   simp only[abd,Option.getD_some,Option.getD_none,e,c0,c1,g,cp,w,Nat.zero_add,Nat.one_ne_zero,Bool.not_true,Bool.not_false,Bool.false_or,Bool.true_or,Bool.or_true,Bool.or_false,Bool.and_true,Bool.true_and,Bool.false_and,Bool.and_false,Bool.and_self,Bool.or_self,Bool.false_eq_true,if_true,if_false,reduceIte,Int.reduceBEq,Int.reduceBNe,beq_self_eq_true,bne_self_eq_false,bU,bY,bZ,decide_true,decide_false]
   rfl
  ·have e:∀x:Int×Option (List Part),ag [x]=1:=fun _=>rfl
   have c0:decide ((1:Int)<1)=false:=rfl
   simp only[abd,Option.getD_some,e,c0,Nat.one_ne_zero,Bool.not_true,Bool.not_false,Bool.false_or,Bool.true_or,Bool.or_true,Bool.or_false,Bool.and_true,Bool.true_and,Bool.false_and,Bool.and_false,Bool.and_self,Bool.or_self,Bool.false_eq_true,if_true,if_false,reduceIte,Int.reduceBEq,Int.reduceBNe,beq_self_eq_true,bne_self_eq_false,bU,bY,bZ,decide_true,decide_false]
 have l1:bO (afD (some [(3,some (cj n))],none,1)) (0,some [(3,some (cj n))],none,1)=some (some [(3,some (cj n))],none,1):=by
  refine gJ (f:=afD (some [(3,some (cj n))],none,1)) 0 (fun _=>(0,some [(3,some (cj n))],none,1)) (fun i hi=>by omega) ?_ (by decide)
  have c0:decide ((0:Int)<ag ([]:List Seg))=false:=rfl
  simp only[afD,Option.getD_none,c0,Bool.not_true,Bool.not_false,Bool.false_or,Bool.true_or,Bool.or_true,Bool.or_false,Bool.and_true,Bool.true_and,Bool.false_and,Bool.and_false,Bool.and_self,Bool.or_self,Bool.false_eq_true,if_true,if_false,reduceIte,Int.reduceBEq,Int.reduceBNe,beq_self_eq_true,bne_self_eq_false,bU,bY,bZ,decide_true,decide_false]
 simp only[xV,l0,l1,Bool.not_true,Bool.not_false,Bool.false_or,Bool.true_or,Bool.or_true,Bool.or_false,Bool.and_true,Bool.true_and,Bool.false_and,Bool.and_false,Bool.and_self,Bool.or_self,Bool.false_eq_true,if_true,if_false,reduceIte,Int.reduceBEq,Int.reduceBNe,beq_self_eq_true,bne_self_eq_false,bU,bY,bZ,decide_true,decide_false]
theorem aHd {n:Nat} (h:0<n) (hn:n≤10000):xW (some [(3,some (cj n))]) none=
  some (if(n:Int)>512 then((none,none,0),3)else((some [(3,some (cj n))],cK (fS n),(n:Int)+1),0)):=by
 have e:∀x:Int×Option (List Part),ag [x]=1:=fun _=>rfl
 have c16:decide ((1:Int)>16)=false:=rfl
 have c0:decide ((0:Int)<1)=true:=rfl
 have c01:decide ((0:Int)≤0∧(0:Int)<1)=true:=rfl
 have c11:decide ((1:Int)<1)=false:=rfl
 have g:∀x y:Int×Option (List Part),[x].getD ((0:Int)).toNat y=x:=fun _ _=>rfl
 have w1:IntKind.i64.wrap ((0:Int)+1)=1:=rfl
 have hU:=amL n
 have l0:bO (abe (some [(3,some (cj n))])) 0=some (.inr ()):=by
  refine gJ (f:=abe (some [(3,some (cj n))])) 1 (fun i=>(i:Int)) (fun i hi=>?_) ?_ (by decide)
  ·have:i=0:=by omega
   subst this
   have z:((0:Nat):Int)=0:=rfl
   simp only[abe,Option.getD_some,z,e,c0,c01,g,aG4 h hn,w1,Bool.not_true,Bool.not_false,Bool.false_or,Bool.true_or,Bool.or_true,Bool.or_false,Bool.and_true,Bool.true_and,Bool.false_and,Bool.and_false,Bool.and_self,Bool.or_self,Bool.false_eq_true,if_true,if_false,reduceIte,Int.reduceBEq,Int.reduceBNe,beq_self_eq_true,bne_self_eq_false,bU,bY,bZ,decide_true,decide_false]
   rfl
  ·have z:((1:Nat):Int)=1:=rfl
   simp only[abe,Option.getD_some,z,e,c11,Bool.not_true,Bool.not_false,Bool.false_or,Bool.true_or,Bool.or_true,Bool.or_false,Bool.and_true,Bool.true_and,Bool.false_and,Bool.and_false,Bool.and_self,Bool.or_self,Bool.false_eq_true,if_true,if_false,reduceIte,Int.reduceBEq,Int.reduceBNe,beq_self_eq_true,bne_self_eq_false,bU,bY,bZ,decide_true,decide_false]
 have l2:bO (abg none (0,some [(3,some (cj n))],none,1) (ny n) (cK (fB n))) (0,some [(3,some (cj n))],none,1)=some (some [(3,some (cj n))],cK (fS n),(n:Int)+1):=by
  refine gJ (f:=abg none (0,some [(3,some (cj n))],none,1) (ny n) (cK (fB n))) n (fun i=>((i:Int),some [(3,some (cj n))],cK (fS i),(i:Int)+1)) (fun i hi=>?_) ?_ (Nat.lt_of_le_of_lt hn (by decide))
  ·have d0:decide ((i:Int)<ag (fB n))=true:=decide_eq_true (by unfold ag;omega)
   have d1:decide (0≤(i:Int)∧(i:Int)<ag (fB n))=true:=decide_eq_true ⟨by omega,by unfold ag;omega⟩
   have w:IntKind.i64.wrap ((i:Int)+1)=((i+1:Nat):Int):=by rw[wrap_i64 (by omega) (by omega)];omega
   have w2:IntKind.i64.wrap ((i:Int)+1+1)=((i+1:Nat):Int)+1:=by rw[wrap_i64 (by omega) (by omega)];omega
   have t:((i:Int)).toNat=i:=by omega
   have hS:=amO i
   have l3:bO (abf (0,some [(3,some (cj n))],none,1) (cK (fB n)) ((i:Int),some [(3,some (cj n))],cK (fS i),(i:Int)+1) (some [(0,1)])) (0,some [(3,some (cj n))],cK (fS i),(i:Int)+1)=some (some [(3,some (cj n))],cK (fS (i+1)),((i+1:Nat):Int)+1):=by
    refine gJ (f:=abf (0,some [(3,some (cj n))],none,1) (cK (fB n)) ((i:Int),some [(3,some (cj n))],cK (fS i),(i:Int)+1) (some [(0,1)])) 1 (fun j=>if j=0 then(0,some [(3,some (cj n))],cK (fS i),(i:Int)+1)else(1,some [(3,some (cj n))],cK (fS (i+1)),((i+1:Nat):Int)+1)) (fun j hj=>?_) ?_ (by decide)
    ·have:j=0:=by omega
     subst this
     have er:ag [((0:Int),(1:Int))]=1:=rfl
     have gr:∀y:Int×Int,[((0:Int),(1:Int))].getD ((0:Int)).toNat y=(0,1):=fun _=>rfl
     have c3:decide ((0:Nat)+(fS i).length=(fS i).length)=true:=decide_eq_true (by omega)
     have c4:decide ((fS i).length+nat_lit 1≤nat_lit 68719476736)=true:=decide_eq_true (by rw[hS];exact Nat.le_trans (Nat.succ_le_of_lt hi) (Nat.le_trans hn (by decide)))
     simp only[abf,Option.getD_some,iT,er,c0,c01,gr,c3,c4,w1,w2,t,amM hi,Nat.zero_add,Nat.one_ne_zero,Bool.not_true,Bool.not_false,Bool.false_or,Bool.true_or,Bool.or_true,Bool.or_false,Bool.and_true,Bool.true_and,Bool.false_and,Bool.and_false,Bool.and_self,Bool.or_self,Bool.false_eq_true,if_true,if_false,reduceIte,Int.reduceBEq,Int.reduceBNe,beq_self_eq_true,bne_self_eq_false,bU,bY,bZ,decide_true,decide_false]
     refine congrArg some (congrArg Sum.inl (Prod.ext rfl (Prod.ext rfl (Prod.ext ?_ rfl))))
     show some (fS i++_)=cK (fS (i+1))
     rw[aHc,←avu,iT]
    ·have er:ag [((0:Int),(1:Int))]=1:=rfl
     simp only[abf,Option.getD_some,er,c11,Nat.one_ne_zero,Bool.not_true,Bool.not_false,Bool.false_or,Bool.true_or,Bool.or_true,Bool.or_false,Bool.and_true,Bool.true_and,Bool.false_and,Bool.and_false,Bool.and_self,Bool.or_self,Bool.false_eq_true,if_true,if_false,reduceIte,Int.reduceBEq,Int.reduceBNe,beq_self_eq_true,bne_self_eq_false,bU,bY,bZ,decide_true,decide_false]
   simp only[abg,iT,d0,d1,w,t,amM hi,aG9 hi,Option.getD_some,aHb,l3,Bool.not_true,Bool.not_false,Bool.false_or,Bool.true_or,Bool.or_true,Bool.or_false,Bool.and_true,Bool.true_and,Bool.false_and,Bool.and_false,Bool.and_self,Bool.or_self,Bool.false_eq_true,if_true,if_false,reduceIte,Int.reduceBEq,Int.reduceBNe,beq_self_eq_true,bne_self_eq_false,bU,bY,bZ,decide_true,decide_false]
  ·have d0:decide ((n:Int)<ag (fB n))=false:=decide_eq_false (by unfold ag;omega)
   simp only[abg,iT,d0,Bool.not_true,Bool.not_false,Bool.false_or,Bool.true_or,Bool.or_true,Bool.or_false,Bool.and_true,Bool.true_and,Bool.false_and,Bool.and_false,Bool.and_self,Bool.or_self,Bool.false_eq_true,if_true,if_false,reduceIte,Int.reduceBEq,Int.reduceBNe,beq_self_eq_true,bne_self_eq_false,bU,bY,bZ,decide_true,decide_false]
 have l1:bO (abh (some [(3,some (cj n))]) none) (0,some [(3,some (cj n))],none,1)=some (some [(3,some (cj n))],cK (fS n),(n:Int)+1):=by
  refine gJ (f:=abh (some [(3,some (cj n))]) none) 1 (fun i=>if i=0 then(0,some [(3,some (cj n))],none,1)else(1,some [(3,some (cj n))],cK (fS n),(n:Int)+1)) (fun i hi=>?_) ?_ (by decide)
  ·have:i=0:=by omega
   subst this
   simp only[abh,Option.getD_some,e,c0,c01,g,aHa hn,avI hn,l2,w1,Nat.zero_add,Nat.one_ne_zero,Bool.not_true,Bool.not_false,Bool.false_or,Bool.true_or,Bool.or_true,Bool.or_false,Bool.and_true,Bool.true_and,Bool.false_and,Bool.and_false,Bool.and_self,Bool.or_self,Bool.false_eq_true,if_true,if_false,reduceIte,Int.reduceBEq,Int.reduceBNe,beq_self_eq_true,bne_self_eq_false,bU,bY,bZ,decide_true,decide_false]
  ·simp only[abh,Option.getD_some,e,c11,Nat.one_ne_zero,Bool.not_true,Bool.not_false,Bool.false_or,Bool.true_or,Bool.or_true,Bool.or_false,Bool.and_true,Bool.true_and,Bool.false_and,Bool.and_false,Bool.and_self,Bool.or_self,Bool.false_eq_true,if_true,if_false,reduceIte,Int.reduceBEq,Int.reduceBNe,beq_self_eq_true,bne_self_eq_false,bU,bY,bZ,decide_true,decide_false]
 have hS:ag (fS n)=(n:Int):=by unfold ag;rw[amO]
 simp only[xW,Option.getD_some,e,c16,l0,copy_eq n hn,l1,iT,hS,Bool.not_true,Bool.not_false,Bool.false_or,Bool.true_or,Bool.or_true,Bool.or_false,Bool.and_true,Bool.true_and,Bool.false_and,Bool.and_false,Bool.and_self,Bool.or_self,Bool.false_eq_true,if_true,if_false,reduceIte,Int.reduceBEq,Int.reduceBNe,beq_self_eq_true,bne_self_eq_false,bU,bY,bZ,decide_true,decide_false]
 by_cases hb:(n:Int)>512
 ·rw[if_pos (decide_eq_true hb),if_pos hb]
 ·rw[if_neg (by simpa using hb),if_neg hb]
open Go.Fn (nr xH aa0 uD)
theorem avL {x n:Int} (hx:oG x) (hn:1≤n) (hn2:n≤4611686018427387904):ni x n=some (x % n):=by
 unfold oG at hx
 unfold ni
 rw[if_pos (by simp;omega)]
 congr 1
 have h0:=Int.emod_nonneg x (show n≠0 by omega)
 have h1:=Int.emod_lt_of_pos x (show 0<n by omega)
 rcases Int.lt_or_le x 0 with h|h
 ·have e:x.tmod n=if n ∣ x then 0 else x % n - n:=by
    rw[Int.tmod_eq_emod]
    split<;>rename_i hd
    ·rcases hd with hd|hd
     ·omega
     ·rw[if_pos hd];have:=Int.emod_eq_zero_of_dvd hd;omega
    ·rw[if_neg (fun hd'=>hd (.inr hd'))]
     omega
  rw[e]
  split<;>rename_i hd
  ·simp[Int.emod_eq_zero_of_dvd hd]
  ·rw[if_pos (by simp;omega),wrap_i64 (by omega) (by omega)];omega
 ·rw[Int.tmod_eq_emod_of_nonneg h,if_neg (by simp;omega)]
theorem avM:∀k,fR k++[10,34,97,34]=fR (k+1)
 |0=>rfl
 |k+1=>by
  have:=avM k
  show 10 :: 34 :: 97 :: 34 :: (fR k++[10,34,97,34])=10 :: 34 :: 97 :: 34 :: fR (k+1)
  rw[this]
theorem aHf {r:Int} {n:Nat} (hr:IntKind.i64.wrap (511+r)=(n:Int)) (hn:n≤10000):bO (abi r) ([116,101,120,116],0)=some (aC n):=by
 refine gJ (f:=abi r) n (fun i=>(aC i,(i:Int))) (fun i hi=>?_) ?_ (Nat.lt_of_le_of_lt hn (by decide))
 ·have c0:decide ((i:Int)<(n:Int))=true:=decide_eq_true (by omega)
  have hL:=nw i
  have c1:decide ((aC i).length+nat_lit 4≤nat_lit 1152921504606846976)=true:=decide_eq_true (by rw[hL];exact Nat.le_trans (show 4 * i+4+4≤50000 by omega) (by decide))
  have w:IntKind.i64.wrap ((i:Int)+1)=((i+1:Nat):Int):=by rw[wrap_i64 (by omega) (by omega)];omega
  simp only[abi,hr,c0,c1,w,Bool.not_true,Bool.not_false,Bool.false_or,Bool.true_or,Bool.or_true,Bool.or_false,Bool.and_true,Bool.true_and,Bool.false_and,Bool.and_false,Bool.and_self,Bool.or_self,Bool.false_eq_true,if_true,if_false,reduceIte,Int.reduceBEq,Int.reduceBNe,beq_self_eq_true,bne_self_eq_false,bU,bY,bZ,decide_true,decide_false]
  refine congrArg some (congrArg Sum.inl (Prod.ext ?_ rfl))
  show aC i++[10,34,97,34]=aC (i+1)
  unfold aC
  rw[←avM i]
  rfl
 ·have c0:decide ((n:Int)<(n:Int))=false:=decide_eq_false (by omega)
  simp only[abi,hr,c0,Bool.not_true,Bool.not_false,Bool.false_or,Bool.true_or,Bool.or_true,Bool.or_false,Bool.and_true,Bool.true_and,Bool.false_and,Bool.and_false,Bool.and_self,Bool.or_self,Bool.false_eq_true,if_true,if_false,reduceIte,Int.reduceBEq,Int.reduceBNe,beq_self_eq_true,bne_self_eq_false,bU,bY,bZ,decide_true,decide_false]
theorem aHg:jA (none,none,0)=some 1:=by unfold jA;rw[aa0];rfl
theorem aHh:jA (none,none,1)=some 0:=by unfold jA;rw[uD _ (fun e=>absurd (congrArg (fun p:uE=>p.2.2) e) (by decide)),aa0];rfl
theorem aHi:jA (none,none,1073741824)=some 0:=by unfold jA;rw[uD _ (fun e=>absurd (congrArg (fun p:uE=>p.2.2) e) (by decide)),uD _ (fun e=>absurd (congrArg (fun p:uE=>p.2.2) e) (by decide)),aa0];rfl
theorem aHj:jA (none,none,1073741825)=some 1:=by unfold jA;rw[uD _ (fun e=>absurd (congrArg (fun p:uE=>p.2.2) e) (by decide)),uD _ (fun e=>absurd (congrArg (fun p:uE=>p.2.2) e) (by decide)),uD _ (fun e=>absurd (congrArg (fun p:uE=>p.2.2) e) (by decide)),aa0];rfl
theorem amR {n:Nat} (h:0<n) (hn:n≤10000) {r:Int} (hr:IntKind.i64.wrap (511+r)=(n:Int)) {x next:Int} (hx:ni x 3=some r) (hnx:oG next):xX x next=some true:=by
 have hp:ni next 4=some (next % 4):=avL hnx (by decide) (by decide)
 have hS:ag (fS n)=(n:Int):=by unfold ag;rw[amO]
 have tail:(decide ((0:Int)≤next % 4∧next % 4<(4:Int))&&aS ((0:Nat)+(next % 4).toNat) (nat_lit 4))=true:=by
  rw[Bool.and_eq_true]
  exact⟨decide_eq_true ⟨by omega,by omega⟩,jC (show 0+(next % 4).toNat<4 by omega)⟩
 have hm:next % 4=0∨next % 4=1∨next % 4=2∨next % 4=3:=by omega
 have aHk:xh true=some 1:=rfl
 have aHl:xh false=some 0:=rfl
 have fin:aI (ni next (4:Int)) (fun r6=>if(decide ((0:Int)≤r6∧r6<(4:Int))&&aS ((0:Nat)+r6.toNat) (nat_lit 4))=true then
   aI (jA (none,none,[(0:Int),(1:Int),(1073741824:Int),(1073741825:Int)].getD ((0:Nat)+r6.toNat) (0:Int))) fun r7=>
    if decide ([(0:Int),(1:Int),(1073741824:Int),(1073741825:Int)].getD ((0:Nat)+r6.toNat) (0:Int)≥(1:Int))=true then
     if((r7==(0:Int))==decide ([(0:Int),(1:Int),(1073741824:Int),(1073741825:Int)].getD ((0:Nat)+r6.toNat) (0:Int)≤(1073741824:Int)))=true then aI aa1 fun r8=>some r8 else some false
    else if((r7==(0:Int))==false)=true then aI aa1 fun r9=>some r9 else some false
   else none)=some true:=by
  rw[hp,bU,if_pos tail]
  rcases hm with e|e|e|e<;>rw[e]
  ·show aI (jA (none,none,0)) _=_
   rw[aHg];rfl
  ·show aI (jA (none,none,1)) _=_
   rw[aHh];rfl
  ·show aI (jA (none,none,1073741824)) _=_
   rw[aHi];rfl
  ·show aI (jA (none,none,1073741825)) _=_
   rw[aHj];rfl
 unfold xX
 rw[hx,bU,aHf hr hn,bU,aGR h hn,bU,aHd h hn,bU]
 simp only[hr]
 by_cases hb:(n:Int)>512
 ·rw[if_pos hb]
  have c:decide ((n:Int)>512)=true:=decide_eq_true hb
  have w0:IntKind.i64.wrap ((n:Int) * 0)=0:=by rw[Int.mul_zero];rfl
  have e1:((3:Int)==0)=false:=rfl
  have l0:ag ([]:List Seg)=0:=rfl
  simp only[c,e1,aHl,w0,Option.getD_none,l0,Bool.not_true,Bool.not_false,Bool.false_or,Bool.true_or,Bool.or_true,Bool.or_false,Bool.and_true,Bool.true_and,Bool.false_and,Bool.and_false,Bool.and_self,Bool.or_self,Bool.false_eq_true,if_true,if_false,reduceIte,Int.reduceBEq,Int.reduceBNe,beq_self_eq_true,bne_self_eq_false,bU,bY,bZ,decide_true,decide_false]
  exact fin
 ·rw[if_neg hb]
  have c:decide ((n:Int)>512)=false:=decide_eq_false hb
  have w0:IntKind.i64.wrap ((n:Int) * 1)=(n:Int):=by rw[Int.mul_one,wrap_i64 (by omega) (by omega)]
  have e1:((0:Int)==0)=true:=rfl
  simp only[c,e1,aHk,w0,iT,hS,Bool.not_true,Bool.not_false,Bool.false_or,Bool.true_or,Bool.or_true,Bool.or_false,Bool.and_true,Bool.true_and,Bool.false_and,Bool.and_false,Bool.and_self,Bool.or_self,Bool.false_eq_true,if_true,if_false,reduceIte,Int.reduceBEq,Int.reduceBNe,beq_self_eq_true,bne_self_eq_false,bU,bY,bZ,decide_true,decide_false]
  exact fin
theorem aHm {x next:Int} (hx:oG x) (hnx:oG next):xX x next=some true:=by
 have hp:ni x 3=some (x % 3):=avL hx (by decide) (by decide)
 have hm:x % 3=0∨x % 3=1∨x % 3=2:=by omega
 rcases hm with e|e|e
 ·exact amR (n:=511) (by decide) (by decide) (r:=x % 3) (by rw[e];rfl) hp hnx
 ·exact amR (n:=512) (by decide) (by decide) (r:=x % 3) (by rw[e];rfl) hp hnx
 ·exact amR (n:=513) (by decide) (by decide) (r:=x % 3) (by rw[e];rfl) hp hnx
end Go.Fp
