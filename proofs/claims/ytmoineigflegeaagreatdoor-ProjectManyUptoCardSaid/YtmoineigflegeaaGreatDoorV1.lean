/- An evaluator of this program's code over plain values, proved sound: part 1. -/
import Derived.Orders
import Derived.Scope
import Derived.Laws.World
import Derived.Laws.Sem
import GoSem.Dispatch
import Derived.Lib.Strings
import Derived.MapKept
import Derived.WideKeyRuns
set_option linter.unusedVariables false
set_option linter.unusedSimpArgs false
set_option linter.unusedSectionVars false
namespace Go.Vs
inductive Key where
 |inb (i:Nat)|loc (t:Nat)|esc (t i:Nat)
 deriving DecidableEq,Repr,Inhabited
inductive ah where
 |tmp (t:Nat)|box (k:Key)|arg (i:Nat)
 deriving DecidableEq,Repr,Inhabited
inductive NK where
 |ptr|func|iface|map|chan
 deriving DecidableEq,Repr,Inhabited
inductive D where
 |int (k:IntKind) (n:Int)
 |bool (b:Bool)
 |str (s:List UInt8)
 |nil
 |sl (e:Nat) (xs:List (List D))
 |aK (k:NK)
 deriving Inhabited
inductive C where
 |d (x:D)
 |own (e:Nat) (xs:List (List D))
 |aD (r:ah) (j hv cv e k:Nat) (xs:List (List D))
 |ea (r:ah) (j hv e i off:Nat)
 |da (xs:List D)
 |ptr (k:Key) (off:Nat)
 |bW (f:FuncId) (caps:List (Key×Nat))
 |dead
 deriving Inhabited
inductive SV where
 |one (c:C)
 |agg (cs:List C)
 |aJ (vs:List (Bool×List C))
 |undef
 deriving Inhabited
structure RV where
 hv:Nat:=0
 cv:Nat:=0
 v:SV:=.undef
 deriving Inhabited
abbrev St:=ah→RV
def St.set (s:St) (r:ah) (x:RV):St:=fun r'=>if r'=r then x else s r'
theorem jD (s:St) (r:ah) (x:RV):s.set r x r=x:=by simp[St.set]
theorem jE (s:St) {r q:ah} (x:RV) (h:q≠r):s.set r x q=s q:=by simp[St.set,h]
def SV.cells:SV→List C
 | .one c=>[c]
 | .agg cs=>cs
 | .aJ vs=>vs.flatMap (·.2)
 | .undef=>[]
def nA:List (Bool×List C)→Nat→C→List (Bool×List C)
 | [],_,_=>[]
 |(b,cs) :: r,j,c=>if j<cs.length then(b,cs.set j c) :: r else(b,cs) :: nA r (j - cs.length) c
def SV.setCell (v:SV) (j:Nat) (c:C):SV:=
 match v with
 | .one _=>if j=0 then .one c else v
 | .agg cs=>.agg (cs.set j c)
 | .aJ vs=>.aJ (nA vs j c)
 | .undef=>.undef
def kY (kl:Nat) (ka:Bool) (vl:Nat) (va:Bool):Nat:=4294967296+((kl * 2+ka.toNat) * 65536+(vl * 2+va.toNat))
def aW (e:Nat):Bool:=Nat.ble 4294967296 e
def jF:Nat:=1099511627776
def dL (e:Nat):Bool:=Nat.ble 1099511627776 e
def gw (e:Nat):Nat:=e+549755813888
def hY (l:List Nat):List D:=l.map fun(n:Nat)=>.int .i64 (n:Int)
def eF (e:Nat):Bool:=Nat.ble 549755813888 e&& !dL e
def vp (b:Bool) (e:Nat):Nat:=match b with|true=>gw e|false=>e
def oE (e:Nat):Nat:=match eF e with|true=>e - 549755813888|false=>e
def pU (e:Nat):Nat:=(e - 4294967296) / 131072
def sx (e:Nat):Bool:=(e - 4294967296) / 65536 % 2==1
def mVl (e:Nat):Nat:=(e - 4294967296) % 65536 / 2
def sy (e:Nat):Bool:=(e - 4294967296) % 2==1
inductive Prog (α:Type) where
 |ret (a:α)
 |fail
 |get (r:ah) (k:RV→Prog α)
 |put (r:ah) (x:RV) (k:Prog α)
namespace Prog
def bind {α β:Type}:Prog α→(α→Prog β)→Prog β
 | .ret a,f=>f a
 | .fail,_=>.fail
 | .get r k,f=>.get r fun x=>(k x).bind f
 | .put r x k,f=>.put r x (k.bind f)
instance:Monad Prog where
 pure:=Prog.ret
 bind:=Prog.bind
def exec {α:Type}:Prog α→St→Option (α×St)
 | .ret a,s=>some (a,s)
 | .fail,_=>none
 | .get r k,s=>(k (s r)).exec s
 | .put r x k,s=>k.exec (s.set r x)
def dO {α:Type}:Prog α→St→List ah×List ah
 | .ret _,_=>([],[])
 | .fail,_=>([],[])
 | .get r k,s=>let f:=(k (s r)).dO s;(r :: f.1,f.2)
 | .put r x k,s=>let f:=k.dO (s.set r x);(f.1,r :: f.2)
end Prog
def aHs (r:ah):Prog RV:=.get r .ret
def cY (r:ah) (x:RV):Prog Unit:=.put r x (.ret ())
def need (p:Prop) [Decidable p]:Prog Unit:=if p then .ret ()else .fail
def opt {α:Type}:Option α→Prog α
 |some a=>.ret a
 |none=>.fail
inductive TK where
 |bool|int (k:IntKind)|str|ptr (e:TypeId)|slice (e:TypeId)|array (n:Nat) (e:TypeId)|struct (fs:List (Nat×TypeId))
 |func|iface|map (k e:TypeId)|other
 deriving DecidableEq,Repr,Inhabited
def TK.agg:TK→Bool
 | .struct _| .array _ _=>true
 |_=>false
structure TI where
 size:Nat
 bytes:Nat
 kind:TK
 zero:Option (List D)
 deriving Inhabited
def tk:TypeDesc→TK
 | .bool=>.bool
 | .int k=>.int k
 | .string=>.str
 | .pointer e=>.ptr e
 | .slice e=>.slice e
 | .array n e=>.array n e
 | .struct fs=>.struct (fs.toList.map fun f=>(f.offset,f.type))
 | .func .. =>.func
 | .interface _=>.iface
 | .map k e=>.map k e
 |_=>.other
def reflect:Value→Option D
 | .int k n=>some (.int k n)
 | .bool b=>some (.bool b)
 | .string s=>some (.str s.data.toList)
 | .slice none 0 0=>some .nil
 | .pointer none=>some (.aK .ptr)
 | .nilFunc=>some (.aK .func)
 | .nilIface=>some (.aK .iface)
 | .map none=>some (.aK .map)
 | .chan none=>some (.aK .chan)
 |_=>none
def iU:List Value→Option (List D)
 | []=>some []
 |v :: r=>match reflect v,iU r with|some d,some ds=>some (d :: ds)|_,_=>none
def ach:Value→Bool
 | .agg _=>true
 |_=>false
def aci (agg:Bool) (v:Value):Option (List D):=if ach v=agg then iU v.cells.toList else none
def ay (P:Program) (t:TypeId):Option TI:=
 match P.info? t,P.underlying t with
 |some i,some d=>some { size:=i.size,bytes:=i.bytes,kind:=tk d,zero:=i.zero.bind (aci (tk d).agg) }
 |_,_=>none
structure gS where
 v:SV
 boxes:List (List C)
 aB:List (Nat×Nat):=[]
 deriving Inhabited
abbrev fc:=List SV→List (List C)→Option gS
inductive Sc where
 |int (k:IntKind)|bool|str
 deriving DecidableEq,Inhabited
def bD:List Sc→List D→Bool
 | [],[]=>true
 | .int k :: sh,.int k' _ :: ds=>decide (k'=k)&&bD sh ds
 | .bool :: sh,.bool _ :: ds=>bD sh ds
 | .str :: sh,.str _ :: ds=>bD sh ds
 |_,_=>false
structure aP where
 N:Nat
 T:List (TypeId×TI)
 Γ:Nat→FuncId→Option fc
 var:List Nat
 res:List Nat
 eqs:List (TypeId×List Sc):=[]
 dat:List Nat:=[]
 bK:Bool:=false
 un:List Nat:=[]
 nB:List (Nat×List Int):=[]
def aP.keep (cfg:aP) (u:Nat):Bool:=cfg.var.contains u&& !cfg.dat.contains u
def lk {α:Type} (t:Nat):List (Nat×α)→Option α
 | []=>none
 |(u,a) :: r=>if t=u then some a else lk t r
def aP.ti (c:aP) (t:TypeId):Option TI:=lk t c.T
def j8 (r:ah) (x:RV) (j:Nat):C→C
 | .own e xs=>.aD r j x.hv x.cv e 0 xs
 |c=>c
def fe (r:ah) (x:RV):Nat→List C→List C
 |_,[]=>[]
 |j,c :: cs=>j8 r x j c :: fe r x (j+1) cs
def pV (r:ah) (x:RV):Nat→List (Bool×List C)→List (Bool×List C)
 |_,[]=>[]
 |j,(b,cs) :: vs=>(b,fe r x j cs) :: pV r x (j+cs.length) vs
def RV.copy (x:RV) (r:ah):SV:=
 match x.v with
 | .one c=>.one (j8 r x 0 c)
 | .agg cs=>.agg (fe r x 0 cs)
 | .aJ vs=>.aJ (pV r x 0 vs)
 | .undef=>.undef
def ev:Operand→Prog SV
 | .tmp t=>.get (.tmp t) fun x=>match x.v with| .undef=>.fail|_=>.ret (x.copy (.tmp t))
 | .const v=>match v with
   | .agg cs=>match iU cs.toList with|some ds=>.ret (.agg (ds.map .d))|none=>.fail
   |v=>match reflect v with|some d=>.ret (.one (.d d))|none=>.fail
 | .func f=>.ret (.one (.bW f []))
 | .global _=>.fail
def nC:List Operand→Prog (List SV)
 | []=>.ret []
 |o :: os=>do let v ←ev o;let vs ←nC os;.ret (v :: vs)
def ym:SV→Prog C
 | .one c=>.ret c
 |_=>.fail
def dw (o:Operand):Prog C:=do ym (←ev o)
def kZ:C→Prog Int
 | .d (.int _ n)=>.ret n
 |_=>.fail
def vq:C→Prog Bool
 | .d (.bool b)=>.ret b
 |_=>.fail
def aHt:C→Prog (List UInt8)
 | .d (.str s)=>.ret s
 |_=>.fail
def RV.at (x:RV) (j:Nat):C:=x.v.cells.getD j .dead
def ld (r:ah) (j:Nat) (x:RV):Prog Unit:=
 match x.at j with
 | .own e ys=>cY r { x with v:=x.v.setCell j (.d (.sl e ys)) }
 | .d (.sl _ _)=>.ret ()
 |_=>.fail
def mg (r:ah) (j:Nat) (x:RV):Prog Unit:=
 match x.at j with
 | .own _ _=>cY r { x with v:=x.v.setCell j .dead }
 |_=>.fail
def ah.isArg:ah→Bool
 | .arg _=>true
 |_=>false
def j9 (self:Option (ah×Nat)) (take:ah→Bool):C→Prog C
 | .aD r j hv cv e k xs=>
   if r.isArg then .ret (.aD r j hv cv e k xs)else
   .get r fun x=>do
    need (x.hv=hv∧x.cv=cv)
    match x.at j with
    | .own _ _=>
      if self=some (r,j)∨take r=true then do mg r j x;.ret (.own e xs)
      else do ld r j x;.ret (.d (.sl e xs))
    | .d (.sl _ _)=>.ret (.d (.sl e xs))
    |_=>.fail
 | .dead=>.fail
 |c=>.ret c
def lf (mk:Nat→ah×Nat) (take:ah→Bool):Nat→List C→Prog (List C)
 |_,[]=>.ret []
 |i,c :: cs=>do let c' ←j9 (some (mk i)) take c;let cs' ←lf mk take (i+1) cs;.ret (c' :: cs')
def sA (mk:Nat→ah×Nat) (take:ah→Bool):Nat→List (Bool×List C)→Prog (List (Bool×List C))
 |_,[]=>.ret []
 |i,(b,cs) :: vs=>do let cs' ←lf mk take i cs;let vs' ←sA mk take (i+cs.length) vs;.ret ((b,cs') :: vs')
def jG (r:ah) (take:ah→Bool):SV→Prog SV
 | .one c=>do .ret (.one (←j9 (some (r,0)) take c))
 | .agg cs=>do .ret (.agg (←lf (fun i=>(r,i)) take 0 cs))
 | .aJ vs=>do .ret (.aJ (←sA (fun i=>(r,i)) take 0 vs))
 | .undef=>.fail
def jH:C→Prog D
 | .d x=>.ret x
 | .aD r j hv cv e _ xs=>.get r fun x=>do
    need (x.hv=hv∧x.cv=cv)
    ld r j x
    .ret (.sl e xs)
 |_=>.fail
def lg:List C→Prog (List D)
 | []=>.ret []
 |c :: cs=>do let x ←jH c;let xs ←lg cs;.ret (x :: xs)
def SV.dM:SV→Option (List C)
 | .one c=>some [c]
 | .agg cs=>some cs
 |_=>none
def alive (x:RV) (j:Nat):Bool:=
 match x.at j with
 | .own _ _| .d (.sl _ _)=>true
 |_=>false
def elems (size:Nat):C→Prog (List (List D))
 | .d .nil=>.ret []
 | .d (.sl e xs)=>do need (e=size∧aW e=false);.ret xs
 | .aD r j hv cv e _ xs=>.get r fun x=>do need (x.hv=hv∧x.cv=cv∧alive x j=true∧e=size∧aW e=false);.ret xs
 |_=>.fail
def ez (k:IntKind) (n:Int):SV:=.one (.d (.int k n))
def gd (b:Bool):SV:=.one (.d (.bool b))
def pW (op:BinOp) (k:IntKind) (a b:Int):Prog SV:=
 match op with
 | .add=>.ret (ez k (k.wrap (a+b)))
 | .sub=>.ret (ez k (k.wrap (a - b)))
 | .mul=>.ret (ez k (k.wrap (a * b)))
 | .quo=>do need (b≠0);.ret (ez k (k.wrap (a.tdiv b)))
 | .rem=>do need (b≠0);.ret (ez k (a.tmod b))
 | .and=>.ret (ez k (k.wrap ((BitVec.ofInt k.bits a &&& BitVec.ofInt k.bits b).toNat)))
 | .or=>.ret (ez k (k.wrap ((BitVec.ofInt k.bits a ||| BitVec.ofInt k.bits b).toNat)))
 | .xor=>.ret (ez k (k.wrap ((BitVec.ofInt k.bits a ^^^ BitVec.ofInt k.bits b).toNat)))
 | .andNot=>.ret (ez k (k.wrap ((BitVec.ofInt k.bits a &&& ~~~(BitVec.ofInt k.bits b)).toNat)))
 | .eql=>.ret (gd (a==b))
 | .neq=>.ret (gd (a != b))
 | .lss=>.ret (gd (a<b))
 | .leq=>.ret (gd (a≤b))
 | .gtr=>.ret (gd (a>b))
 | .geq=>.ret (gd (a≥b))
 |_=>.fail
def yo (op:BinOp) (a b:List UInt8):Prog SV:=
 match op with
 | .add=>do need (a.length+b.length≤2 ^ 60);.ret (.one (.d (.str (a++b))))
 | .eql=>.ret (gd (decide (a=b)))
 | .neq=>.ret (gd (!decide (a=b)))
 | .lss=>.ret (gd (Op.bytesLess a b))
 | .leq=>.ret (gd (Op.bytesLess a b||decide (a=b)))
 | .gtr=>.ret (gd (!(Op.bytesLess a b||decide (a=b))))
 | .geq=>.ret (gd (!Op.bytesLess a b))
 |_=>.fail
def sB:C→Option Bool
 | .d .nil=>some true
 | .d (.sl e _)=>if aW e=true then none else some false
 | .own e _=>if aW e=true then none else some false
 | .aD _ _ _ _ e _ _=>if aW e=true then none else some false
 |_=>none
def acj (cfg:aP) (t:TypeId) (op:BinOp) (x:C):Prog SV:=
 match cfg.ti t,op,sB x with
 |some { kind:=.slice _, .. },.eql,some b=>.ret (gd b)
 |some { kind:=.slice _, .. },.neq,some b=>.ret (gd (!b))
 |_,_,_=>.fail
def oH (cfg:aP) (t:TypeId) (op:BinOp) (x y:C):Prog SV:=
 match x,y with
 | .d (.int k a),.d (.int k' b)=>
   match op with
   | .shl=>do need (0≤b);.ret (ez k (k.wrap (a * 2 ^ (min b.toNat k.bits))))
   | .shr=>do need (0≤b);.ret (ez k (a.fdiv (2 ^ (min b.toNat k.bits))))
   |op=>if k=k' then pW op k a b else .fail
 | .d (.str a),.d (.str b)=>yo op a b
 | .d (.bool a),.d (.bool b)=>
   match cfg.ti t,op with
   |some { kind:=.bool, .. },.eql=>.ret (gd (a==b))
   |some { kind:=.bool, .. },.neq=>.ret (gd (!(a==b)))
   |_,_=>.fail
 |x,.d .nil=>acj cfg t op x
 |_,_=>.fail
def gT:D→D→Bool
 | .int _ a,.int _ b=>a==b
 | .bool a,.bool b=>a==b
 | .str a,.str b=>decide (a=b)
 |_,_=>false
def cw:List D→List D→Bool
 | [],[]=>true
 |x :: xs,y :: ys=>gT x y&&cw xs ys
 |_,_=>false
def fH:List C→Option (List D)
 | []=>some []
 | .d x :: cs=>match fH cs with|some ds=>some (x :: ds)|none=>none
 |_ :: _=>none
def ack (cfg:aP) (t:TypeId) (op:BinOp) (xs ys:List C):Prog SV:=
 match lk t cfg.eqs,op,fH xs,fH ys with
 |some sh,.eql,some ds,some es=>if bD sh ds&&bD sh es then .ret (gd (cw ds es))else .fail
 |some sh,.neq,some ds,some es=>if bD sh ds&&bD sh es then .ret (gd (!cw ds es))else .fail
 |_,_,_,_=>.fail
def jk (i:TI) (cs:List C) (off:Nat):Prog SV:=do
 need (0<i.size∧off+i.size≤cs.length)
 if i.kind.agg then .ret (.agg ((cs.drop off).take i.size))
 else match cs[off]? with|some .dead=>.fail|some c=>.ret (.one c)|none=>.fail
def oI (i:TI):C→Prog SV
 | .ptr k off=>.get (.box k) fun x=>
   match x.v with
   | .agg cs=>jk i (fe (.box k) x 0 cs) off
   |_=>.fail
 | .ea r j hv _ n off=>.get r fun x=>do
   need (x.hv=hv)
   match x.at j with
   | .own _ ys| .d (.sl _ ys)=>match ys[n]? with
     |some ds=>jk i (ds.map .d) off
     |none=>.fail
   |_=>.fail
 | .da ds=>jk i (ds.map .d) 0
 |_=>.fail
def splice {α:Type} (l:List α) (off:Nat) (m:List α):List α:=l.take off++m++l.drop (off+m.length)
def yp (take:ah→Bool) (i:TI) (a:C) (v:SV):Prog Unit:=
 match a,v.dM with
 | .ptr k off,some cs=>do
   need (cs.length=i.size)
   let cs' ←lf (fun n=>(.box k,off+n)) take 0 cs
   .get (.box k) fun x=>
    match x.v with
    | .agg old=>do
      need (off+i.size≤old.length)
      cY (.box k) { hv:=x.hv+1,cv:=x.cv,v:=.agg (splice old off cs') }
    |_=>.fail
 | .ea r j hv _ n off,some cs=>do
   need (cs.length=i.size)
   let ds ←lg cs
   .get r fun x=>do
    need (x.hv=hv∧r.isArg=false)
    match x.at j with
    | .own e ys=>match ys[n]? with
      |some row=>do
       need (off+i.size≤row.length)
       cY r { x with cv:=x.cv+1,v:=x.v.setCell j (.own e (ys.set n (splice row off ds))) }
      |none=>.fail
    |_=>.fail
 |_,_=>.fail
def yq (cfg:aP) (t:TypeId) (c:C) (f:Nat):Prog C:=
 match cfg.ti t with
 |some { kind:=.struct fs, .. }=>match fs[f]? with
  |some (o,ft)=>match cfg.ti ft with
   |some i=>do
    need (i.size≠0)
    match c with
    | .ptr k off=>.ret (.ptr k (off+o))
    | .ea r j hv e n off=>.ret (.ea r j hv e n (off+o))
    | .da ds=>do need (o≤ds.length);.ret (.da (ds.drop o))
    |_=>.fail
   |none=>.fail
  |none=>.fail
 |_=>.fail
def acm (cfg:aP) (t:TypeId) (g:Nat) (n:Int):Prog C:=
 match lk g cfg.nB,cfg.ti t with
 |some l,some { kind:=.array len et, .. }=>match cfg.ti et with
  |some i=>do need (0≤n∧n<len);need (len=l.length∧i.size=1);.ret (.da [.int .u64 (l.getD n.toNat 0)])
  |none=>.fail
 |_,_=>.fail
def yu (cfg:aP) (t:TypeId) (c:C) (n:Int):Prog C:=
 match cfg.ti t with
 |some { kind:=.slice et, .. }=>match cfg.ti et with
  |some i=>match c with
   | .aD r j hv _ e k xs=>do need (0≤n∧n<xs.length);need (i.size=e∧aW e=false);.ret (.ea r j hv e (k+n.toNat) 0)
   | .d (.sl e xs)=>do
     need (0≤n∧n<xs.length);need (i.size=e∧aW e=false)
     match xs[n.toNat]? with|some ds=>.ret (.da ds)|none=>.fail
   |_=>.fail
  |none=>.fail
 |some { kind:=.array len et, .. }=>match cfg.ti et with
  |some i=>match c with
   | .ptr k off=>do need (0≤n∧n<len);.ret (.ptr k (off+n.toNat * i.size))
   |_=>.fail
  |none=>.fail
 |_=>.fail
def yw (cfg:aP) (t:TypeId) (v:SV) (n:Int):Prog SV:=
 match cfg.ti t,v with
 |some { kind:=.str, .. },.one (.d (.str s))=>do
  need (0≤n)
  match s[n.toNat]? with|some b=>.ret (ez .u8 b.toNat)|none=>.fail
 |some { kind:=.array len et, .. },.agg cs=>match cfg.ti et with
  |some i=>do need (0≤n∧n<len);jk i cs (n.toNat * i.size)
  |none=>.fail
 |_,_=>.fail
def nD (isStr:Bool) (v:SV):Prog SV:=
 match isStr,v with
 |true,.one (.d (.str s))=>.ret (ez .i64 s.length)
 |false,.one (.d .nil)=>.ret (ez .i64 0)
 |false,.one (.d (.sl e xs))=>do need (aW e=false);.ret (ez .i64 xs.length)
 |false,.one (.aD _ _ _ _ e _ xs)=>do need (aW e=false);.ret (ez .i64 xs.length)
 |_,_=>.fail
def fill (cells:List C):List (Nat×List C)→List C
 | []=>cells
 |(off,cs) :: r=>fill (splice cells off cs) r
def partsOf (fs:List (Nat×TypeId)) (cfg:aP):List (Nat×Operand)→Prog (List (Nat×List C))
 | []=>.ret []
 |(i,o) :: r=>do
  let v ←ev o
  match fs[i]?,v.dM with
  |some (off,t),some cs=>match cfg.ti t with
   |some ti=>do need (cs.length=ti.size);let rest ←partsOf fs cfg r;.ret ((off,cs) :: rest)
   |none=>.fail
  |_,_=>.fail
def acn (cfg:aP) (t:TypeId) (parts:List (Nat×Operand)):Prog SV:=
 match cfg.ti t with
 |some { kind:=.struct fs,size,zero:=some z, .. }=>do
  need (z.length=size∧∀p∈fs,(cfg.ti p.2).isSome=true)
  let ps ←partsOf fs cfg parts
  need (∀p∈ps,p.1+p.2.length≤size)
  .ret (.agg (fill (z.map .d) ps))
 |some { kind:=.array n et,size,zero:=some z, .. }=>match cfg.ti et with
  |some i=>do
   need (z.length=size)
   let ps ←partsOf ((List.range n).map fun j=>(j * i.size,et)) cfg parts
   need (∀p∈ps,p.1+p.2.length≤size)
   .ret (.agg (fill (z.map .d) ps))
  |none=>.fail
 |_=>.fail
def rowsOf (size:Nat):List (Nat×Operand)→List (List D)→Prog (List (List D))
 | [],rows=>.ret rows
 |(i,o) :: r,rows=>do
  let v ←ev o
  match v.dM with
  |some cs=>do
   need (cs.length=size∧i<rows.length)
   let ds ←lg cs
   rowsOf size r (rows.set i ds)
  |none=>.fail
def aco (cfg:aP) (t:TypeId) (len:Nat) (parts:List (Nat×Operand)):Prog SV:=
 match cfg.ti t with
 |some { kind:=.slice et, .. }=>match cfg.ti et with
  |some i=>match i.zero with
   |some z=>do
    need (z.length=i.size∧0<i.size∧len * i.size≤2 ^ 24∧aW i.size=false)
    let rows ←rowsOf i.size parts (List.replicate len z)
    .ret (.one (.own i.size rows))
   |none=>.fail
  |none=>.fail
 |_=>.fail
def acp (cfg:aP) (t:TypeId) (len cap:Int):Prog SV:=
 match cfg.ti t with
 |some { kind:=.slice et, .. }=>match cfg.ti et with
  |some i=>match i.zero with
   |some z=>do
    need (z.length=i.size∧0<i.size∧i.bytes≤2 ^ 10∧aW i.size=false)
    need (0≤len∧len≤cap∧cap≤2 ^ 36)
    .ret (.one (.own i.size (List.replicate len.toNat z)))
   |none=>.fail
  |none=>.fail
 |_=>.fail
def pX (i:TI) (c:C) (ys:List (List D)):Prog SV:=do
 need (0<i.size∧0<i.bytes∧i.bytes≤2 ^ 10∧(i.zero.map (·.length))=some i.size∧aW i.size=false)
 match c with
 | .d .nil=>do
   need (ys.length≤2 ^ 36)
   if ys=[]then .ret (.one (.d .nil))else .ret (.one (.own i.size ys))
 | .aD r j hv cv e k xs=>.get r fun x=>do
   need (x.hv=hv∧x.cv=cv∧e=i.size∧r.isArg=false)
   match x.at j with
   | .own _ zs=>do
     need (k+xs.length=zs.length)
     need (xs.length+ys.length≤2 ^ 36)
     mg r j x
     .ret (.one (.own e (xs++ys)))
   |_=>.fail
 |_=>.fail
def afZ (c:C):Prog SV:=
 match c with
 | .d .nil=>.ret (.one (.d (.int .i64 0)))
 |_=>.fail
def vr (i:TI) (c:C) (n:Int):Prog SV:=
 match c,i.zero with
 | .d .nil,some z=>do
   need (z.length=i.size∧0<i.size∧0<i.bytes∧i.bytes≤2 ^ 10∧aW i.size=false)
   need (0≤n∧n≤2 ^ 36)
   if n.toNat=0 then .ret (.one (.d .nil))else .ret (.one (.own i.size (List.replicate n.toNat z)))
 |_,_=>.fail
def sC (cfg:aP) (i:TI) (t:TypeId) (c:C):Prog (List (List D)):=
 match cfg.ti t,c with
 |some { kind:=.str, .. },.d (.str s)=>do need (i.size=1);.ret (s.map fun b=>[.int .u8 b.toNat])
 |some { kind:=.slice _, .. },c=>elems i.size c
 |_,_=>.fail
def acq (v:SV) (lo hi:Option Int):Prog SV:=
 match v with
 | .one (.d (.str s))=>do
   let h:=hi.getD s.length
   let l:=lo.getD 0
   need (0≤l∧l≤h∧h≤s.length)
   .ret (.one (.d (.str ((s.take h.toNat).drop l.toNat))))
 |_=>.fail
def nE (size:Nat) (v:SV) (lo hi:Option Int):Prog SV:=
 match v with
 | .one (.d .nil)=>do
   need (lo.getD 0=0∧hi.getD 0=0)
   .ret (.one (.d .nil))
 | .one (.d (.sl e xs))=>do
   let h:=hi.getD xs.length
   let l:=lo.getD 0
   need (0≤l∧l≤h∧h≤xs.length)
   need (e=size∧aW e=false)
   .ret (.one (.d (.sl e ((xs.take h.toNat).drop l.toNat))))
 | .one (.aD r j hv cv e k xs)=>do
   let h:=hi.getD xs.length
   let l:=lo.getD 0
   need (0≤l∧l≤h∧h≤xs.length)
   need (e=size∧aW e=false)
   .ret (.one (.aD r j hv cv e (k+l.toNat) ((xs.take h.toNat).drop l.toNat)))
 |_=>.fail
def pY (cfg:aP) (src dst:TypeId) (v:SV):Prog SV:=
 match cfg.ti src,cfg.ti dst,v with
 |some _,some { kind:=.int k, .. },.one (.d (.int _ n))=>.ret (ez k (k.wrap n))
 |some _,some { kind:=.str, .. },.one (.d (.str s))=>.ret (.one (.d (.str s)))
 |some _,some { kind:=.slice et, .. },.one (.d (.str s))=>match cfg.ti et with
  |some { kind:=.int .u8,size:=1, .. }=>.ret (.one (.own 1 (s.map fun b=>[.int .u8 b.toNat])))
  |_=>.fail
 |some { kind:=.slice et, .. },some { kind:=.str, .. },.one c=>match cfg.ti et with
  |some { kind:=.int .u8,size:=1, .. }=>do
   let xs ←elems 1 c
   match xs.mapM (fun x=>match x with| [.int .u8 n]=>some (UInt8.ofNat n.toNat)|_=>none)with
   |some l=>.ret (.one (.d (.str l)))
   |none=>.fail
  |_=>.fail
 |_,_,_=>.fail
def cg (ki ei:TI):Nat:=kY ki.size ki.kind.agg ei.size ei.kind.agg
def gx (cfg:aP) (t:TypeId):Option (TypeId×TI×TI):=
 match cfg.ti t with
 |some { kind:=.map kt et, .. }=>match cfg.ti kt,cfg.ti et with
  |some ki,some ei=>if ki.size<32768∧ei.size<32768 then some (kt,ki,ei)else none
  |_,_=>none
 |_=>none
def pZ (cfg:aP) (kt:TypeId):Option (List Sc):=
 match cfg.ti kt with
 |some { kind:=.int k, .. }=>some [.int k]
 |some { kind:=.str, .. }=>some [.str]
 |some { kind:=.bool, .. }=>some [.bool]
 |some { kind:=.struct _, .. }=>lk kt cfg.eqs
 |_=>none
def ep (n:Nat) (ks:List D):List (List D)→Option Nat
 | []=>none
 |x :: xs=>if cw ks (x.take n)=true then some 0 else(ep n ks xs).map (·+1)
def oJ (e:Nat):C→Prog (List (List D))
 | .d (.aK .map)=>.ret []
 | .d (.sl e' xs)=>do need (e'=e∨e'=gw e);.ret xs
 | .aD r j hv _ e' _ _=>.get r fun x=>do
   need (x.hv=hv∧(e'=e∨e'=gw e))
   match x.at j with
   | .own _ ys=>.ret ys
   | .d (.sl _ ys)=>.ret ys
   |_=>.fail
 |_=>.fail
def jI (sh:List Sc) (n:Nat) (xs:List (List D)):Bool:=xs.all fun x=>bD sh (x.take n)
def SV.isAgg:SV→Bool
 | .agg _=>true
 |_=>false
def SV.key (v:SV):Option (List D):=match v.dM with
 |some cs=>fH cs
 |none=>none
def yx (agg:Bool) (ds:List D):Prog SV:=
 match agg with
 |true=>.ret (.agg (ds.map .d))
 |false=>match ds with
  | [d]=>.ret (.one (.d d))
  |_=>.fail
def jl (n:Nat) (xs:List (List D)) (z:List D):Option Nat→List D
 |some i=>(xs.getD i []).drop n
 |none=>z
def yy (cfg:aP) (t:TypeId) (c:C) (kv:SV) (ok:Bool):Prog SV:=
 match gx cfg t with
 |some (kt,ki,ei)=>match pZ cfg kt,kv.key,ei.zero with
  |some sh,some kd,some z=>do
   need (bD sh kd=true∧kd.length=ki.size∧kv.isAgg=ki.kind.agg∧z.length=ei.size∧(ei.kind.agg=true∨ei.size=1))
   let xs ←oJ (cg ki ei) c
   need (jI sh ki.size xs=true)
   match ok with
   |true=>.ret (.aJ [(ei.kind.agg,(jl ki.size xs z (ep ki.size kd xs)).map .d),(false,[.d (.bool (ep ki.size kd xs).isSome)])])
   |false=>yx ei.kind.agg (jl ki.size xs z (ep ki.size kd xs))
  |_,_,_=>.fail
 |none=>.fail
def yz (n:Nat) (kd vd:List D) (xs:List (List D)):List (List D):=
 match ep n kd xs with
 |some i=>xs.set i (kd++vd)
 |none=>xs++[kd++vd]
def ltB:List UInt8→List UInt8→Bool
 | [],_ :: _=>true
 |a :: l,b :: m=>Nat.blt a.toNat b.toNat||(Nat.beq a.toNat b.toNat&&ltB l m)
 |_,[]=>false
def vt:D→D→Bool
 | .int _ a,.int _ b=>decide (a<b)
 | .bool a,.bool b=> !a&&b
 | .str a,.str b=>ltB a b
 |_,_=>false
def lp:List D→List D→Bool
 |a :: l,b :: m=>vt a b||(gT a b&&lp l m)
 |_,_=>false
def vu (n:Nat) (kd row:List D):List (List D)→List (List D)
 | []=>[row]
 |x :: xs=>if lp kd (x.take n)=true then row :: x :: xs else x :: vu n kd row xs
def acr (n:Nat) (kd vd:List D) (xs:List (List D)):List (List D):=
 match ep n kd xs with
 |some i=>xs.set i (kd++vd)
 |none=>vu n kd (kd++vd) xs
def putRow (un:Bool) (n:Nat) (kd vd:List D) (xs:List (List D)):List (List D):=
 match un with
 |true=>acr n kd vd xs
 |false=>yz n kd vd xs
def sD (cfg:aP) (t:TypeId) (c:C) (kv vv:SV):Prog Unit:=
 match gx cfg t with
 |some (kt,ki,ei)=>match pZ cfg kt,kv.key,vv.dM with
  |some sh,some kd,some vc=>do
   need (bD sh kd=true∧kd.length=ki.size∧kv.isAgg=ki.kind.agg∧vc.length=ei.size∧vv.isAgg=ei.kind.agg)
   let vd ←lg vc
   match c with
   | .aD r j hv _ e _ _=>.get r fun x=>do
     need (x.hv=hv∧r.isArg=false∧(e=cg ki ei∨e=gw (cg ki ei)))
     match x.at j with
     | .own e' xs=>do
       need (jI sh ki.size xs=true)
       cY r { x with cv:=x.cv+1,v:=x.v.setCell j (.own e' (putRow (eF e') ki.size kd vd xs)) }
     |_=>.fail
   |_=>.fail
  |_,_,_=>.fail
 |none=>.fail
def acs (cfg:aP) (t:TypeId) (c:C) (kv:SV):Prog SV:=
 match gx cfg t with
 |some (kt,ki,ei)=>match pZ cfg kt,kv.key,ei.zero with
  |some sh,some kd,some z=>do
   need (bD sh kd=true∧kd.length=ki.size∧kv.isAgg=ki.kind.agg∧z.length=ei.size∧(ei.kind.agg=true∨ei.size=1))
   match c with
   | .aD r j hv _ e _ _=>.get r fun x=>do
     need (x.hv=hv∧r.isArg=false∧e=cg ki ei)
     match x.at j with
     | .own e' xs=>do
       need (jI sh ki.size xs=true)
       cY r { x with cv:=x.cv+1,v:=x.v.setCell j (.own e' (if(ep ki.size kd xs).isSome=true then xs else xs++[kd++z])) }
       .ret (.aJ [(ei.kind.agg,(jl ki.size xs z (ep ki.size kd xs)).map .d),(false,[.d (.int .i64 ((ep ki.size kd xs).getD xs.length:Nat))])])
     |_=>.fail
   |_=>.fail
  |_,_,_=>.fail
 |none=>.fail
def yA (cfg:aP) (t:TypeId) (c st:C) (vv:SV):Prog Unit:=
 match gx cfg t,st,vv.dM with
 |some (_,ki,ei),.d (.int _ n),some vc=>do
  need (vc.length=ei.size∧vv.isAgg=ei.kind.agg)
  let vd ←lg vc
  match c with
  | .aD r j hv _ e _ _=>.get r fun x=>do
    need (x.hv=hv∧r.isArg=false∧e=cg ki ei)
    match x.at j with
    | .own e' xs=>do
      need (0≤n∧n<xs.length)
      cY r { x with cv:=x.cv+1,v:=x.v.setCell j (.own e' (xs.set n.toNat ((xs.getD n.toNat []).take ki.size++vd))) }
    |_=>.fail
  |_=>.fail
 |_,_,_=>.fail
def yB (cfg:aP) (t:TypeId) (dst:Nat):Prog SV:=
 match gx cfg t with
 |some (_,ki,ei)=>.ret (.one (.own (vp (cfg.un.contains dst) (cg ki ei)) []))
 |none=>.fail
def vz (cfg:aP) (t:TypeId) (c:C):Prog SV:=
 match gx cfg t with
 |some (_,ki,ei)=>do
  let xs ←oJ (cg ki ei) c
  .ret (ez .i64 xs.length)
 |none=>.fail
def acu (cfg:aP) (t:TypeId) (c:C):Prog SV:=
 match gx cfg t with
 |some (_,ki,ei)=>do
  let d ←jH c
  match d with
  | .sl e xs=>do need (e=cg ki ei);.ret (.one (.own jF [[.sl e xs],[]]))
  |_=>.fail
 |none=>.fail
def mh (em:Nat) (row:List D):List (Bool×List C):=[(sx em,(row.take (pU em)).map .d),(sy em,(row.drop (pU em)).map .d)]
def amT (c:C):Prog SV:=
 match c with
 | .aD r j hv _ e _ _=>.get r fun x=>do
   need (x.hv=hv∧r.isArg=false∧dL e=true)
   match x.at j with
   | .own e' [[.sl em []],[]]=>do need (e'=e);.ret (.aJ [(false,[.d (.bool false)])])
   | .own e' [[.sl em [row]],[]]=>do
     cY r { x with cv:=x.cv+1,v:=x.v.setCell j (.own e' [[.sl em [row]],[.int .i64 0]]) }
     .ret (.aJ ((false,[.d (.bool true)]) :: mh em row))
   | .own e' [[.sl em [row]],[.int .i64 0]]=>do need (e'=e);.ret (.aJ [(false,[.d (.bool false)])])
   |_=>.fail
 |_=>.fail
def acv (c:C):Prog SV:=
 match c with
 | .aD r j hv _ e _ _=>.get r fun x=>do
   need (x.hv=hv∧r.isArg=false∧dL e=true)
   match x.at j with
   | .own _ [[.sl em rows],.int .i64 n :: _]=>do need (0≤n∧n.toNat<rows.length);.ret (.aJ (mh em (rows.getD n.toNat [])))
   |_=>.fail
 |_=>.fail
def eO:List C→List Key
 | []=>[]
 | .ptr k _ :: cs=>k :: eO cs
 | .bW _ caps :: cs=>caps.map (·.1)++eO cs
 |_ :: cs=>eO cs
def dedup:List Key→List Key
 | []=>[]
 |k :: r=>k :: (dedup r).filter (·≠k)
def idx (k:Key):List Key→Nat
 | []=>0
 |k' :: r=>if k=k' then 0 else idx k r+1
def qa (cfg:aP):C→Prog C
 | .aD (.tmp u) j hv cv e k xs=>if cfg.keep u then .ret (.aD (.tmp u) j hv cv e k xs)else do let x ←jH (.aD (.tmp u) j hv cv e k xs);.ret (.d x)
 |c=>.ret c
def sE (cfg:aP):List C→Prog (List C)
 | []=>.ret []
 |c :: cs=>do let c' ←qa cfg c;let r ←sE cfg cs;.ret (c' :: r)
def mj (cfg:aP):SV→Prog SV
 | .one c=>do .ret (.one (←qa cfg c))
 | .agg cs=>do .ret (.agg (←sE cfg cs))
 |_=>.fail
def vA (cfg:aP):List SV→Prog (List SV)
 | []=>.ret []
 |v :: vs=>do let v' ←mj cfg v;let r ←vA cfg vs;.ret (v' :: r)
def canon (ks:List Key):C→Prog C
 | .d x=>.ret (.d x)
 | .aD r j hv cv e _ xs=>.get r fun x=>do
   need (x.hv=hv∧x.cv=cv)
   match x.at j with
   | .own _ _=>do
     need (∀k∈ks,r≠ .box k)
     .ret (.own e xs)
   | .d (.sl _ _)=>.ret (.d (.sl e xs))
   |_=>.fail
 | .ptr k off=>.ret (.ptr (.inb (idx k ks)) off)
 | .bW f caps=>.ret (.bW f (caps.map fun p=>(.inb (idx p.1 ks),p.2)))
 |_=>.fail
def oK (ks:List Key):List C→Prog (List C)
 | []=>.ret []
 |c :: cs=>do let c' ←canon ks c;let r ←oK ks cs;.ret (c' :: r)
def ke (ks:List Key):SV→Prog SV
 | .one c=>do .ret (.one (←canon ks c))
 | .agg cs=>do .ret (.agg (←oK ks cs))
 |_=>.fail
def qb (ks:List Key):List SV→Prog (List SV)
 | []=>.ret []
 |v :: vs=>do let v' ←ke ks v;let r ←qb ks vs;.ret (v' :: r)
def plain:C→Bool
 | .d _| .own _ _=>true
 |_=>false
def tok (ks:List Key):C→Bool
 | .d _| .own _ _| .dead=>true
 | .ptr k _=>ks.contains k
 |_=>false
def tc (ks:List Key):C→C
 | .ptr k off=>.ptr (.inb (idx k ks)) off
 |c=>c
def eG (n:Nat):C→Bool
 | .d _| .own _ _| .dead=>true
 | .ptr (.inb i) _=>decide (i<n)
 |_=>false
def bc (ks:List Key):C→C
 | .ptr (.inb i) off=>.ptr (ks.getD i default) off
 |c=>c
def sF (kk:List Key):List Key→Prog (List (List C))
 | []=>.ret []
 |k :: ks=>.get (.box k) fun x=>match x.v with
  | .agg cs=>do need (cs.all (tok kk)=true);let r ←sF kk ks;.ret (cs.map (tc kk) :: r)
  |_=>.fail
def vB:List Key→Prog (List Key)
 | []=>.ret []
 |k :: ks=>.get (.box k) fun x=>match x.v with
  | .agg cs=>do let r ←vB ks;.ret (eO cs++r)
  |_=>.fail
def qc:SV→List C→Bool
 | .agg [.ptr k off],[.ptr k' off']=>decide (k=k')&&Nat.beq off off'
 |_,_=>false
def nF (kk:List Key):List Key→List (List C)→Prog Unit
 | [],[]=>.ret ()
 |k :: ks,b :: bs=>.get (.box k) fun x=>do
  need (b.all (eG kk.length)=true)
  match qc x.v (b.map (bc kk))with
  |true=>nF kk ks bs
  |false=>do cY (.box k) { hv:=x.hv+1,cv:=x.cv,v:=.agg (b.map (bc kk)) };nF kk ks bs
 |_,_=>.fail
def escape (t:Nat):Nat→List (List C)→Prog Unit
 |_,[]=>.ret ()
 |i,b :: bs=>.get (.box (.esc t i)) fun x=>match x.v with
  | .undef=>do need (b.all plain=true);cY (.box (.esc t i)) { hv:=x.hv+1,cv:=x.cv,v:=.agg b };escape t (i+1) bs
  |_=>.fail
def vC (args:List SV) (l:List (Nat×Nat)):Bool:=
 l.all fun p=>match(args.getD p.1 .undef).cells.getD p.2 .dead with| .d _=>true|_=>false
def jJ (v:SV) (j:Nat):SV:=
 match v.cells.getD j .dead with
 | .own e ys=>v.setCell j (.d (.sl e ys))
 |_=>v
def gU:List (Nat×Nat)→List SV→List SV
 | [],args=>args
 |(i,j) :: r,args=>gU r (args.set i (jJ (args.getD i .undef) j))
def af1 (ks:List Key) (t:Nat):Key→Key
 | .inb i=>if i<ks.length then ks.getD i default else .esc t (i - ks.length)
 |k=>k
def back (ks:List Key) (t:Nat):C→Prog C
 | .d x=>.ret (.d x)
 | .own e xs=>.ret (.own e xs)
 | .ptr (.inb i) off=>.ret (.ptr (af1 ks t (.inb i)) off)
 | .bW f caps=>do need (caps=[]);.ret (.bW f [])
 |_=>.fail
def nG (ks:List Key) (t:Nat):List C→Prog (List C)
 | []=>.ret []
 |c :: cs=>do let c' ←back ks t c;let r ←nG ks t cs;.ret (c' :: r)
def oL (ks:List Key) (t:Nat):List (Bool×List C)→Prog (List (Bool×List C))
 | []=>.ret []
 |(b,cs) :: vs=>do let cs' ←nG ks t cs;let r ←oL ks t vs;.ret ((b,cs') :: r)
def ia (ks:List Key) (t:Nat):SV→Prog SV
 | .one c=>do .ret (.one (←back ks t c))
 | .agg cs=>do .ret (.agg (←nG ks t cs))
 | .aJ vs=>do .ret (.aJ (←oL ks t vs))
 | .undef=>.fail
def acw (cfg:aP) (f:FuncId) (af2:List SV) (t:Nat):Prog SV:=
 match cfg.Γ t f with
 |none=>.fail
 |some F=>do
  let args ←vA cfg af2
  let more ←vB (dedup (eO (args.flatMap SV.cells)))
  let ks:=dedup (eO (args.flatMap SV.cells)++more)
  let c9 ←qb ks args
  let bs ←sF ks ks
  match F c9 bs with
  |none=>.fail
  |some r=>do
   need (ks.length≤r.boxes.length∧vC c9 r.aB=true)
   nF ks ks (r.boxes.take ks.length)
   escape t 0 (r.boxes.drop ks.length)
   ia ks t r.v
def acy (o:Operand):Prog (FuncId×List SV):=
 match o with
 | .func f=>.ret (f,[])
 |o=>do
  match ←dw o with
  | .bW f caps=>.ret (f,caps.map fun p=>.one (.ptr p.1 p.2))
  |_=>.fail
def lq (u:Operand) (r:ah):Bool:=
 match u,r with
 | .tmp u,.tmp t=>t==u
 |_,_=>false
def isVar (cfg:aP) (o:Operand):Bool:=
 match o with
 | .tmp u=>cfg.var.contains u
 |_=>false
def amU (cfg:aP) (dst:Nat) (r:ah):Bool:=
 match r with
 | .tmp u=> !cfg.var.contains u||cfg.res.contains dst
 | .box (.loc _)=>cfg.res.contains dst
 |_=>false
def yC (cfg:aP) (c:C) (r:ah):Bool:=
 match r with
 | .tmp u=> !cfg.var.contains u||(match c with| .ptr (.loc t) _=>cfg.res.contains t|_=>false)
 | .box (.loc _)=>(match c with| .ptr (.loc t) _=>cfg.res.contains t|_=>false)
 |_=>false
def qd (self:ah×Nat) (u:Operand):C→Prog C
 | .aD r j hv cv e k xs=>if lq u r then j9 (some self) (lq u) (.aD r j hv cv e k xs)else .ret (.aD r j hv cv e k xs)
 |c=>.ret c
def qe (r:ah) (u:Operand):Nat→List C→Prog (List C)
 |_,[]=>.ret []
 |i,c :: cs=>do let c' ←qd (r,i) u c;let cs' ←qe r u (i+1) cs;.ret (c' :: cs')
def sG (r:ah) (u:Operand):Nat→List (Bool×List C)→Prog (List (Bool×List C))
 |_,[]=>.ret []
 |i,(b,cs) :: vs=>do let cs' ←qe r u i cs;let vs' ←sG r u (i+cs.length) vs;.ret ((b,cs') :: vs')
def iV (r:ah) (u:Operand):SV→Prog SV
 | .one c=>do .ret (.one (←qd (r,0) u c))
 | .agg cs=>do .ret (.agg (←qe r u 0 cs))
 | .aJ vs=>do .ret (.aJ (←sG r u 0 vs))
 | .undef=>.fail
def qf:Option Operand→Prog (Option Int)
 |none=>.ret none
 |some o=>do .ret (some (←kZ (←dw o)))
def yD (af3:Bool):List SV→Prog SV
 | [.one (.d (.int k a)),.one (.d (.int _ b))]=>.ret (ez k (if af3 then(if b<a then b else a)else(if b>a then b else a)))
 |_=>.fail
def bp (cfg:aP) (op:Op) (dst:Nat):Prog SV:=
 match op with
 | .move x=>do
   let v ←ev x
   if isVar cfg x then .ret v else iV (.tmp dst) x v
 | .assign x=>do
   let v ←ev x
   jG (.tmp dst) (amU cfg dst) v
 | .pick c a b=>do
   let b' ←vq (←dw c)
   if b'=true then ev a else ev b
 | .alloc t=>match cfg.ti t with
   |some { size,zero:=some z, .. }=>do
    need (z.length=size)
    .get (.box (.loc dst)) fun x=>match x.v with
     | .undef=>do cY (.box (.loc dst)) { hv:=x.hv+1,cv:=x.cv,v:=.agg (z.map .d) };.ret (.one (.ptr (.loc dst) 0))
     |_=>.fail
   |_=>.fail
 | .box _ x=>do
   let v ←ev x
   match v.dM with
   |some cs=>do
    let cs' ←lf (fun n=>(.box (.loc dst),n)) (yC cfg (.ptr (.loc dst) 0)) 0 cs
    .get (.box (.loc dst)) fun x=>match x.v with
     | .undef=>do cY (.box (.loc dst)) { hv:=x.hv+1,cv:=x.cv,v:=.agg cs' };.ret (.one (.ptr (.loc dst) 0))
     |_=>.fail
   |none=>.fail
 | .build t ps=>acn cfg t ps.toList
 | .buildSlice t len ps=>aco cfg t len ps.toList
 | .load t a=>match cfg.ti t with
   |some i=>do oI i (←dw a)
   |none=>.fail
 | .nilCheck x=>do
   match ←dw x with
   | .ptr k o=>.ret (.one (.ptr k o))
   | .ea r j hv e i o=>.ret (.one (.ea r j hv e i o))
   | .da ds=>.ret (.one (.da ds))
   |_=>.fail
 | .binOp op t x y _=>do
   match ←ev x,←ev y with
   | .one a,.one b=>oH cfg t op a b
   | .agg xs,.agg ys=>ack cfg t op xs ys
   |_,_=>.fail
 | .unOp op _ x=>do
   match op,←dw x with
   | .neg,.d (.int k n)=>.ret (ez k (k.wrap (0 - n)))
   | .xor,.d (.int k n)=>pW .xor k (if k.signed then -1 else k.max) n
   | .not,.d (.bool b)=>.ret (gd (!b))
   |_,_=>.fail
 | .convert s t x=>do pY cfg s t (←ev x)
 | .makeFunc (.func f) first captured=>do
   need (first= #[])
   let vs ←nC captured.toList
   match vs.mapM (fun v=>match v with| .one (.ptr k o)=>some (k,o)|_=>none)with
   |some l=>.ret (.one (.bW f l))
   |none=>.fail
 | .makeSlice t l c=>do
   let n ←kZ (←dw l)
   let m ←kZ (←dw c)
   acp cfg t n m
 | .slice t x lo hi none=>match cfg.ti t with
   |some { kind:=.str, .. }=>do
    let v ←ev x
    let l ←qf lo
    let h ←qf hi
    acq v l h
   |some { kind:=.slice et, .. }=>match cfg.ti et with
    |some i=>do
     let v ←ev x
     let l ←qf lo
     let h ←qf hi
     nE i.size v l h
    |none=>.fail
   |_=>.fail
 | .fieldAddr t x f=>do .ret (.one (←yq cfg t (←dw x) f))
 | .field t x f=>do
   match cfg.ti t,←ev x with
   |some { kind:=.struct fs, .. },.agg cs=>match fs[f]? with
    |some (o,ft)=>match cfg.ti ft with
     |some i=>jk i cs o
     |none=>.fail
    |none=>.fail
   |_,_=>.fail
 | .indexAddr t x ix=>match x with
   | .global g=>do
     let n ←kZ (←dw ix)
     .ret (.one (←acm cfg t g n))
   |x=>do
    let c ←dw x
    let n ←kZ (←dw ix)
    .ret (.one (←yu cfg t c n))
 | .index t x ix=>do
   let v ←ev x
   let n ←kZ (←dw ix)
   yw cfg t v n
 | .extract x n=>do
   match ←ev x with
   | .aJ vs=>match vs[n]? with
     |some (true,cs)=>iV (.tmp dst) x (.agg cs)
     |some (false,[c])=>iV (.tmp dst) x (.one c)
     |_=>.fail
   |_=>.fail
 | .call { callee:=.builtin .len,args,argTypes }=>match args.toList,argTypes.toList with
   | [x],[t]=>match cfg.ti t with
     |some { kind:=.str, .. }=>do nD true (←ev x)
     |some { kind:=.slice _, .. }=>do nD false (←ev x)
     |some { kind:=.map _ _, .. }=>do vz cfg t (←dw x)
     |_=>.fail
   |_,_=>.fail
 | .makeMap t none=>yB cfg t dst
 | .lookup t x ix ok=>do
   let c ←dw x
   let v ←ev ix
   yy cfg t c v ok
 | .range t x=>do acu cfg t (←dw x)
 | .next x false=>do amT (←dw x)
 | .entry x=>do acv (←dw x)
 | .mapEntry t m k=>do
   let c ←dw m
   let v ←ev k
   acs cfg t c v
 | .call { callee:=.builtin .append,args,argTypes }=>match args.toList,argTypes.toList with
   | [x,y],[t,t2]=>match cfg.ti t with
     |some { kind:=.slice et, .. }=>match cfg.ti et with
      |some i=>match cfg.ti t2 with
       |some { kind:=.int .i64, .. }=>do
        let c ←dw x
        let n ←kZ (←dw y)
        vr i c n
       |_=>do
        let c ←dw x
        let c2 ←dw y
        let ys ←sC cfg i t2 c2
        pX i c ys
      |none=>.fail
     |_=>.fail
   |_,_=>.fail
 | .call { callee:=.builtin .cap,args,argTypes }=>match args.toList,argTypes.toList with
   | [x],[t]=>match cfg.ti t with
     |some { kind:=.slice _, .. }=>do afZ (←dw x)
     |_=>.fail
   |_,_=>.fail
 | .call { callee:=.builtin .min,args, .. }=>do yD true (←nC args.toList)
 | .call { callee:=.builtin .max,args, .. }=>do yD false (←nC args.toList)
 | .call { callee:=.value o,args, .. }=>do
   let (f,caps) ←acy o
   let vs ←nC args.toList
   acw cfg f (vs++caps) dst
 |_=>.fail
def mm (cfg:aP) (t:Nat) (v:SV):Prog Unit:=
 .get (.tmp t) fun x=>do
  need (t<cfg.N)
  cY (.tmp t) { hv:=x.hv+1,cv:=x.cv,v }
def af4 (ops:Array Oper) (j:Nat):Prog (Option Bool):=
 match(ops[j]?).bind (·.dst)with
 |some t=>.get (.tmp t) fun x=>match x.v with
  | .one (.d (.bool b))=>.ret (some b)
  | .aJ []=>.ret none
  |_=>.fail
 |none=>.fail
def jK (cfg:aP) (o:Oper):Prog Unit:=
 match o.op,o.dst with
 | .store t a x,none=>match cfg.ti t with
   |some i=>do
    let c ←dw a
    let v ←ev x
    yp (yC cfg c) i c v
   |none=>.fail
 | .mapUpdate t m k x,none| .insert t m k x,none=>do
   let c ←dw m
   let vk ←ev k
   let vx ←ev x
   sD cfg t c vk vx
 | .entryStore t m st x,none=>do
   let c ←dw m
   let s ←dw st
   let vx ←ev x
   yA cfg t c s vx
 |op,some d=>do mm cfg d (←bp cfg op d)
 |_,none=>.fail
def iW (cfg:aP) (ops:Array Oper) (o:Oper):Prog Unit:=
 match o.guard with
 |none=>jK cfg o
 |some (j,want)=>do
  let b ←af4 ops j
  if b=some want then jK cfg o
  else match o.dst with
   |some d=>mm cfg d (.aJ [])
   |none=>.ret ()
def lu (cfg:aP) (ops:Array Oper):List Oper→St→Option St
 | [],s=>some s
 |o :: r,s=>match(iW cfg ops o).exec s with
  |some (_,s')=>lu cfg ops r s'
  |none=>none
structure PS where
 slots:List (Nat×SV)
 boxes:List (Key×List C)
 args:List SV
def jm {α:Type} (k:Key):List (Key×α)→Option α
 | []=>none
 |(u,a) :: r=>if k=u then some a else jm k r
def PS.st (p:PS):St
 | .tmp t=>{ v:=(lk t p.slots).getD .undef }
 | .box k=>{ v:=match jm k p.boxes with|some cs=>.agg cs|none=>.undef }
 | .arg i=>{ v:=p.args.getD i .undef }
def fI (s:St) (bk:List Key):C→C
 | .aD r j hv cv e k xs=>if(s r).hv=hv∧(s r).cv=cv then .aD r j 0 0 e k xs else .dead
 | .ea _ _ _ _ _ _=>.dead
 | .ptr k off=>if bk.contains k then .ptr k off else .dead
 | .bW f caps=>if caps.all (fun p=>bk.contains p.1)then .bW f caps else .dead
 |c=>c
def eV (s:St) (bk:List Key):List C→List C
 | []=>[]
 |c :: cs=>fI s bk c :: eV s bk cs
def qg (s:St) (bk:List Key):List (Bool×List C)→List (Bool×List C)
 | []=>[]
 |(b,cs) :: r=>(b,eV s bk cs) :: qg s bk r
def fh (s:St) (bk:List Key):SV→SV
 | .one c=>.one (fI s bk c)
 | .agg cs=>.agg (eV s bk cs)
 | .aJ vs=>.aJ (qg s bk vs)
 | .undef=>.undef
def yE (t:Nat) (v:SV) (r:List (Nat×SV)):List (Nat×SV):=
 match v with
 | .undef=>r
 |v=>(t,v) :: r
def sH (k:Key) (v:SV) (r:List (Key×List C)):List (Key×List C):=
 match v with
 | .agg cs=>(k,cs) :: r
 |_=>r
def vD (s:St) (bk:List Key):List Nat→List (Nat×SV)
 | []=>[]
 |t :: ts=>yE t (fh s bk (s (.tmp t)).v) (vD s bk ts)
def vE (s:St) (bk:List Key):List Key→List (Key×List C)
 | []=>[]
 |k :: ks=>sH k (fh s bk (s (.box k)).v) (vE s bk ks)
def qh (s:St) (bk:List Key):Nat→Nat→List SV
 |_,0=>[]
 |i,n+1=>fh s bk (s (.arg i)).v :: qh s bk (i+1) n
def fin (s:St) (keys:List Nat) (aQ:List Key) (nargs:Nat):PS:=
 { slots:=vD s aQ keys,boxes:=vE s aQ aQ,args:=qh s aQ 0 nargs }
theorem aHu {α β:Type} (c:Prop) [Decidable c] (p q:Prog α) (f:α→Prog β):(if c then p else q).bind f=if c then p.bind f else q.bind f:=by split<;>rfl
theorem aHv {α:Type} (c:Prop) [Decidable c] (p q:Prog α) (s:St):(if c then p else q).exec s=if c then p.exec s else q.exec s:=by split<;>rfl
end Go.Vs
namespace Go.Vs
def au {α β:Type} (R:α→β→Prop):List α→List β→Prop
 | [],[]=>True
 |a :: as,b :: bs=>R a b∧au R as bs
 |_,_=>False
def acz:NK→Value→Prop
 | .ptr,v=>v= .pointer none
 | .func,v=>v= .nilFunc
 | .iface,v=>v= .nilIface
 | .map,v=>v= .map none
 | .chan,v=>v= .chan none
def fj:Value→Bool
 | .agg _| .tuple _=>false
 |_=>true
def cP:Value→Option Nat
 | .slice (some ad) _ _=>some ad.block
 | .map (some b)=>some b
 | .pointer (some ad)=>some ad.block
 |_=>none
def dW (e b:Nat):Value:=
 match dL e with
 |true=>.pointer (some ⟨b,0,none⟩)
 |false=>.map (some b)
theorem jn (e b:Nat):cP (dW e b)=some b:=by unfold dW;split<;>rfl
theorem acA (e b:Nat):fj (dW e b)=true:=by unfold dW;split<;>rfl
theorem lz {e:Nat} (h:dL e=false) (b:Nat):dW e b= .map (some b):=by simp only[dW,h]
theorem af5 {e:Nat} (h:dL e=true) (b:Nat):dW e b= .pointer (some ⟨b,0,none⟩):=by simp only[dW,h]
theorem sI {e b c:Nat} (h:dW e b=dW e c):b=c:=by
 have:=congrArg cP h
 rw[jn,jn]at this
 exact Option.some.inj this
theorem amV {e b:Nat} {ad:Option Addr} {l c:Nat} (h:Value.slice ad l c=dW e b):False:=by
 unfold dW at h;split at h<;>cases h
theorem aHw (e b:Nat):(dW e b).cells= #[dW e b]:=by unfold dW;split<;>rfl
def avO (x:List D) (rest:List (List D)) (since:Nat) (seen:Array Nat) (stepped:Nat):Prop:=
 ∃e ys,x=[.sl e ys]∧aW e=true∧dL e=false∧eF e=false∧since=ys.length∧stepped=ys.length∧rest=[hY seen.toList.reverse]
def fC (agg:Bool) (n:Nat) (v:Value):Prop:=
 match agg with
 |true=>∃cs:Array Value,v= .agg cs∧cs.size=n
 |false=>fj v=true∧n=1
def lA (en:MapEntry):List Value:=en.key.cells.toList++en.val.cells.toList
def mo (e:Nat) (en:MapEntry):Prop:=fC (sx e) (pU e) en.key∧fC (sy e) (mVl e) en.val
structure ic (e aT:Nat) (es:List MapEntry):Prop where
 ok:∀en∈es,mo e en
 born:∀(i:Nat) en,es[i]? =some en→en.born=i
 aT:aT=es.length
 nd:es.Pairwise fun a b=>a.key≠b.key
mutual
def bL (w:World) (Z:Nat→Prop):D→Value→Prop
 | .int k n,v=>v= .int k n
 | .bool b,v=>v= .bool b
 | .str s,v=>v= .string ⟨s.toArray⟩
 | .nil,v=>v= .slice none 0 0
 | .sl e xs,v=>match aW e with
   |false=>∃(ad:Addr) (cap:Nat),v= .slice (some ad) xs.length cap∧(cap=0∨ad.spot=none∧Z ad.block)∧xs.length≤cap∧cq w Z e xs ad.block ad.off
   |true=>∃b,v=dW e b∧Z b∧match dL e with
    |false=>∃(es:Array MapEntry) (aT:Nat) (es':List MapEntry),w.heap[b]? =some (.map es aT)∧ic (oE e) aT es.toList∧dP w Z xs es'∧es'.Perm es.toList∧(eF e=false→es'=es.toList)
    |true=>qi w Z xs b
 | .aK k,v=>acz k v
def dK (w:World) (Z:Nat→Prop):List D→Nat→Nat→Prop
 | [],_,_=>True
 |d :: ds,b,o=>(∃v,w.cell? ⟨b,o,none⟩=some v∧bL w Z d v)∧dK w Z ds b (o+1)
def cq (w:World) (Z:Nat→Prop) (e:Nat):List (List D)→Nat→Nat→Prop
 | [],_,_=>True
 |x :: xs,b,o=>x.length=e∧dK w Z x b o∧cq w Z e xs b (o+e)
def gy (w:World) (Z:Nat→Prop):List D→List Value→Prop
 | [],[]=>True
 |d :: ds,v :: vs=>bL w Z d v∧gy w Z ds vs
 |_,_=>False
def qi (w:World) (Z:Nat→Prop):List (List D)→Nat→Prop
 |x :: rest,b=>∃(m since:Nat) (seen:Array Nat) (stepped:Nat),w.heap[b]? =some (.mapIter (some m) since seen stepped)∧gy w Z x [.map (some m)]∧avO x rest since seen stepped
 | [],_=>False
def dP (w:World) (Z:Nat→Prop):List (List D)→List MapEntry→Prop
 | [],[]=>True
 |x :: xs,en :: es=>gy w Z x (lA en)∧dP w Z xs es
 |_,_=>False
end
def cH (w:World) (Z:Nat→Prop) (e:Nat) (xs:List (List D)) (b:Nat):Prop:=
 match dL e with
 |true=>qi w Z xs b
 |false=>∃(es:Array MapEntry) (aT:Nat) (es':List MapEntry),w.heap[b]? =some (.map es aT)∧ic (oE e) aT es.toList∧dP w Z xs es'∧es'.Perm es.toList∧(eF e=false→es'=es.toList)
theorem cH.mu {w:World} {Z:Nat→Prop} {e:Nat} {xs:List (List D)} {b:Nat} (he:dL e=false):cH w Z e xs b↔ ∃(es:Array MapEntry) (aT:Nat) (es':List MapEntry),w.heap[b]? =some (.map es aT)∧ic (oE e) aT es.toList∧dP w Z xs es'∧es'.Perm es.toList∧(eF e=false→es'=es.toList):=by
 simp only[cH,he]
theorem amW {e:Nat} (h:eF e=false):oE e=e:=by unfold oE;rw[h]
theorem cH.mp {w:World} {Z:Nat→Prop} {e:Nat} {xs:List (List D)} {b:Nat} (he:dL e=false) (hu:eF e=false):cH w Z e xs b↔ ∃(es:Array MapEntry) (aT:Nat),w.heap[b]? =some (.map es aT)∧ic e aT es.toList∧dP w Z xs es.toList:=by
 rw[cH.mu he]
 rw[amW hu]
 constructor
 ·rintro ⟨es,aT,es',h1,h2,h3,_,h5⟩
  rw[h5 hu]at h3
  exact⟨es,aT,h1,h2,h3⟩
 ·rintro ⟨es,aT,h1,h2,h3⟩
  exact⟨es,aT,es.toList,h1,h2,h3,.refl _,fun _=>rfl⟩
theorem cH.it {w:World} {Z:Nat→Prop} {e:Nat} {xs:List (List D)} {b:Nat} (he:dL e=true):cH w Z e xs b↔qi w Z xs b:=by
 simp only[cH,he]
theorem bL.iX {w:World} {Z:Nat→Prop} {e:Nat} {xs:List (List D)} {v:Value} (he:aW e=false):
  bL w Z (.sl e xs) v↔ ∃(ad:Addr) (cap:Nat),v= .slice (some ad) xs.length cap∧(cap=0∨ad.spot=none∧Z ad.block)∧xs.length≤cap∧cq w Z e xs ad.block ad.off:=by
 simp only[bL,he]
theorem bL.kf {w:World} {Z:Nat→Prop} {e:Nat} {xs:List (List D)} {v:Value} (he:aW e=true):
  bL w Z (.sl e xs) v↔ ∃b,v=dW e b∧Z b∧cH w Z e xs b:=by
 simp only[bL,he,cH]
 cases dL e<;>rfl
theorem cell_of_heap {w w':World} {b:Nat} (h:w'.heap[b]? =w.heap[b]?) (o:Nat) (sp:Option Nat):w'.cell? ⟨b,o,sp⟩=w.cell? ⟨b,o,sp⟩:=by
 simp only[World.cell?,h]
section mono
variable {w w':World} {Z Z':Nat→Prop} (hZ:∀b,Z b→w'.heap[b]? =w.heap[b]? ∧Z' b)
include hZ
mutual
theorem bL.mono:∀(d:D) (v:Value),bL w Z d v→bL w' Z' d v
 | .int _ _,_,h=>h
 | .bool _,_,h=>h
 | .str _,_,h=>h
 | .nil,_,h=>h
 | .aK _,_,h=>h
 | .sl e xs,v,h=>by
   by_cases he:aW e=true
   ·rw[bL.kf he]at h ⊢
    obtain⟨b,h1,h2,h3⟩:=h
    refine⟨b,h1,(hZ _ h2).2,?_⟩
    by_cases hi:dL e=true
    ·exact(cH.it hi).2 (qi.mono xs b (hZ _ h2).1 ((cH.it hi).1 h3))
    ·have hi:dL e=false:=by simpa using hi
     obtain⟨es,aT,es',h3,h4,h5,h6⟩:=(cH.mu hi).1 h3
     exact(cH.mu hi).2 ⟨es,aT,es',by rw[(hZ _ h2).1];exact h3,h4,dP.mono xs _ h5,h6⟩
   ·have he:aW e=false:=by simpa using he
    rw[bL.iX he]at h ⊢
    obtain⟨ad,cap,h1,h2,h3,h5⟩:=h
    rcases h2 with h2|⟨h2,h4⟩
    ·have:xs=[]:=List.length_eq_zero_iff.1 (by omega)
     subst this
     exact⟨ad,cap,h1,.inl h2,h3,trivial⟩
    ·exact⟨ad,cap,h1,.inr ⟨h2,(hZ _ h4).2⟩,h3,cq.mono e xs _ _ (hZ _ h4).1 h5⟩
theorem dK.mono:∀(ds:List D) (b o:Nat),w'.heap[b]? =w.heap[b]? →dK w Z ds b o→dK w' Z' ds b o
 | [],_,_,_,_=>trivial
 |d :: ds,b,o,hb,h=>by
  obtain⟨⟨v,h1,h2⟩,h3⟩:=h
  exact⟨⟨v,by rw[cell_of_heap hb];exact h1,bL.mono d v h2⟩,dK.mono ds b (o+1) hb h3⟩
theorem cq.mono (e:Nat):∀(xs:List (List D)) (b o:Nat),w'.heap[b]? =w.heap[b]? →cq w Z e xs b o→cq w' Z' e xs b o
 | [],_,_,_,_=>trivial
 |x :: xs,b,o,hb,h=>⟨h.1,dK.mono x b o hb h.2.1,cq.mono e xs b (o+e) hb h.2.2⟩
theorem gy.mono:∀(ds:List D) (vs:List Value),gy w Z ds vs→gy w' Z' ds vs
 | [],[],_=>trivial
 |d :: ds,v :: vs,h=>⟨bL.mono d v h.1,gy.mono ds vs h.2⟩
theorem qi.mono:∀(xs:List (List D)) (b:Nat),w'.heap[b]? =w.heap[b]? →qi w Z xs b→qi w' Z' xs b
 | [],_,_,h=>h.elim
 |x :: rest,b,hb,h=>by
  obtain⟨m,since,seen,stepped,h1,h2,h3⟩:=h
  exact⟨m,since,seen,stepped,by rw[hb];exact h1,gy.mono x _ h2,h3⟩
theorem dP.mono:∀(xs:List (List D)) (es:List MapEntry),dP w Z xs es→dP w' Z' xs es
 | [],[],_=>trivial
 |x :: xs,en :: es,h=>⟨gy.mono x _ h.1,dP.mono xs es h.2⟩
end
theorem cH.mono (e:Nat) (xs:List (List D)) (b:Nat) (hb:w'.heap[b]? =w.heap[b]?) (h:cH w Z e xs b):cH w' Z' e xs b:=by
 by_cases hi:dL e=true
 ·exact(cH.it hi).2 (qi.mono hZ xs b hb ((cH.it hi).1 h))
 ·have hi:dL e=false:=by simpa using hi
  obtain⟨es,aT,es',h3,h4,h5,h6⟩:=(cH.mu hi).1 h
  exact(cH.mu hi).2 ⟨es,aT,es',by rw[hb];exact h3,h4,dP.mono hZ xs _ h5,h6⟩
end mono
section rows
variable {w:World} {Z:Nat→Prop} {b e:Nat}
theorem dK.get:∀{ds:List D} {o j:Nat} {d:D},dK w Z ds b o→ds[j]? =some d→∃v,w.cell? ⟨b,o+j,none⟩=some v∧bL w Z d v
 | [],_,_,_,_,h=>by simp at h
 |x :: ds,o,0,d,h,hj=>by
  simp only[List.getElem?_cons_zero,Option.some.injEq]at hj
  subst hj
  exact h.1
 |x :: ds,o,j+1,d,h,hj=>by
  have:=dK.get (j:=j) h.2 (by simpa using hj)
  rw[show o+(j+1)=o+1+j by omega]
  exact this
theorem dK.drop:∀{ds:List D} {o:Nat} (j:Nat),dK w Z ds b o→dK w Z (ds.drop j) b (o+j)
 |ds,o,0,h=>by simpa using h
 | [],o,j+1,_=>by simp[dK]
 |x :: ds,o,j+1,h=>by
  have:=dK.drop (ds:=ds) (o:=o+1) j h.2
  rw[show o+(j+1)=o+1+j by omega]
  simpa using this
theorem dK.take:∀{ds:List D} {o:Nat} (j:Nat),dK w Z ds b o→dK w Z (ds.take j) b o
 |ds,o,0,h=>by simp[dK]
 | [],o,j+1,_=>by simp[dK]
 |x :: ds,o,j+1,h=>⟨h.1,dK.take j h.2⟩
theorem cq.append:∀{xs ys:List (List D)} {o:Nat},cq w Z e xs b o→cq w Z e ys b (o+xs.length * e)→cq w Z e (xs++ys) b o
 | [],ys,o,_,h=>by simpa using h
 |x :: xs,ys,o,h,k=>⟨h.1,h.2.1,cq.append h.2.2 (by rw[show o+e+xs.length * e=o+(x :: xs).length * e by simp[Nat.add_mul];omega];exact k)⟩
theorem cq.get:∀{xs:List (List D)} {o i:Nat} {x:List D},cq w Z e xs b o→xs[i]? =some x→x.length=e∧dK w Z x b (o+i * e)
 | [],_,_,_,_,h=>by simp at h
 |y :: xs,o,0,x,h,hj=>by
  simp only[List.getElem?_cons_zero,Option.some.injEq]at hj
  subst hj
  exact⟨h.1,by simpa using h.2.1⟩
 |y :: xs,o,i+1,x,h,hj=>by
  have:=cq.get (i:=i) h.2.2 (by simpa using hj)
  rw[show o+(i+1) * e=o+e+i * e by rw[Nat.add_mul];omega]
  exact this
theorem cq.drop:∀{xs:List (List D)} {o:Nat} (k:Nat),cq w Z e xs b o→cq w Z e (xs.drop k) b (o+k * e)
 |xs,o,0,h=>by simpa using h
 | [],o,k+1,_=>by simp[cq]
 |x :: xs,o,k+1,h=>by
  have:=cq.drop (xs:=xs) (o:=o+e) k h.2.2
  rw[show o+(k+1) * e=o+e+k * e by rw[Nat.add_mul];omega]
  simpa using this
theorem cq.take:∀{xs:List (List D)} {o:Nat} (k:Nat),cq w Z e xs b o→cq w Z e (xs.take k) b o
 |xs,o,0,h=>by simp[cq]
 | [],o,k+1,_=>by simp[cq]
 |x :: xs,o,k+1,h=>⟨h.1,h.2.1,cq.take k h.2.2⟩
theorem cq.cW:∀{xs:List (List D)} {o:Nat},(∀(i:Nat) x,xs[i]? =some x→x.length=e∧dK w Z x b (o+i * e))→cq w Z e xs b o
 | [],_,_=>trivial
 |x :: xs,o,h=>⟨(h 0 x rfl).1,by simpa using(h 0 x rfl).2,cq.cW fun i y hy=>by
    have:=h (i+1) y (by simpa using hy)
    rw[show o+(i+1) * e=o+e+i * e by rw[Nat.add_mul];omega]at this
    exact this⟩
theorem dK.cW:∀{ds:List D} {o:Nat},(∀(j:Nat) d,ds[j]? =some d→∃v,w.cell? ⟨b,o+j,none⟩=some v∧bL w Z d v)→dK w Z ds b o
 | [],_,_=>trivial
 |d :: ds,o,h=>⟨h 0 d rfl,dK.cW fun j y hy=>by
    have:=h (j+1) y (by simpa using hy)
    rw[show o+(j+1)=o+1+j by omega]at this
    exact this⟩
theorem cq.len {xs:List (List D)} {o:Nat} (h:cq w Z e xs b o):∀x∈xs,x.length=e:=by
 intro x hx
 obtain⟨i,hi⟩:=List.getElem?_of_mem hx
 exact(h.get hi).1
end rows
structure Ctx where
 P:Program
 N:Nat
 base:Nat
 w0:World
 E0:Nat→Prop
 Z0:Nat→Prop
 argv:Array Value
 gA:Key→Option Nat
def avP (n:String):Option (List Value):=
 if n== "internal/strconv.uint64pow10" then some (([1,10,100,1000,10000,100000,1000000,10000000,100000000,1000000000,10000000000,100000000000,1000000000000,10000000000000,100000000000000,1000000000000000,10000000000000000,100000000000000000,1000000000000000000,10000000000000000000]:List Int).map fun n=>.int .u64 n)else none
def af6:Nat→List Global→List (Nat×List Value)
 |_,[]=>[]
 |i,g :: r=>match avP g.name with
  |some l=>(i,l) :: af6 (i+1) r
  |none=>af6 (i+1) r
def oM (P:Program):List (Nat×List Value):=af6 0 P.globals.toList
def mq (w:World) (g:Nat) (l:List Value):Prop:=∀j:Nat,w.cell? ⟨g,j,none⟩=l[j]?
theorem mq.get {w:World} {g:Nat} {l:List Value} (h:mq w g l) {j:Nat} {v:Value} (hj:l[j]? =some v):w.cell? ⟨g,j,none⟩=some v:=by rw[h j,hj]
def avQ (K:Ctx):Prop:=∀g l,(g,l)∈oM K.P→g<K.base∧K.Z0 g∧¬K.E0 g∧mq K.w0 g l
abbrev bX:=ah×Option Nat
def flat:Value→List Value
 | .agg cs=>cs.toList
 | .tuple vs=>vs.toList.flatMap fun v=>v.cells.toList
 |v=>[v]
theorem jo {v:Value} (h:fj v=true):v.cells= #[v]:=by cases v<;>simp_all [fj,Value.cells]
theorem vF {v:Value} (h:fj v=true):flat v=[v]:=by cases v<;>simp_all [fj,flat]
def bP (K:Ctx) (β:Key→Option Nat) (a:Act) (w:World):ah→Nat→Option Value
 | .tmp t,j=>(flat (a.tmps.getD t undef))[j]?
 | .box k,j=>(β k).bind fun b=>w.cell? ⟨b,j,none⟩
 | .arg i,j=>(flat (K.argv.getD i undef))[j]?
def ax (K:Ctx) (β:Key→Option Nat) (Z:Nat→Prop) (s:St) (a:Act) (w:World):C→Value→Prop
 | .d x,v=>bL w Z x v
 | .own e xs,v=>match aW e with
   |false=>∃(ad:Addr) (cap:Nat),v= .slice (some ad) xs.length cap∧ad.spot=none∧xs.length≤cap∧cq w Z e xs ad.block ad.off
   |true=>∃b,v=dW e b∧cH w Z e xs b
 | .aD r j hv cv e k xs,v=>match aW e with
   |true=>∃b,v=dW e b∧hv≤(s r).hv∧cv≤(s r).cv∧
    ((s r).hv=hv→(s r).at j≠ .dead→bP K β a w r j=some (dW e b)∧∃ys,((s r).at j= .own e ys∨(s r).at j= .d (.sl e ys))∧((s r).cv=cv→xs=ys))
   |false=>∃(dU:Addr) (cap':Nat),v= .slice (some dU) xs.length cap'∧dU.spot=none∧xs.length≤cap'∧hv≤(s r).hv∧cv≤(s r).cv∧
    ((s r).hv=hv→(s r).at j≠ .dead→∃(ad:Addr) (len cap:Nat),bP K β a w r j=some (.slice (some ad) len cap)∧ad.spot=none∧dU.block=ad.block∧
      (dU.off=ad.off+k * e∨cap'=0)∧dU.off≤ad.off+cap * e∧cap'+k=cap∧k+xs.length≤len∧len≤cap∧
      ∃ys,((s r).at j= .own e ys∨(s r).at j= .d (.sl e ys))∧((s r).cv=cv→xs=(ys.drop k).take xs.length))
 | .ea r j hv e i off,v=>∃(b o:Nat),v= .pointer (some ⟨b,o,none⟩)∧hv≤(s r).hv∧
    ((s r).hv=hv→(s r).at j≠ .dead→∃(ad:Addr) (len cap:Nat),bP K β a w r j=some (.slice (some ad) len cap)∧ad.spot=none∧b=ad.block∧o=ad.off+i * e+off∧
      ∃ys,(s r).at j= .own e ys∨(s r).at j= .d (.sl e ys))
 | .da xs,v=>∃(b o:Nat),v= .pointer (some ⟨b,o,none⟩)∧Z b∧dK w Z xs b o
 | .ptr k off,v=>∃b,β k=some b∧v= .pointer (some ⟨b,off,none⟩)
 | .bW f caps,v=>∃vs:Array Value,v= .func (.func f) #[] vs∧au (fun u p=>∃b,β p.1=some b∧u= .pointer (some ⟨b,p.2,none⟩)) vs.toList caps
 | .dead,_=>True
section
variable {K:Ctx} {β:Key→Option Nat} {Z:Nat→Prop} {s:St} {a:Act} {w:World} {e:Nat} {v:Value}
theorem ax.gK {xs:List (List D)} (he:aW e=false):ax K β Z s a w (.own e xs) v↔ ∃(ad:Addr) (cap:Nat),v= .slice (some ad) xs.length cap∧ad.spot=none∧xs.length≤cap∧cq w Z e xs ad.block ad.off:=by
 simp only[ax,he]
theorem ax.jL {xs:List (List D)} (he:aW e=true):ax K β Z s a w (.own e xs) v↔ ∃b,v=dW e b∧cH w Z e xs b:=by
 simp only[ax,he]
theorem ax.lB {r:ah} {j hv cv k:Nat} {xs:List (List D)} (he:aW e=false):ax K β Z s a w (.aD r j hv cv e k xs) v↔
  ∃(dU:Addr) (cap':Nat),v= .slice (some dU) xs.length cap'∧dU.spot=none∧xs.length≤cap'∧hv≤(s r).hv∧cv≤(s r).cv∧
   ((s r).hv=hv→(s r).at j≠ .dead→∃(ad:Addr) (len cap:Nat),bP K β a w r j=some (.slice (some ad) len cap)∧ad.spot=none∧dU.block=ad.block∧
     (dU.off=ad.off+k * e∨cap'=0)∧dU.off≤ad.off+cap * e∧cap'+k=cap∧k+xs.length≤len∧len≤cap∧
     ∃ys,((s r).at j= .own e ys∨(s r).at j= .d (.sl e ys))∧((s r).cv=cv→xs=(ys.drop k).take xs.length)):=by
 simp only[ax,he]
theorem ax.mA {r:ah} {j hv cv k:Nat} {xs:List (List D)} (he:aW e=true):ax K β Z s a w (.aD r j hv cv e k xs) v↔
  ∃b,v=dW e b∧hv≤(s r).hv∧cv≤(s r).cv∧
   ((s r).hv=hv→(s r).at j≠ .dead→bP K β a w r j=some (dW e b)∧∃ys,((s r).at j= .own e ys∨(s r).at j= .d (.sl e ys))∧((s r).cv=cv→xs=ys)):=by
 simp only[ax,he]
end
theorem au.length {α β:Type} {R:α→β→Prop}:∀{as:List α} {bs:List β},au R as bs→as.length=bs.length
 | [],[],_=>rfl
 |_ :: _,_ :: _,h=>by simp[au.length h.2]
theorem au.mono {α β:Type} {R R':α→β→Prop} (hR:∀a b,R a b→R' a b):∀{as:List α} {bs:List β},au R as bs→au R' as bs
 | [],[],_=>trivial
 |_ :: _,_ :: _,h=>⟨hR _ _ h.1,au.mono hR h.2⟩
theorem au.gV {α β:Type} {R R':α→β→Prop}:∀{as:List α} {bs:List β},(∀a b,b∈bs→R a b→R' a b)→au R as bs→au R' as bs
 | [],[],_,_=>trivial
 |_ :: _,_ :: _,hR,h=>⟨hR _ _ (List.mem_cons_self ..) h.1,au.gV (fun a b hb=>hR a b (List.mem_cons_of_mem _ hb)) h.2⟩
theorem au.get {α β:Type} {R:α→β→Prop}:∀{as:List α} {bs:List β} {j:Nat} {b:β},au R as bs→bs[j]? =some b→∃a,as[j]? =some a∧R a b
 | [],[],_,_,_,h=>by simp at h
 |a :: as,b :: bs,0,c,h,hj=>by
  simp only[List.getElem?_cons_zero,Option.some.injEq]at hj
  subst hj
  exact⟨a,rfl,h.1⟩
 |a :: as,b :: bs,j+1,c,h,hj=>by
  obtain⟨x,h1,h2⟩:=au.get (j:=j) h.2 (by simpa using hj)
  exact⟨x,by simpa using h1,h2⟩
theorem au.cW {α β:Type} {R:α→β→Prop}:∀{as:List α} {bs:List β},as.length=bs.length→(∀(j:Nat) a b,as[j]? =some a→bs[j]? =some b→R a b)→au R as bs
 | [],[],_,_=>trivial
 |a :: as,b :: bs,hl,h=>⟨h 0 a b rfl rfl,au.cW (by simpa using hl) fun j x y hx hy=>h (j+1) x y (by simpa using hx) (by simpa using hy)⟩
 | [],_ :: _,hl,_=>by simp at hl
 |_ :: _,[],hl,_=>by simp at hl
theorem au.append {α β:Type} {R:α→β→Prop}:∀{as as':List α} {bs bs':List β},au R as bs→au R as' bs'→au R (as++as') (bs++bs')
 | [],_,[],_,_,h=>h
 |_ :: _,_,_ :: _,_,h,k=>⟨h.1,au.append h.2 k⟩
theorem au.drop {α β:Type} {R:α→β→Prop}:∀{as:List α} {bs:List β} (n:Nat),au R as bs→au R (as.drop n) (bs.drop n)
 |_,_,0,h=>h
 | [],[],_+1,_=>trivial
 |_ :: _,_ :: _,n+1,h=>au.drop n h.2
theorem au.take {α β:Type} {R:α→β→Prop}:∀{as:List α} {bs:List β} (n:Nat),au R as bs→au R (as.take n) (bs.take n)
 |as,bs,0,h=>by simp[au]
 | [],[],_+1,_=>trivial
 |_ :: _,_ :: _,n+1,h=>⟨h.1,au.take n h.2⟩
def cL (R:C→Value→Prop) (v:Value) (x:Bool×List C):Prop:=
 if x.1 then ∃ws:Array Value,v= .agg ws∧au (fun u c=>R c u) ws.toList x.2 else ∃c,x.2=[c]∧fj v=true∧R c v
def aY (R:C→Value→Prop) (v:Value):SV→Prop
 | .one c=>fj v=true∧R c v
 | .agg cs=>∃ws:Array Value,v= .agg ws∧au (fun u c=>R c u) ws.toList cs
 | .aJ xs=>∃vs:Array Value,v= .tuple vs∧au (cL R) vs.toList xs
 | .undef=>True
theorem cL.flat {R:C→Value→Prop} {v:Value} {x:Bool×List C} (h:cL R v x):au (fun u c=>R c u) v.cells.toList x.2:=by
 unfold cL at h
 split at h
 ·obtain⟨ws,rfl,h⟩:=h;exact h
 ·obtain⟨c,h1,h2,h3⟩:=h
  rw[jo h2,h1]
  exact⟨h3,trivial⟩
theorem amX {R:C→Value→Prop}:∀{vs:List Value} {xs:List (Bool×List C)},au (cL R) vs xs→au (fun u c=>R c u) (vs.flatMap fun v=>v.cells.toList) (xs.flatMap (·.2))
 | [],[],_=>trivial
 |_ :: _,_ :: _,h=>by
  simp only[List.flatMap_cons]
  exact au.append (cL.flat h.1) (amX h.2)
theorem aY.flat {R:C→Value→Prop} {v:Value} {sv:SV} (h:aY R v sv) (hu:sv≠ .undef):au (fun u c=>R c u) (flat v) sv.cells:=by
 cases sv with
 |one c=>rw[vF h.1];exact⟨h.2,trivial⟩
 |agg cs=>obtain⟨ws,rfl,h⟩:=h;exact h
 |aJ xs=>obtain⟨vs,rfl,h⟩:=h;exact amX h
 |undef=>exact absurd rfl hu
theorem aY.cell {R:C→Value→Prop} {v:Value} {sv:SV} {j:Nat} {c:C} (h:aY R v sv) (hc:sv.cells[j]? =some c):∃u,(Vs.flat v)[j]? =some u∧R c u:=by
 by_cases hu:sv= .undef
 ·subst hu;simp[SV.cells]at hc
 ·exact(h.flat hu).get hc
theorem aY.mono {R R':C→Value→Prop} {v:Value} {sv:SV} (hR:∀c u,c∈sv.cells→R c u→R' c u) (h:aY R v sv):aY R' v sv:=by
 cases sv with
 |one c=>exact⟨h.1,hR _ _ (by simp[SV.cells]) h.2⟩
 |agg cs=>obtain⟨ws,h1,h2⟩:=h;exact⟨ws,h1,h2.gV fun u c hc hr=>hR c u hc hr⟩
 |aJ xs=>
  obtain⟨vs,h1,h2⟩:=h
  refine⟨vs,h1,h2.gV fun v x hx hr=>?_⟩
  unfold cL at hr ⊢
  split
  ·rename_i hb
   simp only[hb,if_true]at hr
   obtain⟨ws,h3,h4⟩:=hr
   exact⟨ws,h3,h4.gV fun u c hc hr=>hR c u (List.mem_flatMap.2 ⟨x,hx,hc⟩) hr⟩
  ·rename_i hb
   simp only[hb]at hr
   obtain⟨c,h3,h4,h5⟩:=hr
   exact⟨c,h3,h4,hR c _ (List.mem_flatMap.2 ⟨x,hx,by simp[h3]⟩) h5⟩
 |undef=>trivial
theorem au.set {α β:Type} {R:α→β→Prop}:∀{as:List α} {bs:List β} {j:Nat} {b:β},au R as bs→(∀a,as[j]? =some a→R a b)→au R as (bs.set j b)
 | [],[],_,_,_,_=>trivial
 |a :: as,c :: bs,0,b,h,hb=>⟨hb a rfl,h.2⟩
 |a :: as,c :: bs,j+1,b,h,hb=>⟨h.1,au.set h.2 fun x hx=>hb x (by simpa using hx)⟩
theorem cL.set {R:C→Value→Prop} {v:Value} {b:Bool} {cs:List C} {j:Nat} {c:C} (h:cL R v (b,cs)) (hj:j<cs.length) (hc:∀u,(v.cells.toList)[j]? =some u→R c u):cL R v (b,cs.set j c):=by
 unfold cL at *
 cases b with
 |true=>
  simp only[if_true]at h ⊢
  obtain⟨ws,rfl,h⟩:=h
  exact⟨ws,rfl,h.set hc⟩
 |false=>
  simp only[Bool.false_eq_true,if_false]at h ⊢
  obtain⟨d,h1,h2,h3⟩:=h
  rw[h1]at hj ⊢
  obtain rfl:j=0:=by simpa using hj
  exact⟨c,by simp,h2,hc v (by rw[jo h2];rfl)⟩
theorem amY {R:C→Value→Prop}:∀{vs:List Value} {xs:List (Bool×List C)} {j:Nat} {c:C},au (cL R) vs xs→(∀u,(vs.flatMap fun v=>v.cells.toList)[j]? =some u→R c u)→au (cL R) vs (nA xs j c)
 | [],[],_,_,_,_=>trivial
 |v :: vs,(b,cs) :: xs,j,c,h,hc=>by
  simp only[nA]
  have hl:v.cells.toList.length=cs.length:=(cL.flat h.1).length
  split
  ·rename_i hj
   exact⟨cL.set h.1 hj fun u hu=>hc u (by simp only[List.flatMap_cons];rw[List.getElem?_append_left (by omega)];exact hu),h.2⟩
  ·rename_i hj
   exact⟨h.1,amY h.2 fun u hu=>hc u (by simp only[List.flatMap_cons];rw[List.getElem?_append_right (by omega),hl];exact hu)⟩
theorem aY.setCell {R:C→Value→Prop} {v:Value} {sv:SV} {j:Nat} {c:C} (h:aY R v sv) (hc:∀u,(Vs.flat v)[j]? =some u→R c u):aY R v (sv.setCell j c):=by
 cases sv with
 |one d=>
  simp only[SV.setCell]
  split
  ·rename_i hj;subst hj;exact⟨h.1,hc v (by rw[vF h.1];rfl)⟩
  ·exact h
 |agg cs=>obtain⟨ws,rfl,h⟩:=h;exact⟨ws,rfl,h.set hc⟩
 |aJ xs=>obtain⟨vs,rfl,h⟩:=h;exact⟨vs,rfl,amY h hc⟩
 |undef=>trivial
theorem amZ:∀(xs:List (Bool×List C)) (j:Nat) (c:C),(nA xs j c).flatMap (·.2)=(xs.flatMap (·.2)).set j c
 | [],j,c=>by simp[nA]
 |(b,cs) :: xs,j,c=>by
  simp only[nA]
  split
  ·rename_i h;simp[List.set_append,h]
  ·rename_i h
   simp only[List.flatMap_cons,amZ xs,List.set_append,if_neg h]
theorem oN (sv:SV) (j:Nat) (c:C):(sv.setCell j c).cells=sv.cells.set j c:=by
 cases sv with
 |one d=>
  simp only[SV.setCell]
  split
  ·rename_i h;subst h;simp[SV.cells]
  ·rename_i h
   cases j with
   |zero=>exact absurd rfl h
   |succ j=>simp[SV.cells]
 |agg cs=>simp[SV.setCell,SV.cells]
 |aJ xs=>simp[SV.setCell,SV.cells,amZ]
 |undef=>simp[SV.setCell,SV.cells]
end Go.Vs
namespace Go.Vs
theorem au.split {α β:Type} {R:α→β→Prop}:∀{as as':List α} {bs bs':List β},as.length=bs.length→au R (as++as') (bs++bs')→au R as bs∧au R as' bs'
 | [],_,[],_,_,h=>⟨trivial,h⟩
 |a :: as,_,b :: bs,_,hl,h=>by
  obtain⟨h1,h2⟩:=h
  obtain⟨h3,h4⟩:=au.split (by simpa using hl) h2
  exact⟨⟨h1,h3⟩,h4⟩
 | [],_,_ :: _,_,hl,_=>by simp at hl
 |_ :: _,_,[],_,hl,_=>by simp at hl
def iY (_:C) (_:Value):Prop:=True
theorem am0 {R:C→Value→Prop}:∀{vs:List Value} {xs:List (Bool×List C)},au (cL iY) vs xs→
  au (fun u c=>R c u) (vs.flatMap fun v=>v.cells.toList) (xs.flatMap (·.2))→au (cL R) vs xs
 | [],[],_,_=>trivial
 |v :: vs,x :: xs,h,k=>by
  simp only[List.flatMap_cons]at k
  obtain⟨k1,k2⟩:=au.split (cL.flat h.1).length k
  refine⟨?_,am0 h.2 k2⟩
  have h1:=h.1
  unfold cL at h1 ⊢
  split
  ·rename_i hb
   simp only[hb,if_true]at h1
   obtain⟨ws,rfl,_⟩:=h1
   exact⟨ws,rfl,k1⟩
  ·rename_i hb
   simp only[hb]at h1
   obtain⟨c,h2,h3,_⟩:=h1
   rw[jo h3,h2]at k1
   exact⟨c,h2,h3,k1.1⟩
theorem aY.of_flat {R:C→Value→Prop} {v:Value} {sv:SV} (h:aY iY v sv) (k:sv≠ .undef→au (fun u c=>R c u) (Vs.flat v) sv.cells):aY R v sv:=by
 cases sv with
 |one c=>
  have:=k (by simp)
  rw[vF h.1]at this
  exact⟨h.1,this.1⟩
 |agg cs=>obtain⟨ws,rfl,_⟩:=h;exact⟨ws,rfl,k (by simp)⟩
 |aJ xs=>obtain⟨vs,rfl,h⟩:=h;exact⟨vs,rfl,am0 h (k (by simp))⟩
 |undef=>trivial
theorem aY.shape {R:C→Value→Prop} {v:Value} {sv:SV} (h:aY R v sv):aY iY v sv:=aY.mono (fun _ _ _ _=>trivial) h
theorem aY.lD {R R':C→Value→Prop} {v:Value} {sv:SV} (hR:∀(j:Nat) c u,sv.cells[j]? =some c→(Vs.flat v)[j]? =some u→R c u→R' c u) (h:aY R v sv):aY R' v sv:=by
 refine aY.of_flat h.shape fun hu=>?_
 have hf:=h.flat hu
 exact au.cW hf.length fun j u c hu hc=>by
  obtain⟨u',h1,h2⟩:=hf.get hc
  rw[hu]at h1
  cases h1
  exact hR j c u hc hu h2
theorem fJ {x:RV} {j:Nat} {c:C} (h:x.at j=c) (hc:c≠ .dead):x.v.cells[j]? =some c:=by
 unfold RV.at at h
 rw[List.getD_eq_getElem?_getD]at h
 cases hx:x.v.cells[j]? with
 |none=>rw[hx]at h;exact absurd h.symm hc
 |some d=>rw[hx]at h;exact congrArg some h
theorem sJ {x:RV} {j:Nat} {c:C} (h:x.v.cells[j]? =some c):x.at j=c:=by
 simp[RV.at,List.getD_eq_getElem?_getD,h]
def oO (same:Prop) (c c':C):Prop:=
 c=c'∨(∃e ys,c= .own e ys∧c'= .d (.sl e ys))∨(¬same∧∃e ys ys',c= .own e ys∧(c'= .own e ys'∨c'= .d (.sl e ys')))
def eA (x x':RV):Prop:=
 x.hv≤x'.hv∧x.cv≤x'.cv∧(x'.hv=x.hv→∀j,x'.at j≠ .dead→oO (x'.cv=x.cv) (x.at j) (x'.at j))
theorem eA.refl (x:RV):eA x x:=⟨Nat.le_refl _,Nat.le_refl _,fun _ _ _=>.inl rfl⟩
theorem eA.bump {x x':RV} (h:x'.hv=x.hv+1) (hc:x'.cv=x.cv):eA x x':=⟨by omega,by omega,fun e=>by omega⟩
theorem ax.step {K K':Ctx} {β β':Key→Option Nat} {Z Z':Nat→Prop} {s s':St} {a a':Act} {w w':World} (iZ:∀k b,β k=some b→β' k=some b)
  (hZ:∀b,Z b→w'.heap[b]? =w.heap[b]? ∧Z' b) (hs:∀r,eA (s r) (s' r))
  (hh:∀r j,(s' r).hv=(s r).hv→(s' r).at j≠ .dead→bP K' β' a' w' r j=bP K β a w r j) {c:C} {v:Value}
  (hown:∀(e:Nat) (xs:List (List D)) (b:Nat),c= .own e xs→cP v=some b→w'.heap[b]? =w.heap[b]?)
  (h:ax K β Z s a w c v):ax K' β' Z' s' a' w' c v:=by
 cases c with
 |d x=>exact bL.mono hZ x v h
 |own e xs=>
  by_cases he:aW e=true
  ·rw[ax.jL he]at h ⊢
   obtain⟨b,h1,h2⟩:=h
   exact⟨b,h1,cH.mono hZ e xs b (hown e xs b rfl (by rw[h1];exact jn ..)) h2⟩
  ·have he:aW e=false:=by simpa using he
   rw[ax.gK he]at h ⊢
   obtain⟨ad,cap,h1,h2,h3,h4⟩:=h
   exact⟨ad,cap,h1,h2,h3,cq.mono hZ e xs _ _ (hown e xs ad.block rfl (by rw[h1];rfl)) h4⟩
 |aD r j hv cv e k xs=>
  have am1:∀dj:(s' r).hv=hv,hv≤(s r).hv→(s' r).at j≠ .dead→(s' r).hv=(s r).hv∧(s r).hv=hv∧oO ((s' r).cv=(s r).cv) ((s r).at j) ((s' r).at j)∧(s r).at j≠ .dead:=by
   intro dj hle hal
   obtain⟨e1,e2,e3⟩:=hs r
   have hsame:(s' r).hv=(s r).hv:=by omega
   have oP:=e3 hsame j hal
   refine⟨hsame,by omega,oP,?_⟩
   rcases oP with h|⟨e,ys,h,_⟩|⟨_,e,ys,ys',h,_⟩
   ·rw[h];exact hal
   ·rw[h];simp
   ·rw[h];simp
  by_cases he:aW e=true
  ·rw[ax.mA he]at h ⊢
   obtain⟨b,h1,h4,h5,h6⟩:=h
   obtain⟨e1,e2,e3⟩:=hs r
   refine⟨b,h1,by omega,by omega,fun dj hal=>?_⟩
   obtain⟨hsame,am2,oP,yF⟩:=am1 dj h4 hal
   obtain⟨g1,ys,g9,g10⟩:=h6 am2 yF
   refine⟨by rw[hh r j hsame hal];exact g1,?_⟩
   rcases oP with h|⟨e',ys',h,h'⟩|⟨hn,e',ys',zs,h,h'⟩
   ·exact⟨ys,by rw[←h];exact g9,fun dX=>g10 (by omega)⟩
   ·rw[h]at g9
    rcases g9 with g9|g9
    ·cases g9;exact⟨ys,.inr h',fun dX=>g10 (by omega)⟩
    ·cases g9
   ·rw[h]at g9
    rcases g9 with g9|g9
    ·cases g9;exact⟨zs,h',fun dX=>absurd (by omega) hn⟩
    ·cases g9
  have he:aW e=false:=by simpa using he
  rw[ax.lB he]at h ⊢
  obtain⟨dU,cap',h1,h2,h3,h4,h5,h6⟩:=h
  obtain⟨e1,e2,e3⟩:=hs r
  refine⟨dU,cap',h1,h2,h3,by omega,by omega,fun dj hal=>?_⟩
  obtain⟨hsame,am2,oP,yF⟩:=am1 dj h4 hal
  obtain⟨ad,len,cap,g1,g2,g3,g4,g4b,g5,g6,g7,g8⟩:=h6 (by omega) yF
  obtain⟨ys,g9,g10⟩:=g8
  refine⟨ad,len,cap,by rw[hh r j hsame hal];exact g1,g2,g3,g4,g4b,g5,g6,g7,?_⟩
  rcases oP with h|⟨e',ys',h,h'⟩|⟨hn,e',ys',zs,h,h'⟩
  ·exact⟨ys,by rw[←h];exact g9,fun dX=>g10 (by omega)⟩
  ·rw[h]at g9
   rcases g9 with g9|g9
   ·cases g9;exact⟨ys,.inr h',fun dX=>g10 (by omega)⟩
   ·cases g9
  ·rw[h]at g9
   rcases g9 with g9|g9
   ·cases g9;exact⟨zs,h',fun dX=>absurd (by omega) hn⟩
   ·cases g9
 |ea r j hv e i off=>
  obtain⟨b,o,h1,h2,h3⟩:=h
  obtain⟨e1,e2,e3⟩:=hs r
  refine⟨b,o,h1,by omega,fun dj hal=>?_⟩
  have hsame:(s' r).hv=(s r).hv:=by omega
  have oP:=e3 hsame j hal
  have yF:(s r).at j≠ .dead:=by
   rcases oP with h|⟨e,ys,h,_⟩|⟨_,e,ys,ys',h,_⟩
   ·rw[h];exact hal
   ·rw[h];simp
   ·rw[h];simp
  obtain⟨ad,len,cap,g1,g2,g3,g4,ys,g5⟩:=h3 (by omega) yF
  refine⟨ad,len,cap,by rw[hh r j hsame hal];exact g1,g2,g3,g4,?_⟩
  rcases oP with h|⟨e',ys',h,h'⟩|⟨_,e',ys',zs,h,h'⟩
  ·exact⟨ys,by rw[←h];exact g5⟩
  ·rw[h]at g5
   rcases g5 with g5|g5
   ·cases g5;exact⟨ys,.inr h'⟩
   ·cases g5
  ·rw[h]at g5
   rcases g5 with g5|g5
   ·cases g5;exact⟨zs,h'⟩
   ·cases g5
 |da xs=>
  obtain⟨b,o,h1,h2,h3⟩:=h
  exact⟨b,o,h1,(hZ b h2).2,dK.mono hZ xs b o (hZ b h2).1 h3⟩
 |ptr k off=>obtain⟨b,h1,h2⟩:=h;exact⟨b,iZ k b h1,h2⟩
 |bW f caps=>
  obtain⟨vs,h1,h2⟩:=h
  exact⟨vs,h1,h2.mono fun u p ⟨b,g1,g2⟩=>⟨b,iZ _ b g1,g2⟩⟩
 |dead=>trivial
def Wr (w:World) (b n:Nat):Prop:=
 ∃(cs:Array Value) (el:TypeId) (lo hi:Nat),w.heap[b]? =some (.cells cs el (lo,hi))∧n≤cs.size∧∀o,o<cs.size→¬(lo≤o∧o<hi)
theorem Wr.mono {w w':World} {b n m:Nat} (h:Wr w b n) (hb:w'.heap[b]? =w.heap[b]?) (hm:m≤n):Wr w' b m:=by
 obtain⟨cs,el,lo,hi,h1,h2,h3⟩:=h
 exact⟨cs,el,lo,hi,by rw[hb];exact h1,by omega,h3⟩
def jq (w:World) (e:Nat):Value→Prop
 | .slice (some ad) _ cap=>Wr w ad.block (ad.off+cap * e)
 | .map (some b)=>∃(es:Array MapEntry) (aT:Nat),w.heap[b]? =some (.map es aT)
 | .pointer (some _)=>True
 |_=>False
theorem jq.mono {w w':World} {e b:Nat} {u:Value} (h:jq w e u) (hu:cP u=some b) (hb:w'.heap[b]? =w.heap[b]?):jq w' e u:=by
 unfold jq at *
 split at h
 ·rename_i ad len cap
  simp only[cP,Option.some.injEq]at hu
  subst hu
  exact h.mono hb (Nat.le_refl _)
 ·simp only[cP,Option.some.injEq]at hu
  subst hu
  rw[hb];exact h
 ·trivial
 ·exact h
def Live:Value→Prop
 | .slice (some _) _ cap=>cap≠0
 |_=>True
theorem am3 (e b:Nat):Live (dW e b):=by unfold dW;split<;>trivial
theorem avS {w:World} {Z:Nat→Prop} {e b:Nat} {xs:List (List D)} (e':Nat) (h:cH w Z e xs b):jq w e' (dW e b):=by
 by_cases hi:dL e=true
 ·rw[af5 hi];trivial
 ·have hi:dL e=false:=by simpa using hi
  rw[lz hi]
  obtain⟨es,aT,_,h1,_⟩:=(cH.mu hi).1 h
  exact⟨es,aT,h1⟩
theorem bL.live {w:World} {Z:Nat→Prop} {e b:Nat} {ys:List (List D)} {u:Value} (h:bL w Z (.sl e ys) u) (hb:cP u=some b) (hl:Live u):Z b:=by
 by_cases he:aW e=true
 ·obtain⟨b',rfl,h2,_⟩:=(bL.kf he).1 h
  rw[jn,Option.some.injEq]at hb
  exact hb ▸ h2
 ·obtain⟨sK,sL,rfl,h3,_⟩:=(bL.iX (by simpa using he)).1 h
  simp only[cP,Option.some.injEq]at hb
  exact hb ▸ (h3.resolve_left hl).2
def dc (K:Ctx) (β:Key→Option Nat) (ω:Nat→Option bX) (Z:Nat→Prop) (s:St) (a:Act) (w:World) (k:Key):SV→Prop
 | .agg cs=>∃(b:Nat) (ws:Array Value) (el:TypeId) (lo hi:Nat),β k=some b∧ω b=some (.box k,none)∧w.heap[b]? =some (.cells ws el (lo,hi))∧
    (∀o,o<ws.size→¬(lo≤o∧o<hi))∧au (fun u c=>ax K β Z s a w c u) ws.toList cs
 | .undef=>β k=none
 |_=>False
structure Rel (K:Ctx) (β:Key→Option Nat) (ω:Nat→Option bX) (Z:Nat→Prop) (s:St) (a:Act) (w:World):Prop where
 size:a.tmps.size=K.N
 defers:a.defers=[]∧avQ K
 os:w.os=K.w0.os
 tape:w.tape=K.w0.tape
 output:w.output=K.w0.output
 base:K.base≤w.heap.size
 frame:∀b,b<K.base→¬K.E0 b→w.heap[b]? =K.w0.heap[b]?
 dH:∀b,Z b→b<w.heap.size
 jr:∀b,K.Z0 b→Z b
 kg:∀b,Z b→K.Z0 b∨K.base≤b∨K.E0 b∨∃(i j e:Nat) (ys:List (List D)) (u:Value),(s (.arg i)).v.cells[j]? =some (.d (.sl e ys))∧(flat (K.argv.getD i undef))[j]? =some u∧cP u=some b∧Live u
 tmps:∀t,aY (ax K β Z s a w) (a.tmps.getD t undef) (s (.tmp t)).v
 args:∀i,aY (ax K β Z s a w) (K.argv.getD i undef) (s (.arg i)).v
 boxes:∀k,dc K β ω Z s a w k (s (.box k)).v
 own:∀(r:ah) (j e:Nat) (xs:List (List D)) (u:Value) (b:Nat),r.isArg=false→(s r).v.cells[j]? =some (.own e xs)→bP K β a w r j=some u→cP u=some b→ω b=some (r,some j)∧jq w e u
 fT:∀(i j e:Nat) (xs:List (List D)) (u:Value) (b:Nat),(s (.arg i)).v.cells[j]? =some (.own e xs)→(flat (K.argv.getD i undef))[j]? =some u→cP u=some b→b<K.base∧¬K.E0 b
 cZ:∀b h,ω b=some h→¬Z b∧b<w.heap.size∧(b<K.base→K.E0 b)
 kj:∀k b,K.gA k=some b→β k=some b
section
variable {K:Ctx} {β:Key→Option Nat} {ω:Nat→Option bX} {Z:Nat→Prop} {s:St} {a:Act} {w:World}
theorem Rel.laid (h:Rel K β ω Z s a w) (g:Nat) (l:List Value) (hg:(g,l)∈oM K.P):g<w.heap.size∧Z g∧ω g=none∧mq w g l:=by
 obtain⟨h1,h2,h3,h4⟩:=h.defers.2 g l hg
 have hz:=h.jr g h2
 refine⟨Nat.lt_of_lt_of_le h1 h.base,hz,?_,fun j=>?_⟩
 ·cases ho:ω g with
  |none=>rfl
  |some x=>exact absurd hz (h.cZ g x ho).1
 ·rw[cell_of_heap (h.frame g h1 h3)]
  exact h4 j
theorem dc.cell (h:Rel K β ω Z s a w) {k:Key} {cs:List C} (hv:(s (.box k)).v= .agg cs):∃(b:Nat) (ws:Array Value) (el:TypeId) (lo hi:Nat),β k=some b∧ω b=some (.box k,none)∧
  w.heap[b]? =some (.cells ws el (lo,hi))∧(∀o,o<ws.size→¬(lo≤o∧o<hi))∧au (fun u c=>ax K β Z s a w c u) ws.toList cs:=by
 have:=h.boxes k
 rw[hv]at this
 exact this
theorem jM {k:Key} {b j:Nat} {ws:Array Value} {el:TypeId} {lo hi:Nat} (hb:β k=some b) (hw:w.heap[b]? =some (.cells ws el (lo,hi))):
  bP K β a w (.box k) j=ws.toList[j]? :=by
 simp[bP,hb,World.cell?,hw]
theorem Rel.cell (h:Rel K β ω Z s a w) {r:ah} {j:Nat} {c:C} (hc:(s r).v.cells[j]? =some c):∃u,bP K β a w r j=some u∧ax K β Z s a w c u:=by
 cases r with
 |tmp t=>exact(h.tmps t).cell hc
 |arg i=>exact(h.args i).cell hc
 |box k=>
  have hb:=h.boxes k
  cases hv:(s (.box k)).v with
  |agg cs=>
   obtain⟨b,ws,el,lo,hi,h1,h2,h3,h4,h5⟩:=dc.cell h hv
   rw[hv]at hc
   obtain⟨u,g1,g2⟩:=h5.get hc
   exact⟨u,by rw[jM h1 h3];exact g1,g2⟩
  |one c=>rw[hv]at hb;exact hb.elim
  |aJ x=>rw[hv]at hb;exact hb.elim
  |undef=>rw[hv]at hc;simp[SV.cells]at hc
theorem Rel.ownRow (h:Rel K β ω Z s a w) {r:ah} {j:Nat} {e:Nat} {ys:List (List D)} (he:aW e=false) (hc:(s r).at j= .own e ys):
  ∃ad cap,bP K β a w r j=some (.slice (some ad) ys.length cap)∧ad.spot=none∧ys.length≤cap∧cq w Z e ys ad.block ad.off:=by
 obtain⟨u,h1,bu⟩:=h.cell (fJ hc (by simp))
 obtain⟨ad,cap,h2,h3,h4,h5⟩:=(ax.gK he).1 bu
 exact⟨ad,cap,by rw[h1,h2],h3,h4,h5⟩
theorem Rel.acB (h:Rel K β ω Z s a w) {r:ah} {j:Nat} {e:Nat} {ys:List (List D)} (he:aW e=true) (hc:(s r).at j= .own e ys):
  ∃b,bP K β a w r j=some (dW e b)∧cH w Z e ys b:=by
 obtain⟨u,h1,bu⟩:=h.cell (fJ hc (by simp))
 obtain⟨b,h2,h3⟩:=(ax.jL he).1 bu
 exact⟨b,by rw[h1,h2],h3⟩
theorem ax.am4 {e:Nat} {xs:List (List D)} {u:Value} (bu:ax K β Z s a w (.own e xs) u):∃b,cP u=some b:=by
 by_cases he:aW e=true
 ·obtain⟨b,h1,_⟩:=(ax.jL he).1 bu
  exact⟨b,by rw[h1];exact jn ..⟩
 ·obtain⟨ad,cap,h1,_⟩:=(ax.gK (by simpa using he)).1 bu
  exact⟨ad.block,by rw[h1];rfl⟩
end
end Go.Vs
namespace Go.Vs
section
variable {K:Ctx} {β:Key→Option Nat} {ω:Nat→Option bX} {Z:Nat→Prop} {s:St} {a:Act} {w:World}
def ie (K:Ctx) (β:Key→Option Nat) (s:St) (a:Act) (w:World) (b:Nat):Prop:=
 ∀(r:ah) (j e:Nat) (xs:List (List D)) (u:Value) (b1:Nat),r.isArg=false→(s r).v.cells[j]? =some (.own e xs)→bP K β a w r j=some u→cP u=some b1→b1≠b
def ig (K:Ctx) (β:Key→Option Nat) (ω:Nat→Option bX) (Z:Nat→Prop) (s:St) (a:Act) (w:World) (r:ah) (i:Nat) (c:C) (u:Value):Prop:=
 ax K β Z s a w c u∧∀(e:Nat) (xs:List (List D)) (b:Nat),c= .own e xs→cP u=some b→ω b=some (r,some i)∧jq w e u∧ie K β s a w b
structure Calm (K:Ctx) (β:Key→Option Nat) (a:Act) (ω:Nat→Option bX) (Z:Nat→Prop) (s:St) (w:World) (ω':Nat→Option bX) (Z':Nat→Prop) (s':St) (w':World):Prop where
 z:∀b,Z b→Z' b
 heap:∀b,b<w.heap.size→w'.heap[b]? =w.heap[b]?
 size:w.heap.size≤w'.heap.size
 evo:∀r,eA (s r) (s' r)
 bP:∀r j,bP K β a w' r j=bP K β a w r j
 fr:∀b,b<w.heap.size→ie K β s a w b→ω' b=ω b∧ie K β s' a w' b
theorem Calm.refl:Calm K β a ω Z s w ω Z s w:=⟨fun _ h=>h,fun _ _=>rfl,Nat.le_refl _,fun _=>eA.refl _,fun _ _=>rfl,fun _ _ h=>⟨rfl,h⟩⟩
theorem oO.trans {p q t:Prop} (hp:t→p) (hq:t→q) {c c' c'':C} (h:oO p c c') (k:oO q c' c''):oO t c c'':=by
 rcases h with rfl|⟨e,ys,rfl,rfl⟩|⟨hn,e,ys,ys',rfl,rfl|rfl⟩
 ·rcases k with k|k|⟨hn,k⟩
  ·exact .inl k
  ·exact .inr (.inl k)
  ·exact .inr (.inr ⟨fun ht=>hn (hq ht),k⟩)
 ·rcases k with rfl|⟨e',ys',h1,rfl⟩|⟨hn,e',ys',zs,h1,h2⟩
  ·exact .inr (.inl ⟨e,ys,rfl,rfl⟩)
  ·cases h1
  ·cases h1
 ·rcases k with rfl|⟨e',ys1,h1,rfl⟩|⟨hn',e',ys1,zs,h1,h2⟩
  ·exact .inr (.inr ⟨fun ht=>hn (hp ht),e,ys,ys',rfl,.inl rfl⟩)
  ·cases h1
   exact .inr (.inr ⟨fun ht=>hn (hp ht),e,ys,ys',rfl,.inr rfl⟩)
  ·cases h1
   exact .inr (.inr ⟨fun ht=>hn (hp ht),e,ys,zs,rfl,h2⟩)
 ·rcases k with rfl|⟨e',ys1,h1,rfl⟩|⟨hn',e',ys1,zs,h1,h2⟩
  ·exact .inr (.inr ⟨fun ht=>hn (hp ht),e,ys,ys',rfl,.inr rfl⟩)
  ·cases h1
  ·cases h1
theorem oO.alive {p:Prop} {c c':C} (h:oO p c c') (hc:c'≠ .dead):c≠ .dead:=by
 rcases h with rfl|⟨e,ys,rfl,_⟩|⟨_,e,ys,ys',rfl,_⟩
 ·exact hc
 ·simp
 ·simp
theorem eA.trans {x y z:RV} (h:eA x y) (k:eA y z):eA x z:=by
 obtain⟨h1,h2,h3⟩:=h
 obtain⟨k1,k2,k3⟩:=k
 refine⟨by omega,by omega,fun e j hj=>?_⟩
 have hk:=k3 (by omega) j hj
 exact oO.trans (fun _=>by omega) (fun _=>by omega) (h3 (by omega) j (hk.alive hj)) hk
theorem Calm.trans {ω' ij:Nat→Option bX} {Z' Z'':Nat→Prop} {s' s'':St} {w' w'':World} (h:Calm K β a ω Z s w ω' Z' s' w') (k:Calm K β a ω' Z' s' w' ij Z'' s'' w''):
  Calm K β a ω Z s w ij Z'' s'' w'':=
 ⟨fun b hb=>k.z b (h.z b hb),fun b hb=>(k.heap b (Nat.lt_of_lt_of_le hb h.size)).trans (h.heap b hb),Nat.le_trans h.size k.size,fun r=>(h.evo r).trans (k.evo r),fun r j=>(k.bP r j).trans (h.bP r j),
  fun b hb hf=>⟨((k.fr b (Nat.lt_of_lt_of_le hb h.size) (h.fr b hb hf).2).1).trans (h.fr b hb hf).1,(k.fr b (Nat.lt_of_lt_of_le hb h.size) (h.fr b hb hf).2).2⟩⟩
theorem Calm.iq {ω':Nat→Option bX} {Z':Nat→Prop} {s':St} {w':World} (k:Calm K β a ω Z s w ω' Z' s' w') (hz:∀b,Z b→b<w.heap.size) {c:C} {u:Value}
  (hown:∀(e:Nat) (xs:List (List D)) (b:Nat),c= .own e xs→cP u=some b→b<w.heap.size) (h:ax K β Z s a w c u):ax K β Z' s' a w' c u:=
 ax.step (fun _ _ h=>h) (fun b hb=>⟨k.heap b (hz b hb),k.z b hb⟩) k.evo (fun r j _ _=>k.bP r j) (fun e xs b h1 h2=>k.heap _ (hown e xs b h1 h2)) h
theorem Calm.af8 {ω':Nat→Option bX} {Z':Nat→Prop} {s':St} {w':World} (k:Calm K β a ω Z s w ω' Z' s' w') (hr:Rel K β ω Z s a w) {r:ah} {i:Nat} {c:C} {u:Value} (h:ig K β ω Z s a w r i c u):
  ig K β ω' Z' s' a w' r i c u:=by
 have hlt:∀(e:Nat) (xs:List (List D)) (b:Nat),c= .own e xs→cP u=some b→b<w.heap.size:=fun e xs b h1 h2=>(hr.cZ _ _ (h.2 e xs b h1 h2).1).2.1
 refine⟨k.iq hr.dH hlt h.1,fun e xs b h1 h2=>?_⟩
 obtain⟨g1,g2,g3⟩:=h.2 e xs b h1 h2
 have hb:=hlt e xs b h1 h2
 exact⟨by rw[(k.fr _ hb g3).1];exact g1,g2.mono h2 (k.heap _ hb),(k.fr _ hb g3).2⟩
theorem ig.vG {r:ah} {i:Nat} {c:C} {u:Value} (hc:∀e xs,c≠ .own e xs) (h:ax K β Z s a w c u):ig K β ω Z s a w r i c u:=
 ⟨h,fun e xs _ h1 _=>absurd h1 (hc e xs)⟩
theorem yG (s:St) (r q:ah) (x:RV):(s.set r x q).v=if q=r then x.v else(s q).v:=by simp only[St.set];split<;>rfl
theorem acD {sv:SV} {j j':Nat} {c d:C} (h:(sv.setCell j c).cells[j']? =some d):(j'=j∧d=c)∨(j'≠j∧sv.cells[j']? =some d):=by
 rw[oN,List.getElem?_set]at h
 split at h
 ·rename_i hj
  split at h
  ·exact .inl ⟨hj.symm,by simpa using h.symm⟩
  ·cases h
 ·rename_i hj
  exact .inr ⟨fun e=>hj e.symm,h⟩
theorem Rel.am7 (h:Rel K β ω Z s a w) {r:ah} {j e:Nat} {ys:List (List D)} {c':C} (hc:(s r).at j= .own e ys) (hr:r.isArg=false) (cA:c'= .dead∨c'= .d (.sl e ys))
  {u0:Value} {b0:Nat} (hh:bP K β a w r j=some u0) (hb0:cP u0=some b0) {ω':Nat→Option bX} {Z':Nat→Prop}
  (hZ:∀b,Z' b↔Z b∨(c'≠ .dead∧b=b0)) (cy:∀b,b≠b0→ω' b=ω b) (af9:c'≠ .dead→ω' b0=none):
  Rel K β ω' Z' (s.set r { s r with v:=(s r).v.setCell j c' }) a w∧
  Calm K β a ω Z s w ω' Z' (s.set r { s r with v:=(s r).v.setCell j c' }) w∧
  ie K β (s.set r { s r with v:=(s r).v.setCell j c' }) a w b0:=by
 have hcell:=fJ hc (by simp)
 obtain⟨ja,hwr⟩:=h.own r j e ys u0 b0 hr hcell hh hb0
 obtain⟨hnz,hlt,hE⟩:=h.cZ _ _ ja
 obtain⟨u,hu1,yH⟩:=h.cell hcell
 rw[hh]at hu1
 cases hu1
 have hno:∀e xs,c'≠ .own e xs:=by rcases cA with rfl|rfl<;>simp
 generalize hs':s.set r { s r with v:=(s r).v.setCell j c' }=s'
 have hcells:∀q,(s' q).v=if q=r then(s r).v.setCell j c' else(s q).v:=fun q=>by rw[←hs'];exact yG ..
 have mB:∀(q:ah) (i e:Nat) (xs:List (List D)),(s' q).v.cells[i]? =some (.own e xs)→(s q).v.cells[i]? =some (.own e xs)∧¬(q=r∧i=j):=by
  intro q i e' xs hq
  rw[hcells]at hq
  split at hq
  ·rename_i gf
   subst gf
   rcases acD hq with⟨_,h2⟩|⟨h1,h2⟩
   ·exact absurd h2.symm (hno _ _)
   ·exact⟨h2,fun hx=>h1 hx.2⟩
  ·rename_i gf
   exact⟨hq,fun hx=>gf hx.1⟩
 have ko:∀q,eA (s q) (s' q):=by
  intro q
  by_cases hq:q=r
  ·subst hq
   rw[←hs',jD]
   refine⟨Nat.le_refl _,Nat.le_refl _,fun _ i hi=>?_⟩
   have bB:∀i,({ s q with v:=(s q).v.setCell j c' }:RV).at i=if i=j∧i<(s q).v.cells.length then c' else(s q).at i:=by
    intro i
    simp only[RV.at,oN,List.getD_eq_getElem?_getD,List.getElem?_set]
    by_cases hij:j=i
    ·subst hij
     simp only[if_true,true_and]
     split
     ·rfl
     ·rename_i hlt;rw[List.getElem?_eq_none (by omega)]
    ·simp[hij,Ne.symm hij]
   rw[bB]at hi ⊢
   by_cases hx:i=j∧i<(s q).v.cells.length
   ·rw[if_pos hx]at hi ⊢
    obtain⟨rfl,_⟩:=hx
    rw[hc]
    rcases cA with rfl|rfl
    ·exact absurd rfl hi
    ·exact .inr (.inl ⟨e,ys,rfl,rfl⟩)
   ·rw[if_neg hx];exact .inl rfl
  ·rw[←hs',jE _ _ hq];exact eA.refl _
 have yI:∀b,Z b→Z' b:=fun b hb=>(hZ b).2 (.inl hb)
 have hfr:∀b,b<w.heap.size→ie K β s a w b→ω' b=ω b∧ie K β s' a w b:=by
  intro b _ hf
  have hne:b≠b0:=fun hb=>hf r j e ys u0 b0 hr hcell hh hb0 hb.symm
  exact⟨cy b hne,fun q i e' xs u' b' hq cF c6 aM=>hf q i e' xs u' b' hq (mB q i e' xs cF).1 c6 aM⟩
 have qj:Calm K β a ω Z s w ω' Z' s' w:=⟨yI,fun _ _=>rfl,Nat.le_refl _,ko,fun _ _=>rfl,hfr⟩
 have eW:∀(c:C) (u:Value),ax K β Z s a w c u→ax K β Z' s' a w c u:=fun c u bu=>
  ax.step (fun _ _ h=>h) (fun b hb=>⟨rfl,yI b hb⟩) ko (fun _ _ _ _=>rfl) (fun _ _ _ _ _=>rfl) bu
 have hnew:ax K β Z' s' a w c' u0:=by
  rcases cA with rfl|rfl
  ·trivial
  ·by_cases he:aW e=true
   ·obtain⟨b,rfl,g⟩:=(ax.jL he).1 yH
    rw[jn,Option.some.injEq]at hb0
    subst hb0
    exact(bL.kf he).2 ⟨b,rfl,(hZ _).2 (.inr ⟨by simp,rfl⟩),cH.mono (fun b hb=>⟨rfl,yI b hb⟩) e ys _ rfl g⟩
   ·have he:aW e=false:=by simpa using he
    obtain⟨ad,cap,rfl,hsp,hle,hrows⟩:=(ax.gK he).1 yH
    simp only[cP,Option.some.injEq]at hb0
    subst hb0
    exact(bL.iX he).2 ⟨ad,cap,rfl,.inr ⟨hsp,(hZ _).2 (.inr ⟨by simp,rfl⟩)⟩,hle,cq.mono (fun b hb=>⟨rfl,yI b hb⟩) e ys _ _ rfl hrows⟩
 have qk:∀(q:ah) (i e':Nat) (xs:List (List D)) (u':Value) (b':Nat),q.isArg=false→(s q).v.cells[i]? =some (.own e' xs)→¬(q=r∧i=j)→bP K β a w q i=some u'→cP u'=some b'→b'≠b0:=by
  intro q i e' xs u' b' hq cF hn c6 aM hb
  have:=(h.own q i e' xs u' b' hq cF c6 aM).1
  rw[hb,ja]at this
  simp only[Option.some.injEq,Prod.mk.injEq]at this
  exact hn ⟨this.1.symm,this.2.symm⟩
 have oQ:∀(v:Value),aY (ax K β Z s a w) v (s r).v→(∀u,(flat v)[j]? =some u→u=u0)→aY (ax K β Z' s' a w) v ((s r).v.setCell j c'):=
  fun v hv hu=>aY.setCell (aY.mono (fun c u _=>eW c u) hv) fun u hju=>by rw[hu u hju];exact hnew
 refine⟨⟨h.size,h.defers,h.os,h.tape,h.output,h.base,h.frame,?_,fun b hb=>yI b (h.jr b hb),?_,?_,?_,?_,?_,?_,?_,h.kj⟩,qj,?_⟩
 ·intro b hb
  rcases(hZ b).1 hb with hb|⟨_,rfl⟩
  ·exact h.dH b hb
  ·exact hlt
 ·intro b hb
  rcases(hZ b).1 hb with hb|⟨_,rfl⟩
  ·rcases h.kg b hb with g|g|g|⟨i,j',e',ys',u',g1,g2,g3⟩
   ·exact .inl g
   ·exact .inr (.inl g)
   ·exact .inr (.inr (.inl g))
   ·refine .inr (.inr (.inr ⟨i,j',e',ys',u',?_,g2,g3⟩))
    rw[hcells,if_neg (by rintro rfl;simp[ah.isArg]at hr)]
    exact g1
  ·by_cases hbase:b<K.base
   ·exact .inr (.inr (.inl (hE hbase)))
   ·exact .inr (.inl (by omega))
 ·intro t
  rw[hcells]
  split
  ·rename_i ht
   have ht':(s (.tmp t)).v=(s r).v:=by rw[ht]
   refine oQ _ (ht' ▸ h.tmps t) fun u hu=>?_
   subst ht
   simp only[bP]at hh
   rw[hh]at hu
   exact(Option.some.inj hu).symm
  ·exact aY.mono (fun c u _=>eW c u) (h.tmps t)
 ·intro i
  rw[hcells,if_neg (by rintro rfl;simp[ah.isArg]at hr)]
  exact aY.mono (fun c u _=>eW c u) (h.args i)
 ·intro k
  have hb:=h.boxes k
  rw[hcells]
  split
  ·rename_i hk
   subst hk
   cases hv:(s (.box k)).v with
   |agg cs=>
    obtain⟨b,ws,el,lo,hi,g1,g2,g3,g4,g5⟩:=dc.cell h hv
    refine⟨b,ws,el,lo,hi,g1,?_,g3,g4,?_⟩
    ·rw[cy b]
     ·exact g2
     ·intro gi
      rw[gi,ja]at g2
      cases g2
    ·refine au.set (g5.mono fun u c=>eW c u) fun u hu=>?_
     rw[jM g1 g3]at hh
     rw[hh]at hu
     cases hu
     exact hnew
   |one c=>rw[hv]at hb;exact hb.elim
   |aJ x=>rw[hv]at hb;exact hb.elim
   |undef=>rw[hv]at hcell;simp[SV.cells]at hcell
  ·cases hv:(s (.box k)).v with
   |agg cs=>
    obtain⟨b,ws,el,lo,hi,g1,g2,g3,g4,g5⟩:=dc.cell h hv
    refine⟨b,ws,el,lo,hi,g1,?_,g3,g4,g5.mono fun u c=>eW c u⟩
    rw[cy b]
    ·exact g2
    ·intro gi
     rw[gi,ja]at g2
     cases g2
   |one c=>rw[hv]at hb;exact hb.elim
   |aJ x=>rw[hv]at hb;exact hb.elim
   |undef=>rw[hv]at hb;exact hb
 ·intro q i e' xs u' b' hq cF c6 aM
  obtain⟨g1,g2⟩:=mB q i e' xs cF
  obtain⟨g3,g4⟩:=h.own q i e' xs u' b' hq g1 c6 aM
  exact⟨by rw[cy _ (qk q i e' xs u' b' hq g1 g2 c6 aM)];exact g3,g4⟩
 ·intro i j' e' xs u' b' cF c6 aM
  exact h.fT i j' e' xs u' b' (mB _ _ _ _ cF).1 c6 aM
 ·intro b g hb
  by_cases gi:b=b0
  ·subst gi
   refine⟨fun hz=>?_,hlt,hE⟩
   rcases(hZ _).1 hz with hz|⟨hd,_⟩
   ·exact hnz hz
   ·rw[af9 hd]at hb;cases hb
  ·rw[cy b gi]at hb
   obtain⟨g1,g2,g3⟩:=h.cZ b g hb
   refine⟨fun hz=>?_,g2,g3⟩
   rcases(hZ _).1 hz with hz|⟨_,hd⟩
   ·exact g1 hz
   ·exact gi hd
 ·intro q i e' xs u' b' hq cF c6 aM
  obtain⟨g1,g2⟩:=mB q i e' xs cF
  exact qk q i e' xs u' b' hq g1 g2 c6 aM
end
end Go.Vs
namespace Go.Vs
section
variable {K:Ctx} {β:Key→Option Nat} {ω:Nat→Option bX} {Z:Nat→Prop} {s:St} {a:Act} {w:World}
theorem Rel.mm (h:Rel K β ω Z s a w) {t:Nat} (ht:t<K.N) {u:Value} {v:SV} (hv:aY (ax K β Z s a w) u v)
  (ho:∀(j e:Nat) (xs:List (List D)) (u1:Value) (b:Nat),v.cells[j]? =some (.own e xs)→(flat u)[j]? =some u1→cP u1=some b→ω b=some (.tmp t,some j)∧jq w e u1):
  Rel K β ω Z (s.set (.tmp t) { hv:=(s (.tmp t)).hv+1,cv:=(s (.tmp t)).cv,v }) (a.put (some t) u) w:=by
 generalize hs':s.set (.tmp t) { hv:=(s (.tmp t)).hv+1,cv:=(s (.tmp t)).cv,v }=s'
 have hcells:∀q,(s' q).v=if q= .tmp t then v else(s q).v:=fun q=>by rw[←hs'];exact yG ..
 have eP:∀t',(a.put (some t) u).tmps.getD t' undef=if t'=t then u else a.tmps.getD t' undef:=by
  intro t'
  simp only[Act.put,Array.getD_eq_getD_getElem?,Array.getElem?_setIfInBounds]
  by_cases hh:t=t'
  ·subst hh;simp[h.size,ht]
  ·simp[hh,Ne.symm hh]
 have fk:∀r j,r≠ .tmp t→bP K β (a.put (some t) u) w r j=bP K β a w r j:=by
  intro r j hr
  cases r with
  |tmp t'=>simp only[bP];rw[eP,if_neg (fun e=>hr (by rw[e]))]
  |box k=>rfl
  |arg i=>rfl
 have ko:∀q,eA (s q) (s' q):=by
  intro q
  by_cases hq:q= .tmp t
  ·subst hq;rw[←hs',jD];exact eA.bump rfl rfl
  ·rw[←hs',jE _ _ hq];exact eA.refl _
 have eW:∀(c:C) (x:Value),ax K β Z s a w c x→ax K β Z s' (a.put (some t) u) w c x:=fun c x bu=>
  ax.step (fun _ _ h=>h) (fun b hb=>⟨rfl,hb⟩) ko (fun r j hr _=>by
   by_cases hq:r= .tmp t
   ·subst hq;rw[←hs',jD]at hr;simp at hr
   ·exact fk r j hq) (fun _ _ _ _ _=>rfl) bu
 refine⟨by simpa[Act.put]using h.size,h.defers,h.os,h.tape,h.output,h.base,h.frame,h.dH,h.jr,?_,?_,?_,?_,?_,?_,h.cZ,h.kj⟩
 ·intro b hb
  rcases h.kg b hb with g|g|g|⟨i,j',e',ys',u',g1,g2,g3⟩
  ·exact .inl g
  ·exact .inr (.inl g)
  ·exact .inr (.inr (.inl g))
  ·exact .inr (.inr (.inr ⟨i,j',e',ys',u',by rw[hcells,if_neg (by simp)];exact g1,g2,g3⟩))
 ·intro t'
  rw[hcells,eP]
  by_cases e:t'=t
  ·subst e;rw[if_pos rfl,if_pos rfl];exact aY.mono (fun c x _=>eW c x) hv
  ·rw[if_neg e,if_neg (by simpa using e)];exact aY.mono (fun c x _=>eW c x) (h.tmps t')
 ·intro i
  rw[hcells,if_neg (by simp)]
  exact aY.mono (fun c x _=>eW c x) (h.args i)
 ·intro k
  rw[hcells,if_neg (by simp)]
  have hb:=h.boxes k
  cases hv:(s (.box k)).v with
  |agg cs=>
   obtain⟨b,ws,el,lo,hi,g1,g2,g3,g4,g5⟩:=dc.cell h hv
   exact⟨b,ws,el,lo,hi,g1,g2,g3,g4,g5.mono fun u c=>eW c u⟩
  |one c=>rw[hv]at hb;exact hb.elim
  |aJ x=>rw[hv]at hb;exact hb.elim
  |undef=>rw[hv]at hb;exact hb
 ·intro q i e xs u1 b hq hc hh hb
  rw[hcells]at hc
  by_cases e':q= .tmp t
  ·subst e'
   rw[if_pos rfl]at hc
   simp only[bP]at hh
   rw[eP,if_pos rfl]at hh
   exact ho i e xs u1 b hc hh hb
  ·rw[if_neg e']at hc
   rw[fk q i e']at hh
   exact h.own q i e xs u1 b hq hc hh hb
 ·intro i j e xs u1 b hc hh hb
  rw[hcells,if_neg (by simp)]at hc
  exact h.fT i j e xs u1 b hc hh hb
theorem Rel.avT (h:Rel K β ω Z s a w) {i j e:Nat} {ys:List (List D)} (hc:(s (.arg i)).at j= .own e ys) {u0:Value} {b0:Nat} (hh:(flat (K.argv.getD i undef))[j]? =some u0) (hb0:cP u0=some b0):
  Rel K β ω (fun b=>Z b∨(b=b0∧Live u0)) (s.set (.arg i) { s (.arg i)with v:=(s (.arg i)).v.setCell j (.d (.sl e ys)) }) a w∧
  Calm K β a ω Z s w ω (fun b=>Z b∨(b=b0∧Live u0)) (s.set (.arg i) { s (.arg i)with v:=(s (.arg i)).v.setCell j (.d (.sl e ys)) }) w:=by
 have hcell:=fJ hc (by simp)
 obtain⟨u,hu1,yH⟩:=h.cell hcell
 simp only[bP]at hu1
 rw[hh]at hu1
 cases hu1
 obtain⟨hlt,hE⟩:=h.fT i j e ys u0 b0 hcell hh hb0
 generalize hs':s.set (.arg i) { s (.arg i)with v:=(s (.arg i)).v.setCell j (.d (.sl e ys)) }=s'
 have hcells:∀q,(s' q).v=if q= .arg i then(s (.arg i)).v.setCell j (.d (.sl e ys))else(s q).v:=fun q=>by rw[←hs'];exact yG ..
 have avU:ω b0=none:=by
  cases cy:ω b0 with
  |none=>rfl
  |some g=>exact absurd ((h.cZ _ _ cy).2.2 hlt) hE
 have mB:∀(q:ah) (l e:Nat) (xs:List (List D)),(s' q).v.cells[l]? =some (.own e xs)→(s q).v.cells[l]? =some (.own e xs):=by
  intro q l e' xs hq
  rw[hcells]at hq
  split at hq
  ·rename_i gf
   subst gf
   rcases acD hq with⟨_,h2⟩|⟨h1,h2⟩
   ·cases h2
   ·exact h2
  ·exact hq
 have ko:∀q,eA (s q) (s' q):=by
  intro q
  by_cases hq:q= .arg i
  ·subst hq
   rw[←hs',jD]
   refine⟨Nat.le_refl _,Nat.le_refl _,fun _ l hl=>?_⟩
   simp only[RV.at,oN,List.getD_eq_getElem?_getD,List.getElem?_set]at hl ⊢
   by_cases hij:j=l
   ·subst hij
    have hlen:j<(s (.arg i)).v.cells.length:=(List.getElem?_eq_some_iff.1 hcell).1
    simp only[if_true,hlen,Option.getD_some]
    exact .inr (.inl ⟨e,ys,by rw[hcell];rfl,rfl⟩)
   ·simp only[hij,if_false];exact .inl rfl
  ·rw[←hs',jE _ _ hq];exact eA.refl _
 have hfr:∀b,b<w.heap.size→ie K β s a w b→ω b=ω b∧ie K β s' a w b:=fun b _ hf=>
  ⟨rfl,fun q l e' xs u' b' hq cF c6 aM=>hf q l e' xs u' b' hq (mB q l e' xs cF) c6 aM⟩
 have qj:Calm K β a ω Z s w ω (fun b=>Z b∨(b=b0∧Live u0)) s' w:=⟨fun b hb=>.inl hb,fun _ _=>rfl,Nat.le_refl _,ko,fun _ _=>rfl,hfr⟩
 have eW:∀(c:C) (u:Value),ax K β Z s a w c u→ax K β (fun b=>Z b∨(b=b0∧Live u0)) s' a w c u:=fun c u bu=>
  ax.step (fun _ _ h=>h) (fun b hb=>⟨rfl,.inl hb⟩) ko (fun _ _ _ _=>rfl) (fun _ _ _ _ _=>rfl) bu
 have hnew:ax K β (fun b=>Z b∨(b=b0∧Live u0)) s' a w (.d (.sl e ys)) u0:=by
  show bL w (fun b=>Z b∨(b=b0∧Live u0)) (.sl e ys) u0
  by_cases he:aW e=true
  ·obtain⟨b,rfl,g⟩:=(ax.jL he).1 yH
   rw[jn,Option.some.injEq]at hb0
   subst hb0
   exact(bL.kf he).2 ⟨b,rfl,.inr ⟨rfl,am3 ..⟩,cH.mono (fun b hb=>⟨rfl,.inl hb⟩) e ys _ rfl g⟩
  ·have he:aW e=false:=by simpa using he
   obtain⟨ad,cap,rfl,hsp,hle,hrows⟩:=(ax.gK he).1 yH
   simp only[cP,Option.some.injEq]at hb0
   subst hb0
   exact(bL.iX he).2 ⟨ad,cap,rfl,(Nat.eq_zero_or_pos cap).imp id fun hc=>⟨hsp,.inr ⟨rfl,Nat.ne_of_gt hc⟩⟩,hle,cq.mono (fun b hb=>⟨rfl,.inl hb⟩) e ys _ _ rfl hrows⟩
 refine⟨⟨h.size,h.defers,h.os,h.tape,h.output,h.base,h.frame,?_,fun b hb=>.inl (h.jr b hb),?_,?_,?_,?_,?_,?_,?_,h.kj⟩,qj⟩
 ·rintro b (hb|⟨rfl,hcap⟩)
  ·exact h.dH b hb
  ·exact Nat.lt_of_lt_of_le hlt h.base
 ·rintro b (hb|⟨rfl,hcap⟩)
  ·rcases h.kg b hb with g|g|g|⟨i',j',e',ys',u',g1,g2,g3⟩
   ·exact .inl g
   ·exact .inr (.inl g)
   ·exact .inr (.inr (.inl g))
   ·refine .inr (.inr (.inr ⟨i',j',e',ys',u',?_,g2,g3⟩))
    rw[hcells]
    split
    ·rename_i hi
     rw[oN,List.getElem?_set]
     by_cases hj:j=j'
     ·subst hj
      cases hi
      rw[hcell]at g1
      cases g1
     ·rw[if_neg hj];cases hi;exact g1
    ·exact g1
  ·refine .inr (.inr (.inr ⟨i,j,e,ys,u0,?_,hh,hb0,hcap⟩))
   rw[hcells,if_pos rfl,oN,List.getElem?_set]
   simp[(List.getElem?_eq_some_iff.1 hcell).1]
 ·intro t
  rw[hcells,if_neg (by simp)]
  exact aY.mono (fun c u _=>eW c u) (h.tmps t)
 ·intro i'
  rw[hcells]
  split
  ·rename_i hi
   cases hi
   refine aY.setCell (aY.mono (fun c u _=>eW c u) (h.args i)) fun u hu=>?_
   rw[hh]at hu
   cases hu
   exact hnew
  ·exact aY.mono (fun c u _=>eW c u) (h.args i')
 ·intro k
  have hb:=h.boxes k
  rw[hcells,if_neg (by simp)]
  cases hv:(s (.box k)).v with
  |agg cs=>
   obtain⟨b,ws,el,lo,hi,g1,g2,g3,g4,g5⟩:=dc.cell h hv
   exact⟨b,ws,el,lo,hi,g1,g2,g3,g4,g5.mono fun u c=>eW c u⟩
  |one c=>rw[hv]at hb;exact hb.elim
  |aJ x=>rw[hv]at hb;exact hb.elim
  |undef=>rw[hv]at hb;exact hb
 ·intro q l e' xs u' b' hq cF c6 aM
  exact h.own q l e' xs u' b' hq (mB q l e' xs cF) c6 aM
 ·intro i' j' e' xs u' b' cF c6 aM
  exact h.fT i' j' e' xs u' b' (mB _ _ _ _ cF) c6 aM
 ·intro b g hb
  obtain⟨g1,g2,g3⟩:=h.cZ b g hb
  refine⟨?_,g2,g3⟩
  rintro (hz|⟨rfl,_⟩)
  ·exact g1 hz
  ·rw[avU]at hb;cases hb
theorem Rel.aga (h:Rel K β ω Z s a w) {w':World} (jb:∀b,b<w.heap.size→w'.heap[b]? =w.heap[b]?) (r:ah) (j:Nat):bP K β a w' r j=bP K β a w r j:=by
 cases r with
 |tmp t=>rfl
 |arg i=>rfl
 |box k=>
  have hb:=h.boxes k
  cases hv:(s (.box k)).v with
  |agg cs=>
   obtain⟨b,ws,el,lo,hi,g1,g2,g3,g4,g5⟩:=dc.cell h hv
   simp only[bP,g1,Option.bind_some]
   exact cell_of_heap (jb b (h.cZ _ _ g2).2.1) _ _
  |one c=>rw[hv]at hb;exact hb.elim
  |aJ x=>rw[hv]at hb;exact hb.elim
  |undef=>rw[hv]at hb;simp only[dc]at hb;simp[bP,hb]
theorem Rel.grow (h:Rel K β ω Z s a w) {w':World} (jb:∀b,b<w.heap.size→w'.heap[b]? =w.heap[b]?) (hsize:w.heap.size≤w'.heap.size) (hos:w'.os=w.os) (sM:w'.tape=w.tape) (hout:w'.output=w.output)
  {ω':Nat→Option bX} (cy:∀b,b<w.heap.size→ω' b=ω b) (af9:∀b g,w.heap.size≤b→ω' b=some g→b<w'.heap.size):
  Rel K β ω' Z s a w'∧Calm K β a ω Z s w ω' Z s w':=by
 have fk:=h.aga jb
 have hfr:∀b,b<w.heap.size→ie K β s a w b→ω' b=ω b∧ie K β s a w' b:=fun b hb hf=>
  ⟨cy b hb,fun q l e' xs u' b' hq cF c6 aM=>hf q l e' xs u' b' hq cF (by rw[←fk];exact c6) aM⟩
 have qj:Calm K β a ω Z s w ω' Z s w':=⟨fun b hb=>hb,jb,hsize,fun _=>eA.refl _,fk,hfr⟩
 have gW:∀(r:ah) (j:Nat) (c:C) (u:Value),(s r).v.cells[j]? =some c→bP K β a w r j=some u→ax K β Z s a w c u→ax K β Z s a w' c u:=by
  intro r j c u hc hu bu
  refine qj.iq h.dH (fun e xs b h1 h2=>?_) bu
  subst h1
  by_cases hr:r.isArg=true
  ·cases r with
   |arg i=>exact Nat.lt_of_lt_of_le (h.fT i j e xs u b hc hu h2).1 h.base
   |tmp t=>simp[ah.isArg]at hr
   |box k=>simp[ah.isArg]at hr
  ·exact(h.cZ _ _ (h.own r j e xs u b (by simpa using hr) hc hu h2).1).2.1
 refine⟨⟨h.size,h.defers,hos.trans h.os,sM.trans h.tape,hout.trans h.output,Nat.le_trans h.base hsize,?_,fun b hb=>Nat.lt_of_lt_of_le (h.dH b hb) hsize,h.jr,h.kg,?_,?_,?_,?_,h.fT,?_,h.kj⟩,qj⟩
 ·intro b hb hE
  rw[jb b (Nat.lt_of_lt_of_le hb h.base)]
  exact h.frame b hb hE
 ·intro t
  exact aY.lD (fun j c u hc hu=>gW (.tmp t) j c u hc hu) (h.tmps t)
 ·intro i
  exact aY.lD (fun j c u hc hu=>gW (.arg i) j c u hc hu) (h.args i)
 ·intro k
  have hb:=h.boxes k
  cases hv:(s (.box k)).v with
  |agg cs=>
   obtain⟨b,ws,el,lo,hi,g1,g2,g3,g4,g5⟩:=dc.cell h hv
   have hlt:=(h.cZ _ _ g2).2.1
   refine⟨b,ws,el,lo,hi,g1,by rw[cy b hlt];exact g2,by rw[jb b hlt];exact g3,g4,au.cW g5.length fun j u c hu hc=>?_⟩
   obtain⟨u',h1,h2⟩:=g5.get hc
   rw[hu]at h1
   cases h1
   exact gW (.box k) j c u (by rw[hv];exact hc) (by rw[jM g1 g3];exact hu) h2
  |one c=>rw[hv]at hb;exact hb.elim
  |aJ x=>rw[hv]at hb;exact hb.elim
  |undef=>rw[hv]at hb;exact hb
 ·intro q i e xs u' b' hq hc hh aM
  rw[fk]at hh
  obtain⟨g1,g2⟩:=h.own q i e xs u' b' hq hc hh aM
  have hlt:=(h.cZ _ _ g1).2.1
  exact⟨by rw[cy _ hlt];exact g1,g2.mono aM (jb _ hlt)⟩
 ·intro b g hb
  by_cases hlt:b<w.heap.size
  ·rw[cy b hlt]at hb
   obtain⟨g1,g2,g3⟩:=h.cZ b g hb
   exact⟨g1,Nat.lt_of_lt_of_le g2 hsize,g3⟩
  ·exact⟨fun hz=>hlt (h.dH b hz),af9 b g (by omega) hb,fun hbase=>absurd (Nat.lt_of_lt_of_le hbase h.base) hlt⟩
theorem Rel.newObj (h:Rel K β ω Z s a w) (o:Obj) (g:bX):
  Rel K β (fun b=>if b=w.heap.size then some g else ω b) Z s a (w.alloc o)∧Calm K β a ω Z s w (fun b=>if b=w.heap.size then some g else ω b) Z s (w.alloc o)∧
  ie K β s a (w.alloc o) w.heap.size∧(w.alloc o).heap[w.heap.size]? =some o:=by
 have jb:∀b,b<w.heap.size→(w.alloc o).heap[b]? =w.heap[b]? :=fun b hb=>by
  show(w.heap.push _)[b]? =_
  rw[Array.getElem?_push,if_neg (by omega)]
 obtain⟨h1,h2⟩:=h.grow (w':=w.alloc o) (ω':=fun b=>if b=w.heap.size then some g else ω b) jb (by simp) rfl rfl rfl (fun b hb=>by simp[Nat.ne_of_lt hb]) (fun b g' hb hg=>by
  simp only[World.size_alloc]
  by_cases gi:b=w.heap.size
  ·omega
  ·rw[if_neg gi]at hg;have:=(h.cZ b _ hg).2.1;omega)
 refine⟨h1,h2,?_,?_⟩
 ·intro q l e' xs u' b' hq cF c6 aM hb
  rw[h.aga jb]at c6
  have:=(h.cZ _ _ (h.own q l e' xs u' b' hq cF c6 aM).1).2.1
  omega
 ·show(w.heap.push _)[w.heap.size]? =_
  simp
theorem Rel.alloc (h:Rel K β ω Z s a w) (cs:Array Value) (el:TypeId) (g:bX):
 Rel K β (fun b=>if b=w.heap.size then some g else ω b) Z s a (w.alloc (.cells cs el))∧Calm K β a ω Z s w (fun b=>if b=w.heap.size then some g else ω b) Z s (w.alloc (.cells cs el))∧
 ie K β s a (w.alloc (.cells cs el)) w.heap.size∧(w.alloc (.cells cs el)).heap[w.heap.size]? =some (.cells cs el (0,0)):=h.newObj _ g
theorem Rel.drew (h:Rel K β ω Z s a w):Rel K β ω Z s a { w with drawn:=w.drawn+1 }∧Calm K β a ω Z s w ω Z s { w with drawn:=w.drawn+1 }:=
 h.grow (w':={ w with drawn:=w.drawn+1 }) (ω':=ω) (fun _ _=>rfl) (Nat.le_refl _) rfl rfl rfl (fun _ _=>rfl) (fun b g hb hg=>by have:=(h.cZ b g hg).2.1;omega)
end
end Go.Vs
namespace Go.Vs
theorem sN (b o n:Nat):Addr.add ⟨b,o,none⟩ n=⟨b,o+n,none⟩:=by
 unfold Addr.add
 split
 ·rename_i h;subst h;rfl
 ·rfl
theorem nH {ad:Addr} (h:ad.spot=none) (n:Nat):ad.add n=⟨ad.block,ad.off+n,none⟩:=by
 obtain⟨b,o,sp⟩:=ad
 simp only at h
 subst h
 exact sN b o n
theorem run_loadCellsFrom {P:Program} {w:World} {b o:Nat} {ws:Array Value} {el:TypeId} {fz:Nat×Nat} (hw:w.heap[b]? =some (.cells ws el fz)):∀(n i:Nat) (acc:Array Value),o+i+n≤ws.size→
  (loadCellsFrom ⟨b,o,none⟩ i n acc).run P w= .ok (acc++(ws.extract (o+i) (o+i+n))) w:=by
 intro n
 induction n with
 |zero=>
  intro i acc h
  simp[loadCellsFrom]
  omega
 |succ n ih=>
  intro i acc h
  have hc:w.cell? ⟨b,o+i,none⟩=some ws[o+i]:=by simp[World.cell?,hw,Array.getElem?_eq_getElem (show o+i<ws.size by omega)]
  simp only[loadCellsFrom,Sem.run_bind,sN,load,Sem.run,hc,Result.andThen_ok]
  rw[ih (i+1) _ (by omega)]
  congr 1
  apply Array.toList_inj.1
  simp only[Array.toList_append,Array.toList_push,Array.toList_extract,List.extract_eq_take_drop,List.append_assoc]
  congr 1
  rw[show o+(i+1)+n - (o+(i+1))=n by omega,show o+i+(n+1) - (o+i)=n+1 by omega]
  have hl:o+i<ws.toList.length:=by simpa using(show o+i<ws.size by omega)
  rw[List.drop_eq_getElem_cons hl]
  simp[show o+(i+1)=o+i+1 by omega]
theorem run_loadCells {P:Program} {w:World} {b o n:Nat} {ws:Array Value} {el:TypeId} {fz:Nat×Nat} (hw:w.heap[b]? =some (.cells ws el fz)) (h:o+n≤ws.size):
  (loadCells ⟨b,o,none⟩ n).run P w= .ok (ws.extract o (o+n)) w:=by
 have:=run_loadCellsFrom (P:=P) hw n 0 #[] (by omega)
 simpa[loadCells]using this
structure yJ (w w':World) (b:Nat) (ws eR:Array Value) (el:TypeId) (fz:Nat×Nat):Prop where
 os:w'.os=w.os
 tape:w'.tape=w.tape
 output:w'.output=w.output
 size:w'.heap.size=w.heap.size
 other:∀c,c≠b→w'.heap[c]? =w.heap[c]?
 here:w'.heap[b]? =some (.cells eR el fz)
 len:eR.size=ws.size
theorem heap_setCell {w:World} {b o:Nat} {v:Value} {ws:Array Value} {el:TypeId} {fz:Nat×Nat} (hw:w.heap[b]? =some (.cells ws el fz)):
  (w.setCell ⟨b,o,none⟩ v).heap[b]? =some (.cells (ws.setIfInBounds o v) el fz)∧∀c,c≠b→(w.setCell ⟨b,o,none⟩ v).heap[c]? =w.heap[c]? :=by
 constructor
 ·simp[World.setCell,Array.getElem?_modify,hw]
 ·intro c hc
  simp[World.setCell,Array.getElem?_modify,Ne.symm hc]
theorem am8 {l:List Value} {o:Nat} {v:Value} {vs:List Value} (h:o<l.length):splice (l.set o v) (o+1) vs=splice l o (v :: vs):=by
 have h1:(l.set o v).take (o+1)=l.take o++[v]:=by
  rw[List.take_set,List.take_succ_eq_append_getElem h,List.set_append_right _ _ (by simp;omega)]
  simp[Nat.min_eq_left (Nat.le_of_lt h)]
 simp only[splice,h1,List.length_cons]
 rw[List.drop_set_of_lt (by omega),show o+1+vs.length=o+(vs.length+1) by omega]
 simp
theorem agb {P:Program} {b o:Nat} {el:TypeId} {lo hi:Nat}:∀(vs:List Value) (i:Nat) (w:World) (ws:Array Value),w.heap[b]? =some (.cells ws el (lo,hi))→
  (∀x,x<ws.size→¬(lo≤x∧x<hi))→o+i+vs.length≤ws.size→(∀v∈vs,fj v=true)→
  ∃w' eR,(storeCells ⟨b,o,none⟩ vs i).run P w= .ok () w'∧yJ w w' b ws eR el (lo,hi)∧eR.toList=splice ws.toList (o+i) vs:=by
 intro vs
 induction vs with
 |nil=>
  intro i w ws hw hf hl hv
  exact⟨w,ws,by simp[storeCells],⟨rfl,rfl,rfl,rfl,fun _ _=>rfl,hw,rfl⟩,by simp[splice]⟩
 |cons v vs ih=>
  intro i w ws hw hf hl hv
  simp only[List.length_cons]at hl
  have hlt:o+i<ws.size:=by omega
  have hc:w.cell? ⟨b,o+i,none⟩=some ws[o+i]:=by simp[World.cell?,hw,Array.getElem?_eq_getElem hlt]
  have hfr:w.frozen? ⟨b,o+i,none⟩=false:=by
   have:=hf (o+i) hlt
   simp only[World.frozen?,hw]
   simp only[Bool.and_eq_false_iff,decide_eq_false_iff_not]
   by_cases h1:lo≤o+i
   ·exact .inr (fun h2=>this ⟨h1,h2⟩)
   ·exact .inl h1
  have hone:=hv v (List.mem_cons_self ..)
  have avV:(store ⟨b,o+i,none⟩ v).run P w= .ok () (w.setCell ⟨b,o+i,none⟩ v):=by
   cases v<;>simp_all [store,Sem.run,fj]
  obtain⟨h1,h2⟩:=heap_setCell (w:=w) (v:=v) (o:=o+i) hw
  obtain⟨w',eR,g1,g2,g3⟩:=ih (i+1) (w.setCell ⟨b,o+i,none⟩ v) (ws.setIfInBounds (o+i) v) h1 (by simpa using hf) (by simp;omega) (fun x hx=>hv x (List.mem_cons_of_mem _ hx))
  refine⟨w',eR,?_,⟨g2.os,g2.tape,g2.output,by rw[g2.size];simp[World.setCell],fun c hc=>(g2.other c hc).trans (h2 c hc),g2.here,by rw[g2.len];simp⟩,?_⟩
  ·simp only[storeCells,Sem.run_bind,sN,avV,Result.andThen_ok]
   exact g1
  ·rw[g3]
   rw[Array.toList_setIfInBounds,show o+(i+1)=o+i+1 by omega]
   exact am8 (by simpa using hlt)
section
variable {K:Ctx} {β:Key→Option Nat} {ω:Nat→Option bX} {Z:Nat→Prop} {s:St} {a:Act} {w:World}
theorem Rel.aHx (h:Rel K β ω Z s a w) {k k':Key} {b b':Nat} (hb:β k=some b) (cy:ω b=some (.box k,none)) (hk:k'≠k) (hb':β k'=some b'):b'≠b:=by
 intro e
 subst e
 have:=h.boxes k'
 cases hv:(s (.box k')).v with
 |agg cs=>
  obtain⟨b2,ws,el,lo,hi,g1,g2,g3,g4,g5⟩:=dc.cell h hv
  rw[hb']at g1
  cases g1
  rw[g2]at cy
  cases cy
  exact hk rfl
 |one c=>rw[hv]at this;exact this.elim
 |aJ x=>rw[hv]at this;exact this.elim
 |undef=>rw[hv]at this;simp only[dc]at this;rw[this]at hb';cases hb'
theorem Rel.agc (h:Rel K β ω Z s a w) {k:Key} {b:Nat} {ws:Array Value} {el:TypeId} {lo hi:Nat} {w':World} {cs:List C}
  (cy:ω b=some (.box k,none)) (iZ:β k=none∨β k=some b)
  (hos:w'.os=w.os) (sM:w'.tape=w.tape) (hout:w'.output=w.output) (hsize:w'.heap.size=w.heap.size) (sO:∀c,c≠b→w'.heap[c]? =w.heap[c]?)
  (mD:w'.heap[b]? =some (.cells ws el (lo,hi))) (hfz:∀o,o<ws.size→¬(lo≤o∧o<hi))
  (hcs:au (fun u c=>ax K β Z s a w c u) ws.toList cs)
  (am9:∀(j e:Nat) (xs:List (List D)) (u1:Value) (b1:Nat),cs[j]? =some (.own e xs)→ws.toList[j]? =some u1→cP u1=some b1→ω b1=some (.box k,some j)∧jq w e u1):
  Rel K (fun k'=>if k'=k then some b else β k') ω Z (s.set (.box k) { hv:=(s (.box k)).hv+1,cv:=(s (.box k)).cv,v:=.agg cs }) a w'∧
  (∀(c:C) (u:Value),(∀(e:Nat) (xs:List (List D)) (b1:Nat),c= .own e xs→cP u=some b1→b1≠b)→ax K β Z s a w c u→
    ax K (fun k'=>if k'=k then some b else β k') Z (s.set (.box k) { hv:=(s (.box k)).hv+1,cv:=(s (.box k)).cv,v:=.agg cs }) a w' c u):=by
 generalize hs':s.set (.box k) { hv:=(s (.box k)).hv+1,cv:=(s (.box k)).cv,v:=.agg cs }=s'
 generalize yK:(fun k'=>if k'=k then some b else β k')=β'
 have vH:β' k=some b:=by rw[←yK];simp
 have ql:∀k',k'≠k→β' k'=β k':=fun k' hk=>by rw[←yK];simp[hk]
 have hcells:∀q,(s' q).v=if q= .box k then .agg cs else(s q).v:=fun q=>by rw[←hs'];exact yG ..
 obtain⟨hnz,hlt,hE⟩:=h.cZ _ _ cy
 have qm:∀k' b',k'≠k→β k'=some b'→b'≠b:=by
  intro k' b' hk hb' e
  subst e
  have:=h.boxes k'
  cases hv:(s (.box k')).v with
  |agg cs'=>
   obtain⟨b2,kr,mE,nI,hi2,g1,g2,g3,g4,g5⟩:=dc.cell h hv
   rw[hb']at g1
   cases g1
   rw[g2]at cy
   cases cy
   exact hk rfl
  |one c=>rw[hv]at this;exact this.elim
  |aJ x=>rw[hv]at this;exact this.elim
  |undef=>rw[hv]at this;simp only[dc]at this;rw[this]at hb';cases hb'
 have fk:∀r j,r≠ .box k→bP K β' a w' r j=bP K β a w r j:=by
  intro r j hr
  cases r with
  |tmp t=>rfl
  |arg i=>rfl
  |box k'=>
   have hk:k'≠k:=fun e=>hr (by rw[e])
   simp only[bP,ql k' hk]
   cases hb':β k' with
   |none=>rfl
   |some b'=>
    simp only[Option.bind_some]
    exact cell_of_heap (sO b' (qm k' b' hk hb')) _ _
 have ko:∀q,eA (s q) (s' q):=by
  intro q
  by_cases hq:q= .box k
  ·subst hq;rw[←hs',jD];exact eA.bump rfl rfl
  ·rw[←hs',jE _ _ hq];exact eA.refl _
 have qn:∀k' b',β k'=some b'→β' k'=some b':=by
  intro k' b' hb'
  by_cases hk:k'=k
  ·subst hk
   rcases iZ with hn|hn
   ·rw[hn]at hb';cases hb'
   ·rw[hn]at hb';cases hb';exact vH
  ·rw[ql k' hk];exact hb'
 have eW:∀(c:C) (u:Value),(∀(e:Nat) (xs:List (List D)) (b1:Nat),c= .own e xs→cP u=some b1→b1≠b)→ax K β Z s a w c u→ax K β' Z s' a w' c u:=fun c u bu h1=>
  ax.step qn (fun b' hb'=>⟨sO b' (fun e=>hnz (e ▸ hb')),hb'⟩) ko (fun r j hr _=>by
   by_cases hq:r= .box k
   ·subst hq;rw[←hs',jD]at hr;simp at hr
   ·exact fk r j hq) (fun e xs b1 h2 h3=>sO _ (bu e xs b1 h2 h3)) h1
 have gW:∀(r:ah) (j:Nat) (c:C) (u:Value),r≠ .box k→(s r).v.cells[j]? =some c→bP K β a w r j=some u→ax K β Z s a w c u→ax K β' Z s' a w' c u:=by
  intro r j c u hr hc hu
  refine eW c u fun e xs b1 h1 h2 hb=>?_
  subst h1
  by_cases dA:r.isArg=true
  ·cases r with
   |arg i=>
    obtain⟨g1,g2⟩:=h.fT i j e xs u b1 hc hu h2
    rw[hb]at g1 g2
    exact g2 (hE g1)
   |tmp t=>simp[ah.isArg]at dA
   |box k=>simp[ah.isArg]at dA
  ·have:=(h.own r j e xs u b1 (by simpa using dA) hc hu h2).1
   rw[hb,cy]at this
   cases this
 have ana:∀(j e:Nat) (xs:List (List D)) (u1:Value) (b1:Nat),cs[j]? =some (.own e xs)→ws.toList[j]? =some u1→cP u1=some b1→b1≠b:=by
  intro j e xs u1 b1 h1 h2 aM hb
  have:=(am9 j e xs u1 b1 h1 h2 aM).1
  rw[hb,cy]at this
  cases this
 refine⟨⟨h.size,h.defers,hos.trans h.os,sM.trans h.tape,hout.trans h.output,by rw[hsize];exact h.base,?_,fun b' hb'=>by rw[hsize];exact h.dH b' hb',h.jr,?_,?_,?_,?_,?_,?_,?_,fun k' b' hb'=>qn k' b' (h.kj k' b' hb')⟩,eW⟩
 ·intro b' hb' qo
  rw[sO b' (fun e=>by subst e;exact qo (hE hb'))]
  exact h.frame b' hb' qo
 ·intro b' hb'
  rcases h.kg b' hb' with g|g|g|⟨i,j',e',ys',u',g1,g2,g3⟩
  ·exact .inl g
  ·exact .inr (.inl g)
  ·exact .inr (.inr (.inl g))
  ·exact .inr (.inr (.inr ⟨i,j',e',ys',u',by rw[hcells,if_neg (by simp)];exact g1,g2,g3⟩))
 ·intro t
  rw[hcells,if_neg (by simp)]
  exact aY.lD (fun j c u hc hu=>gW (.tmp t) j c u (by simp) hc hu) (h.tmps t)
 ·intro i
  rw[hcells,if_neg (by simp)]
  exact aY.lD (fun j c u hc hu=>gW (.arg i) j c u (by simp) hc hu) (h.args i)
 ·intro k'
  rw[hcells]
  by_cases hk:k'=k
  ·subst hk
   rw[if_pos rfl]
   refine⟨b,ws,el,lo,hi,vH,cy,mD,hfz,au.cW hcs.length fun j u c hu hc=>?_⟩
   obtain⟨u',h1,h2⟩:=hcs.get hc
   rw[hu]at h1
   cases h1
   exact eW c u (fun e xs b1 h3 h4=>ana j e xs u b1 (h3 ▸ hc) hu h4) h2
  ·rw[if_neg (by simpa using hk)]
   have hb:=h.boxes k'
   cases hv:(s (.box k')).v with
   |agg cs'=>
    obtain⟨b2,kr,mE,nI,hi2,g1,g2,g3,g4,g5⟩:=dc.cell h hv
    refine⟨b2,kr,mE,nI,hi2,by rw[ql k' hk];exact g1,g2,by rw[sO b2 (qm k' b2 hk g1)];exact g3,g4,au.cW g5.length fun j u c hu hc=>?_⟩
    obtain⟨u',h1,h2⟩:=g5.get hc
    rw[hu]at h1
    cases h1
    exact gW (.box k') j c u (by simpa using hk) (by rw[hv];exact hc) (by rw[jM g1 g3];exact hu) h2
   |one c=>rw[hv]at hb;exact hb.elim
   |aJ x=>rw[hv]at hb;exact hb.elim
   |undef=>rw[hv]at hb;simp only[dc]at hb ⊢;rw[ql k' hk];exact hb
 ·intro q i e xs u1 b1 hq hc hh aM
  rw[hcells]at hc
  by_cases hqk:q= .box k
  ·subst hqk
   rw[if_pos rfl]at hc
   rw[jM vH mD]at hh
   obtain⟨g1,g2⟩:=am9 i e xs u1 b1 hc hh aM
   exact⟨g1,g2.mono aM (sO _ (ana i e xs u1 b1 hc hh aM))⟩
  ·rw[if_neg hqk]at hc
   rw[fk q i hqk]at hh
   obtain⟨g1,g2⟩:=h.own q i e xs u1 b1 hq hc hh aM
   exact⟨g1,g2.mono aM (sO _ (fun e=>by rw[e,cy]at g1;cases g1))⟩
 ·intro i j e xs u1 b1 hc hh aM
  rw[hcells,if_neg (by simp)]at hc
  exact h.fT i j e xs u1 b1 hc hh aM
 ·intro b' g hb'
  rw[hsize]
  exact h.cZ b' g hb'
structure Chg (w w':World) (b:Nat):Prop where
 os:w'.os=w.os
 tape:w'.tape=w.tape
 output:w'.output=w.output
 size:w'.heap.size=w.heap.size
 other:∀c,c≠b→w'.heap[c]? =w.heap[c]?
theorem yJ.chg {w w':World} {b:Nat} {ws eR:Array Value} {el:TypeId} {fz:Nat×Nat} (h:yJ w w' b ws eR el fz):Chg w w' b:=⟨h.os,h.tape,h.output,h.size,h.other⟩
theorem Rel.anb (h:Rel K β ω Z s a w) {r:ah} {j e:Nat} {ys ys':List (List D)} (hc:(s r).at j= .own e ys) (hr:r.isArg=false) {u0:Value} {b0:Nat} (hh:bP K β a w r j=some u0) (hb0:cP u0=some b0)
  {w':World} (hw:Chg w w' b0) (avX:jq w' e u0)
  (hnew:∀(s':St),ax K β Z s' a w' (.own e ys') u0):
  Rel K β ω Z (s.set r { s r with cv:=(s r).cv+1,v:=(s r).v.setCell j (.own e ys') }) a w':=by
 have hcell:=fJ hc (by simp)
 obtain⟨ja,hwr⟩:=h.own r j e ys u0 b0 hr hcell hh hb0
 obtain⟨hnz,hlt,hE⟩:=h.cZ _ _ ja
 generalize hs':s.set r { s r with cv:=(s r).cv+1,v:=(s r).v.setCell j (.own e ys') }=s'
 have hcells:∀q,(s' q).v=if q=r then(s r).v.setCell j (.own e ys')else(s q).v:=fun q=>by rw[←hs'];exact yG ..
 have mB:∀(q:ah) (i e1:Nat) (xs:List (List D)),(s' q).v.cells[i]? =some (.own e1 xs)→(q=r∧i=j∧e1=e∧xs=ys')∨((s q).v.cells[i]? =some (.own e1 xs)∧¬(q=r∧i=j)):=by
  intro q i e' xs hq
  rw[hcells]at hq
  split at hq
  ·rename_i gf
   subst gf
   rcases acD hq with⟨h1,h2⟩|⟨h1,h2⟩
   ·cases h2;exact .inl ⟨rfl,h1,rfl,rfl⟩
   ·exact .inr ⟨h2,fun hx=>h1 hx.2⟩
  ·rename_i gf
   exact .inr ⟨hq,fun hx=>gf hx.1⟩
 have ko:∀q,eA (s q) (s' q):=by
  intro q
  by_cases hq:q=r
  ·subst hq
   rw[←hs',jD]
   refine⟨Nat.le_refl _,by simp,fun _ i hi=>?_⟩
   simp only[RV.at,oN,List.getD_eq_getElem?_getD,List.getElem?_set]at hi ⊢
   by_cases hij:j=i
   ·subst hij
    have hl:j<(s q).v.cells.length:=(List.getElem?_eq_some_iff.1 hcell).1
    simp only[if_true,hl,Option.getD_some]
    exact .inr (.inr ⟨by omega,e,ys,ys',by rw[hcell];rfl,.inl rfl⟩)
   ·simp only[hij,if_false];exact .inl rfl
  ·rw[←hs',jE _ _ hq];exact eA.refl _
 have qm:∀k' b',β k'=some b'→b'≠b0:=by
  intro k' b' hb' e
  subst e
  have:=h.boxes k'
  cases hv:(s (.box k')).v with
  |agg cs'=>
   obtain⟨b2,kr,mE,nI,hi2,g1,g2,g3,g4,g5⟩:=dc.cell h hv
   rw[hb']at g1
   cases g1
   rw[g2]at ja
   cases ja
  |one c=>rw[hv]at this;exact this.elim
  |aJ x=>rw[hv]at this;exact this.elim
  |undef=>rw[hv]at this;simp only[dc]at this;rw[this]at hb';cases hb'
 have fk:∀q i,bP K β a w' q i=bP K β a w q i:=by
  intro q i
  cases q with
  |tmp t=>rfl
  |arg i=>rfl
  |box k'=>
   simp only[bP]
   cases hb':β k' with
   |none=>rfl
   |some b'=>simp only[Option.bind_some];exact cell_of_heap (hw.other b' (qm k' b' hb')) _ _
 have eW:∀(c:C) (u:Value),(∀(e:Nat) (xs:List (List D)) (b1:Nat),c= .own e xs→cP u=some b1→b1≠b0)→ax K β Z s a w c u→ax K β Z s' a w' c u:=fun c u bu h1=>
  ax.step (fun _ _ h=>h) (fun b' hb'=>⟨hw.other b' (fun e=>hnz (e ▸ hb')),hb'⟩) ko (fun q i _ _=>fk q i) (fun e xs b1 h2 h3=>hw.other _ (bu e xs b1 h2 h3)) h1
 have qk:∀(q:ah) (i e':Nat) (xs:List (List D)) (u':Value) (b':Nat),(s q).v.cells[i]? =some (.own e' xs)→¬(q=r∧i=j)→bP K β a w q i=some u'→cP u'=some b'→b'≠b0:=by
  intro q i e' xs u' b' cF hn c6 aM hb
  by_cases hq:q.isArg=true
  ·cases q with
   |arg i'=>
    obtain⟨g1,g2⟩:=h.fT i' i e' xs u' b' cF c6 aM
    rw[hb]at g1 g2
    exact g2 (hE g1)
   |tmp t=>simp[ah.isArg]at hq
   |box k=>simp[ah.isArg]at hq
  ·have:=(h.own q i e' xs u' b' (by simpa using hq) cF c6 aM).1
   rw[hb,ja]at this
   simp only[Option.some.injEq,Prod.mk.injEq]at this
   exact hn ⟨this.1.symm,this.2.symm⟩
 have gW:∀(q:ah) (i:Nat) (c:C) (u:Value),¬(q=r∧i=j)→(s q).v.cells[i]? =some c→bP K β a w q i=some u→ax K β Z s a w c u→ax K β Z s' a w' c u:=by
  intro q i c u hn cF hu
  refine eW c u fun e' xs b1 h1 h2=>?_
  subst h1
  exact qk q i e' xs u b1 cF hn hu h2
 have anc:∀(q:ah) (i:Nat) (c:C) (u:Value),(s' q).v.cells[i]? =some c→bP K β a w q i=some u→(∀c0,(s q).v.cells[i]? =some c0→ax K β Z s a w c0 u)→ax K β Z s' a w' c u:=by
  intro q i c u cF hu h0
  rw[hcells]at cF
  by_cases gf:q=r
  ·subst gf
   rw[if_pos rfl]at cF
   rcases acD cF with⟨rfl,rfl⟩|⟨h1,h2⟩
   ·rw[hh]at hu;cases hu;exact hnew s'
   ·exact gW q i c u (fun hx=>h1 hx.2) h2 hu (h0 c h2)
  ·rw[if_neg gf]at cF
   exact gW q i c u (fun hx=>gf hx.1) cF hu (h0 c cF)
 have avY:∀(q:ah) (v:Value),aY iY v (s q).v→aY iY v (s' q).v:=by
  intro q v hv
  rw[hcells]
  split
  ·rename_i hq;subst hq;exact aY.setCell hv fun _ _=>trivial
  ·exact hv
 have avZ:∀q,(s' q).v.cells.length=(s q).v.cells.length:=by
  intro q
  rw[hcells]
  split
  ·rename_i hq;subst hq;rw[oN];simp
  ·rfl
 have av0:∀q,(s' q).v≠ .undef→(s q).v≠ .undef:=by
  intro q hq e
  apply hq
  rw[hcells]
  split
  ·rename_i gf;subst gf;rw[e];rfl
  ·exact e
 have oQ:∀(q:ah) (v:Value),(∀i,bP K β a w q i=(flat v)[i]?)→aY (ax K β Z s a w) v (s q).v→aY (ax K β Z s' a w') v (s' q).v:=by
  intro q v hq hv
  refine aY.of_flat (avY q v hv.shape) fun hu=>?_
  have hf:=hv.flat (av0 q hu)
  refine au.cW (by rw[hf.length,avZ]) fun i u c fK cA=>?_
  refine anc q i c u cA (by rw[hq];exact fK) fun c0 hc0=>?_
  obtain⟨u2,h1,h2⟩:=hf.get hc0
  rw[fK]at h1
  cases h1
  exact h2
 refine⟨h.size,h.defers,hw.os.trans h.os,hw.tape.trans h.tape,hw.output.trans h.output,by rw[hw.size];exact h.base,?_,fun b' hb'=>by rw[hw.size];exact h.dH b' hb',h.jr,?_,?_,?_,?_,?_,?_,?_,h.kj⟩
 ·intro b' hb' qo
  rw[hw.other b' (fun e=>by subst e;exact qo (hE hb'))]
  exact h.frame b' hb' qo
 ·intro b' hb'
  rcases h.kg b' hb' with g|g|g|⟨i,j',e',ys',u',g1,g2,g3⟩
  ·exact .inl g
  ·exact .inr (.inl g)
  ·exact .inr (.inr (.inl g))
  ·exact .inr (.inr (.inr ⟨i,j',e',ys',u',by rw[hcells,if_neg (by rintro rfl;simp[ah.isArg]at hr)];exact g1,g2,g3⟩))
 ·intro t;exact oQ (.tmp t) _ (fun _=>rfl) (h.tmps t)
 ·intro i;exact oQ (.arg i) _ (fun _=>rfl) (h.args i)
 ·intro k
  have hb:=h.boxes k
  cases hv:(s (.box k)).v with
  |agg cs=>
   obtain⟨b2,kr,mE,nI,hi2,g1,g2,g3,g4,g5⟩:=dc.cell h hv
   have mF:∃cs',(s' (.box k)).v= .agg cs'∧cs'.length=cs.length:=by
    rw[hcells]
    split
    ·rename_i hk;rw[←hk,hv];exact⟨_,rfl,by simp⟩
    ·exact⟨cs,hv,rfl⟩
   obtain⟨cs',mF,hl'⟩:=mF
   rw[mF]
   refine⟨b2,kr,mE,nI,hi2,g1,g2,by rw[hw.other b2 (qm k b2 g1)];exact g3,g4,au.cW (by rw[g5.length,hl']) fun i u c fK cA=>?_⟩
   refine anc (.box k) i c u (by rw[mF];exact cA) (by rw[jM g1 g3];exact fK) fun c0 hc0=>?_
   rw[hv]at hc0
   obtain⟨u2,h1,h2⟩:=g5.get hc0
   rw[fK]at h1
   cases h1
   exact h2
  |one c=>rw[hv]at hb;exact hb.elim
  |aJ x=>rw[hv]at hb;exact hb.elim
  |undef=>
   rw[hv]at hb
   rw[hcells]
   split
   ·rename_i hk;subst hk;rw[hv]at hcell;simp[SV.cells]at hcell
   ·rw[hv];exact hb
 ·intro q i e1 xs u1 b1 hq cF c6 aM
  rw[fk]at c6
  rcases mB q i e1 xs cF with⟨rfl,rfl,rfl,rfl⟩|⟨g1,g2⟩
  ·rw[hh]at c6
   cases c6
   rw[hb0]at aM
   cases aM
   exact⟨ja,avX⟩
  ·obtain⟨f1,f2⟩:=h.own q i e1 xs u1 b1 hq g1 c6 aM
   exact⟨f1,f2.mono aM (hw.other _ (qk q i e1 xs u1 b1 g1 g2 c6 aM))⟩
 ·intro i j' e1 xs u1 b1 cF c6 aM
  rcases mB _ _ _ _ cF with⟨rfl,_⟩|⟨g1,g2⟩
  ·simp[ah.isArg]at hr
  ·exact h.fT i j' e1 xs u1 b1 g1 c6 aM
 ·intro b' g hb'
  rw[hw.size]
  exact h.cZ b' g hb'
theorem Rel.setRow (h:Rel K β ω Z s a w) {r:ah} {j e:Nat} {ys ys':List (List D)} (hm:aW e=false) (hc:(s r).at j= .own e ys) (hr:r.isArg=false) {ad:Addr} {len cap:Nat} (hh:bP K β a w r j=some (.slice (some ad) len cap))
  {eR ws:Array Value} {el:TypeId} {fz:Nat×Nat} {w':World} (hw:yJ w w' ad.block ws eR el fz) (hold:w.heap[ad.block]? =some (.cells ws el fz)) (hlen:ys'.length=ys.length)
  (hrows:cq w' Z e ys' ad.block ad.off):
  Rel K β ω Z (s.set r { s r with cv:=(s r).cv+1,v:=(s r).v.setCell j (.own e ys') }) a w':=by
 have hcell:=fJ hc (by simp)
 obtain⟨ja,hwr⟩:=h.own r j e ys _ ad.block hr hcell hh rfl
 obtain⟨u,hu1,bu⟩:=h.cell hcell
 obtain⟨sK,sL,hu2,hsp,hle,aHy⟩:=(ax.gK hm).1 bu
 rw[hh]at hu1
 cases hu1
 cases hu2
 refine h.anb hc hr hh rfl hw.chg ?_ fun s'=>(ax.gK hm).2 ⟨ad,cap,by rw[hlen],hsp,by rw[hlen];exact hle,hrows⟩
 obtain⟨cs,mE,lo,hi,f1,f2,f3⟩:=hwr
 rw[hold]at f1
 cases f1
 exact⟨eR,_,lo,hi,hw.here,by rw[hw.len];exact f2,fun o ho=>f3 o (by rw[←hw.len];exact ho)⟩
theorem Rel.agf (h:Rel K β ω Z s a w) {r:ah} {j e:Nat} {ys ys':List (List D)} (hm:aW e=true) (hc:(s r).at j= .own e ys) (hr:r.isArg=false) {b:Nat} (hh:bP K β a w r j=some (dW e b))
  {w':World} (hw:Chg w w' b) (hrows:cH w' Z e ys' b):
  Rel K β ω Z (s.set r { s r with cv:=(s r).cv+1,v:=(s r).v.setCell j (.own e ys') }) a w':=by
 exact h.anb hc hr hh (jn ..) hw (avS _ hrows) fun s'=>(ax.jL hm).2 ⟨b,rfl,hrows⟩
theorem Rel.av1 (h:Rel K β ω Z s a w) {b:Nat} {r0:ah} {i0:Nat} (cy:ω b=some (r0,some i0)) (hfree:ie K β s a w b) {eR ws:Array Value} {el:TypeId} {fz:Nat×Nat} {w':World} (hw:yJ w w' b ws eR el fz):
  Rel K β ω Z s a w'∧ie K β s a w' b∧(∀(c:C) (u:Value),(∀(e:Nat) (xs:List (List D)) (b1:Nat),c= .own e xs→cP u=some b1→b1≠b)→ax K β Z s a w c u→ax K β Z s a w' c u)∧(∀q i,bP K β a w' q i=bP K β a w q i):=by
 obtain⟨hnz,hlt,hE⟩:=h.cZ _ _ cy
 have qm:∀k' b',β k'=some b'→b'≠b:=by
  intro k' b' hb' e
  subst e
  have:=h.boxes k'
  cases hv:(s (.box k')).v with
  |agg cs'=>
   obtain⟨b2,kr,mE,nI,hi2,g1,g2,g3,g4,g5⟩:=dc.cell h hv
   rw[hb']at g1
   cases g1
   rw[g2]at cy
   cases cy
  |one c=>rw[hv]at this;exact this.elim
  |aJ x=>rw[hv]at this;exact this.elim
  |undef=>rw[hv]at this;simp only[dc]at this;rw[this]at hb';cases hb'
 have fk:∀q i,bP K β a w' q i=bP K β a w q i:=by
  intro q i
  cases q with
  |tmp t=>rfl
  |arg i=>rfl
  |box k'=>
   simp only[bP]
   cases hb':β k' with
   |none=>rfl
   |some b'=>simp only[Option.bind_some];exact cell_of_heap (hw.other b' (qm k' b' hb')) _ _
 have eW:∀(c:C) (u:Value),(∀(e:Nat) (xs:List (List D)) (b1:Nat),c= .own e xs→cP u=some b1→b1≠b)→ax K β Z s a w c u→ax K β Z s a w' c u:=fun c u bu h1=>
  ax.step (fun _ _ h=>h) (fun b' hb'=>⟨hw.other b' (fun e=>hnz (e ▸ hb')),hb'⟩) (fun _=>eA.refl _) (fun q i _ _=>fk q i) (fun e xs b1 h2 h3=>hw.other _ (bu e xs b1 h2 h3)) h1
 have qk:∀(q:ah) (i e':Nat) (xs:List (List D)) (u':Value) (b':Nat),(s q).v.cells[i]? =some (.own e' xs)→bP K β a w q i=some u'→cP u'=some b'→b'≠b:=by
  intro q i e' xs u' b' cF c6 aM hb
  by_cases hq:q.isArg=true
  ·cases q with
   |arg i'=>
    obtain⟨g1,g2⟩:=h.fT i' i e' xs u' b' cF c6 aM
    rw[hb]at g1 g2
    exact g2 (hE g1)
   |tmp t=>simp[ah.isArg]at hq
   |box k=>simp[ah.isArg]at hq
  ·exact hfree q i e' xs u' b' (by simpa using hq) cF c6 aM hb
 have gW:∀(q:ah) (i:Nat) (c:C) (u:Value),(s q).v.cells[i]? =some c→bP K β a w q i=some u→ax K β Z s a w c u→ax K β Z s a w' c u:=by
  intro q i c u cF hu
  refine eW c u fun e' xs b1 h1 h2=>?_
  subst h1
  exact qk q i e' xs u b1 cF hu h2
 refine⟨⟨h.size,h.defers,hw.os.trans h.os,hw.tape.trans h.tape,hw.output.trans h.output,by rw[hw.size];exact h.base,?_,fun b' hb'=>by rw[hw.size];exact h.dH b' hb',h.jr,h.kg,?_,?_,?_,?_,h.fT,?_,h.kj⟩,?_,eW,fk⟩
 ·intro b' hb' qo
  rw[hw.other b' (fun e=>by subst e;exact qo (hE hb'))]
  exact h.frame b' hb' qo
 ·intro t;exact aY.lD (fun j c u hc hu=>gW (.tmp t) j c u hc hu) (h.tmps t)
 ·intro i;exact aY.lD (fun j c u hc hu=>gW (.arg i) j c u hc hu) (h.args i)
 ·intro k
  have hb:=h.boxes k
  cases hv:(s (.box k)).v with
  |agg cs=>
   obtain⟨b2,kr,mE,nI,hi2,g1,g2,g3,g4,g5⟩:=dc.cell h hv
   refine⟨b2,kr,mE,nI,hi2,g1,g2,by rw[hw.other b2 (qm k b2 g1)];exact g3,g4,au.cW g5.length fun j u c hu hc=>?_⟩
   obtain⟨u',h1,h2⟩:=g5.get hc
   rw[hu]at h1
   cases h1
   exact gW (.box k) j c u (by rw[hv];exact hc) (by rw[jM g1 g3];exact hu) h2
  |one c=>rw[hv]at hb;exact hb.elim
  |aJ x=>rw[hv]at hb;exact hb.elim
  |undef=>rw[hv]at hb;exact hb
 ·intro q i e1 xs u1 b1 hq cF c6 aM
  rw[fk]at c6
  obtain⟨f1,f2⟩:=h.own q i e1 xs u1 b1 hq cF c6 aM
  exact⟨f1,f2.mono aM (hw.other _ (qk q i e1 xs u1 b1 cF c6 aM))⟩
 ·intro b' g hb'
  rw[hw.size]
  exact h.cZ b' g hb'
 ·intro q i e1 xs u1 b1 hq cF c6 aM
  rw[fk]at c6
  exact hfree q i e1 xs u1 b1 hq cF c6 aM
end
end Go.Vs
namespace Go.Vs
def bQ (c:C):Prop:=∀e xs,c≠ .own e xs
section
variable {K:Ctx} {β:Key→Option Nat} {ω:Nat→Option bX} {Z:Nat→Prop} {s:St} {a:Act} {w:World}
theorem agh (r:ah) (x:RV) (j:Nat) (c:C):bQ (j8 r x j c):=by
 intro e xs h
 cases c<;>simp[j8]at h
theorem Rel.j8 (h:Rel K β ω Z s a w) {r:ah} {j:Nat} {c:C} {u:Value} (hc:(s r).v.cells[j]? =some c) (hu:bP K β a w r j=some u) (bu:ax K β Z s a w c u):
  ax K β Z s a w (Vs.j8 r (s r) j c) u:=by
 cases c with
 |own e xs=>
  simp only[Vs.j8]
  by_cases he:aW e=true
  ·obtain⟨b,h1,h2⟩:=(ax.jL he).1 bu
   exact(ax.mA he).2 ⟨b,h1,Nat.le_refl _,Nat.le_refl _,fun _ _=>⟨by rw[hu,h1],xs,.inl (sJ hc),fun _=>rfl⟩⟩
  ·have he:aW e=false:=by simpa using he
   obtain⟨ad,cap,h1,h2,h3,h4⟩:=(ax.gK he).1 bu
   exact(ax.lB he).2 ⟨ad,cap,h1,h2,h3,Nat.le_refl _,Nat.le_refl _,fun _ _=>⟨ad,xs.length,cap,by rw[hu,h1],h2,rfl,.inl (by simp),by omega,by omega,by omega,h3,⟨xs,.inl (sJ hc),fun _=>by simp⟩⟩⟩
 |_=>exact bu
theorem yL (r:ah) (x:RV):∀(cs:List C) (j:Nat),(fe r x j cs).length=cs.length
 | [],_=>rfl
 |c :: cs,j=>by simp[fe,yL r x cs (j+1)]
theorem sP (r:ah) (x:RV):∀(cs:List C) (j i:Nat),(fe r x j cs)[i]? =(cs[i]?).map (j8 r x (j+i))
 | [],_,_=>by simp[fe]
 |c :: cs,j,0=>by simp[fe]
 |c :: cs,j,i+1=>by
  simp only[fe,List.getElem?_cons_succ]
  rw[sP r x cs (j+1) i,show j+1+i=j+(i+1) by omega]
theorem ane (r:ah) (x:RV):∀(vs:List (Bool×List C)) (j:Nat),(pV r x j vs).flatMap (·.2)=fe r x j (vs.flatMap (·.2))
 | [],_=>by simp[pV,fe]
 |(b,cs) :: vs,j=>by
  simp only[pV,List.flatMap_cons,ane r x vs]
  have:∀(l m:List C) (j:Nat),fe r x j (l++m)=fe r x j l++fe r x (j+l.length) m:=by
   intro l
   induction l with
   |nil=>intro m j;simp[fe]
   |cons c l ih=>intro m j;simp[fe,ih,show j+1+l.length=j+(l.length+1) by omega]
  rw[this]
theorem acG (x:RV) (r:ah):(x.copy r).cells=fe r x 0 x.v.cells:=by
 unfold RV.copy
 cases x.v with
 |one c=>simp[SV.cells,fe]
 |agg cs=>simp[SV.cells]
 |aJ vs=>simp[SV.cells,ane]
 |undef=>simp[SV.cells,fe]
theorem anf (r:ah) (x:RV):∀{vs:List Value} {xs:List (Bool×List C)} (j:Nat),au (cL iY) vs xs→au (cL iY) vs (pV r x j xs)
 | [],[],_,_=>trivial
 |v :: vs,(b,cs) :: xs,j,h=>by
  refine⟨?_,anf r x _ h.2⟩
  have h1:=h.1
  unfold cL at h1 ⊢
  cases b with
  |true=>
   simp only[if_true]at h1 ⊢
   obtain⟨ws,rfl,g⟩:=h1
   exact⟨ws,rfl,au.cW (by rw[g.length,yL]) fun _ _ _ _ _=>trivial⟩
  |false=>
   simp only[Bool.false_eq_true,if_false]at h1 ⊢
   obtain⟨c,rfl,g,_⟩:=h1
   exact⟨j8 r x j c,by simp[fe],g,trivial⟩
theorem av2 {x:RV} {r:ah} {v:Value} (h:aY iY v x.v):aY iY v (x.copy r):=by
 unfold RV.copy
 cases hx:x.v with
 |one c=>rw[hx]at h;exact⟨h.1,trivial⟩
 |agg cs=>
  rw[hx]at h
  obtain⟨ws,h1,h2⟩:=h
  exact⟨ws,h1,au.cW (by rw[h2.length,yL]) fun _ _ _ _ _=>trivial⟩
 |aJ vs=>rw[hx]at h;obtain⟨ws,h1,h2⟩:=h;exact⟨ws,h1,anf r x 0 h2⟩
 |undef=>trivial
theorem Rel.copy (h:Rel K β ω Z s a w) {r:ah} {v:Value} (hv:aY (ax K β Z s a w) v (s r).v) (hh:∀j,bP K β a w r j=(flat v)[j]?):
  aY (ax K β Z s a w) v ((s r).copy r)∧(∀c∈((s r).copy r).cells,bQ c):=by
 constructor
 ·refine aY.of_flat (av2 hv.shape) fun hu=>?_
  have fK:(s r).v≠ .undef:=fun e=>hu (by simp[RV.copy,e])
  have hf:=hv.flat fK
  rw[acG]
  refine au.cW (by rw[hf.length,yL]) fun j u c hju hc=>?_
  rw[sP]at hc
  cases hc0:(s r).v.cells[j]? with
  |none=>rw[hc0]at hc;cases hc
  |some c0=>
   rw[hc0]at hc
   simp only[Option.map_some,Nat.zero_add,Option.some.injEq]at hc
   subst hc
   obtain⟨u',h1,h2⟩:=hf.get hc0
   rw[hju]at h1
   cases h1
   exact h.j8 hc0 (by rw[hh];exact hju) h2
 ·intro c hc
  rw[acG]at hc
  obtain⟨j,hj⟩:=List.getElem?_of_mem hc
  rw[sP]at hj
  cases hc0:(s r).v.cells[j]? with
  |none=>rw[hc0]at hj;cases hj
  |some c0=>
   rw[hc0]at hj
   simp only[Option.map_some,Option.some.injEq]at hj
   subst hj
   exact agh _ _ _ _
theorem agi {v:Value} {d:D} (h:reflect v=some d):fj v=true∧bL w Z d v:=by
 unfold reflect at h
 split at h<;>first|(cases h;exact⟨rfl,rfl⟩)|(cases h;done)|skip
 all_goals (cases h;exact⟨rfl,by simp[bL,acz]⟩)
theorem acH:∀{vs:List Value} {ds:List D},iU vs=some ds→au (fun u c=>ax K β Z s a w c u) vs (ds.map .d)
 | [],ds,h=>by simp[iU]at h;subst h;trivial
 |v :: vs,ds,h=>by
  unfold iU at h
  split at h
  ·rename_i d ds' h1 h2
   cases h
   exact⟨(agi h1).2,acH h2⟩
  ·cases h
theorem fm (h:Rel K β ω Z s a w) {x:Operand} {v:SV} {s':St} (he:(ev x).exec s=some (v,s')):
  s'=s∧aY (ax K β Z s a w) (a.eval x) v∧(∀c∈v.cells,bQ c)∧v≠ .undef:=by
 cases x with
 |tmp t=>
  simp only[ev,Prog.exec]at he
  have qp:=h.copy (r:=.tmp t) (h.tmps t) (fun _=>rfl)
  have key:∀q:SV,(s (.tmp t)).v≠ .undef→(Prog.ret ((s (.tmp t)).copy (.tmp t))).exec s=some (v,s')→
    s'=s∧aY (ax K β Z s a w) (a.eval (.tmp t)) v∧(∀c∈v.cells,bQ c)∧v≠ .undef:=by
   intro _ hne he
   simp only[Prog.exec,Option.some.injEq,Prod.mk.injEq]at he
   obtain⟨rfl,rfl⟩:=he
   refine⟨rfl,qp.1,qp.2,?_⟩
   unfold RV.copy
   split<;>first|(simp;done)|(rename_i hx;exact absurd hx hne)
  cases hx:(s (.tmp t)).v with
  |undef=>rw[hx]at he;simp[Prog.exec]at he
  |one c=>rw[hx]at he;exact key .undef (by simp[hx]) he
  |agg c=>rw[hx]at he;exact key .undef (by simp[hx]) he
  |aJ c=>rw[hx]at he;exact key .undef (by simp[hx]) he
 |const v0=>
  have one:∀d,reflect v0=some d→(Prog.ret (SV.one (.d d))).exec s=some (v,s')→s'=s∧aY (ax K β Z s a w) (a.eval (.const v0)) v∧(∀c∈v.cells,bQ c)∧v≠ .undef:=by
   intro d hd he
   simp only[Prog.exec,Option.some.injEq,Prod.mk.injEq]at he
   obtain⟨rfl,rfl⟩:=he
   obtain⟨h1,h2⟩:=agi (w:=w) (Z:=Z) hd
   exact⟨rfl,⟨h1,h2⟩,by simp[SV.cells,bQ],by simp⟩
  cases v0 with
  |agg cs=>
   simp only[ev]at he
   cases hr:iU cs.toList with
   |none=>rw[hr]at he;simp[Prog.exec]at he
   |some ds=>
    rw[hr]at he
    simp only[Prog.exec,Option.some.injEq,Prod.mk.injEq]at he
    obtain⟨rfl,rfl⟩:=he
    exact⟨rfl,⟨cs,rfl,acH hr⟩,by simp[SV.cells,bQ],by simp⟩
  |_=>
   simp only[ev]at he
   split at he
   ·rename_i d hd;exact one d hd he
   ·simp[Prog.exec]at he
 |func f=>
  simp only[ev,Prog.exec,Option.some.injEq,Prod.mk.injEq]at he
  obtain⟨rfl,rfl⟩:=he
  exact⟨rfl,⟨rfl, #[],rfl,trivial⟩,by simp[SV.cells,bQ],by simp⟩
 |global g=>simp[ev,Prog.exec]at he
theorem av3 {α γ:Type} (p:Prog α) (f:α→Prog γ):∀(s:St),(p.bind f).exec s=(p.exec s).bind fun x=>(f x.1).exec x.2:=by
 induction p with
 |ret a=>intro s;simp[Prog.bind,Prog.exec]
 |fail=>intro s;simp[Prog.bind,Prog.exec]
 |get r k ih=>intro s;simp[Prog.bind,Prog.exec,ih]
 |put r x k ih=>intro s;simp[Prog.bind,Prog.exec,ih]
theorem av {α γ:Type} {p:Prog α} {f:α→Prog γ} {s s':St} {y:γ} (h:(p >>= f).exec s=some (y,s')):∃x s1,p.exec s=some (x,s1)∧(f x).exec s1=some (y,s'):=by
 change (p.bind f).exec s=_ at h
 rw[av3]at h
 cases hp:p.exec s with
 |none=>rw[hp]at h;cases h
 |some x=>rw[hp]at h;exact⟨x.1,x.2,rfl,h⟩
theorem aE {α:Type} {x y:α} {s s':St} (h:(Prog.ret x).exec s=some (y,s')):y=x∧s'=s:=by
 simp only[Prog.exec,Option.some.injEq,Prod.mk.injEq]at h
 exact⟨h.1.symm,h.2.symm⟩
theorem bS {p:Prop} [Decidable p] {y:Unit} {s s':St} (h:(need p).exec s=some (y,s')):p∧s'=s:=by
 unfold need at h
 split at h
 ·rename_i hp;exact⟨hp,(aE h).2⟩
 ·simp[Prog.exec]at h
theorem ew (h:Rel K β ω Z s a w) {x:Operand} {c:C} {s':St} (he:(dw x).exec s=some (c,s')):
  s'=s∧fj (a.eval x)=true∧ax K β Z s a w c (a.eval x)∧bQ c:=by
 obtain⟨v,s1,h1,h2⟩:=av he
 obtain⟨rfl,hv,hn,_⟩:=fm h h1
 cases v with
 |one c'=>
  obtain⟨rfl,rfl⟩:=aE h2
  exact⟨rfl,hv.1,hv.2,hn _ (by simp[SV.cells])⟩
 |_=>simp[ym,Prog.exec]at h2
theorem ang (h:Rel K β ω Z s a w) {r:ah} {j:Nat} {y:Unit} {s':St} (he:(ld r j (s r)).exec s=some (y,s')):
  ∃ω' Z',Rel K β ω' Z' s' a w∧Calm K β a ω Z s w ω' Z' s' w∧(∃e ys,(s' r).at j= .d (.sl e ys)∧((s r).at j= .own e ys∨(s r).at j= .d (.sl e ys))):=by
 unfold ld at he
 split at he
 ·rename_i e ys hc
  simp only[cY,Prog.exec,Option.some.injEq,Prod.mk.injEq]at he
  obtain⟨_,rfl⟩:=he
  have hcell:=fJ hc (by simp)
  have bB:(s.set r { s r with v:=(s r).v.setCell j (.d (.sl e ys)) } r).at j= .d (.sl e ys):=by
   rw[jD]
   refine sJ ?_
   simp only[oN,List.getElem?_set]
   simp[(List.getElem?_eq_some_iff.1 hcell).1]
  obtain⟨u0,g1,g2⟩:=h.cell hcell
  obtain⟨b0,g3⟩:=ax.am4 g2
  by_cases hr:r.isArg=true
  ·cases r with
   |arg i=>
    obtain⟨f1,f2⟩:=h.avT hc g1 g3
    exact⟨_,_,f1,f2,e,ys,bB,.inl hc⟩
   |tmp t=>simp[ah.isArg]at hr
   |box k=>simp[ah.isArg]at hr
  ·obtain⟨f1,f2,f3⟩:=h.am7 (c':=.d (.sl e ys)) hc (by simpa using hr) (.inr rfl) g1 g3 (ω':=fun b=>if b=b0 then none else ω b) (Z':=fun b=>Z b∨b=b0)
     (fun b=>by simp) (fun b hb=>by simp[hb]) (fun _=>by simp)
   exact⟨_,_,f1,f2,e,ys,bB,.inl hc⟩
 ·rename_i e ys hc
  obtain⟨_,rfl⟩:=aE he
  exact⟨ω,Z,h,Calm.refl,e,ys,hc,.inr hc⟩
 ·simp[Prog.exec]at he
def lE (w:World) (Z:Nat→Prop) (e:Nat) (xs:List (List D)) (u:Value):Prop:=
 (aW e=false∧∃(ad:Addr) (cap:Nat),u= .slice (some ad) xs.length cap∧ad.spot=none∧xs.length≤cap∧cq w Z e xs ad.block ad.off)∨
 (aW e=true∧∃b,u=dW e b∧cH w Z e xs b)
theorem lE.iff {e:Nat} {xs:List (List D)} {u:Value}:ax K β Z s a w (.own e xs) u↔lE w Z e xs u:=by
 by_cases he:aW e=true
 ·rw[ax.jL he];simp[lE,he]
 ·have he:aW e=false:=by simpa using he
  rw[ax.gK he];simp[lE,he]
theorem lE.mono {Z':Nat→Prop} (hZ:∀b,Z b→Z' b) {e:Nat} {xs:List (List D)} {u:Value} (h:lE w Z e xs u):lE w Z' e xs u:=by
 rcases h with⟨he,ad,cap,h1,h2,h3,h4⟩|⟨he,b,h1,h2⟩
 ·exact .inl ⟨he,ad,cap,h1,h2,h3,cq.mono (fun b hb=>⟨rfl,hZ b hb⟩) _ _ _ _ rfl h4⟩
 ·exact .inr ⟨he,b,h1,cH.mono (fun b hb=>⟨rfl,hZ b hb⟩) _ _ _ rfl h2⟩
theorem anh (h:Rel K β ω Z s a w) {r:ah} {j:Nat} (hr:r.isArg=false) {y:Unit} {s':St} (he:(mg r j (s r)).exec s=some (y,s')) (g:bX):
  ∃e ys u b ω',(s r).at j= .own e ys∧bP K β a w r j=some u∧cP u=some b∧lE w Z e ys u∧
   Rel K β ω' Z s' a w∧Calm K β a ω Z s w ω' Z s' w∧ω' b=some g∧jq w e u∧ie K β s' a w b:=by
 unfold mg at he
 split at he
 ·rename_i e ys hc
  simp only[cY,Prog.exec,Option.some.injEq,Prod.mk.injEq]at he
  obtain⟨_,rfl⟩:=he
  have hcell:=fJ hc (by simp)
  obtain⟨u,g1,g2⟩:=h.cell hcell
  obtain⟨b,g3⟩:=ax.am4 g2
  obtain⟨f1,f2,f3⟩:=h.am7 (c':=.dead) hc hr (.inl rfl) g1 g3 (ω':=fun b'=>if b'=b then some g else ω b') (Z':=Z) (fun b=>by simp) (fun b hb=>by simp[hb]) (fun hx=>absurd rfl hx)
  exact⟨e,ys,u,b,_,hc,g1,g3,lE.iff.1 g2,f1,f2,by simp,(h.own r j e ys u b hr hcell g1 g3).2,f3⟩
 ·simp[Prog.exec]at he
theorem agj (h:Rel K β ω Z s a w) {r:ah} {j hv cv e k:Nat} (hm:aW e=false) {xs:List (List D)} {u:Value} (hc:ax K β Z s a w (.aD r j hv cv e k xs) u) (h1:(s r).hv=hv) (h2:(s r).cv=cv) (hal:(s r).at j≠ .dead):
  ∃ad cap,u= .slice (some ad) xs.length cap∧ad.spot=none∧xs.length≤cap∧(cap≠0→cq w Z e xs ad.block ad.off)∧
   ∃qq agk vI ys,bP K β a w r j=some (.slice (some qq) agk vI)∧ad.block=qq.block∧(ad.off=qq.off+k * e∨cap=0)∧ad.off+cap * e≤qq.off+vI * e∧cap+k=vI∧((s r).at j= .own e ys∨(s r).at j= .d (.sl e ys))∧xs=(ys.drop k).take xs.length:=by
 obtain⟨dU,cap',g1,g2,g3,_,_,g4⟩:=(ax.lB hm).1 hc
 obtain⟨ad,len,cap,f1,f2,f3,f4,oR,f5,f6,f7,f8⟩:=g4 h1 hal
 obtain⟨ys,f9,av4⟩:=f8
 have f10:=av4 h2
 refine⟨dU,cap',g1,g2,g3,fun hne=>?_,ad,len,cap,ys,f1,f3,f4,?_,f5,f9,f10⟩
 rotate_left
 ·rcases f4 with f4|f4
  ·rw[f4,←f5,Nat.add_mul];omega
  ·subst f4;simpa using oR
 have hoff:dU.off=ad.off+k * e:=f4.resolve_right hne
 have hrows:cq w Z e ys ad.block ad.off:=by
  rcases f9 with f9|f9
  ·obtain⟨u2,e1,iu⟩:=h.cell (fJ f9 (by simp))
   obtain⟨sK,sL,e2,_,_,e3⟩:=(ax.gK hm).1 iu
   rw[f1]at e1;cases e1;cases e2;exact e3
  ·obtain⟨u2,e1,iu⟩:=h.cell (fJ f9 (by simp))
   obtain⟨sK,sL,e2,_,_,e3⟩:=(bL.iX hm).1 iu
   rw[f1]at e1;cases e1;cases e2;exact e3
 rw[f10,f3,hoff]
 exact(hrows.drop k).take _
theorem agl (h:Rel K β ω Z s a w) {r:ah} {j hv cv e k:Nat} (hm:aW e=false) {xs:List (List D)} {u:Value} (hc:ax K β Z s a w (.aD r j hv cv e k xs) u) (h1:(s r).hv=hv) (h2:(s r).cv=cv) (hal:(s r).at j≠ .dead):
  ∃ad cap,u= .slice (some ad) xs.length cap∧ad.spot=none∧xs.length≤cap∧cq w Z e xs ad.block ad.off:=by
 obtain⟨ad,cap,g1,g2,g3,g4,_⟩:=agj h hm hc h1 h2 hal
 refine⟨ad,cap,g1,g2,g3,?_⟩
 by_cases hcap:cap=0
 ·subst hcap
  have:xs=[]:=List.length_eq_zero_iff.1 (by omega)
  subst this
  trivial
 ·exact g4 hcap
theorem av5 (h:Rel K β ω Z s a w) {r:ah} {j hv cv e k:Nat} (hm:aW e=true) {xs:List (List D)} {u:Value} (hc:ax K β Z s a w (.aD r j hv cv e k xs) u) (h1:(s r).hv=hv) (h2:(s r).cv=cv) (hal:(s r).at j≠ .dead):
  ∃b,u=dW e b∧bP K β a w r j=some (dW e b)∧((s r).at j= .own e xs∨(s r).at j= .d (.sl e xs))∧cH w Z e xs b:=by
 obtain⟨b,g1,_,_,g4⟩:=(ax.mA hm).1 hc
 obtain⟨f1,ys,f2,f3⟩:=g4 h1 hal
 have:=f3 h2
 subst this
 refine⟨b,g1,f1,f2,?_⟩
 rcases f2 with f2|f2
 ·obtain⟨u2,e1,iu⟩:=h.cell (fJ f2 (by simp))
  obtain⟨b2,e2,e3⟩:=(ax.jL hm).1 iu
  rw[f1]at e1;cases e1;rw[sI e2];exact e3
 ·obtain⟨u2,e1,iu⟩:=h.cell (fJ f2 (by simp))
  obtain⟨b2,e2,_,e3⟩:=(bL.kf hm).1 iu
  rw[f1]at e1;cases e1;rw[sI e2];exact e3
theorem acI (h:Rel K β ω Z s a w) {r:ah} {j hv cv e k:Nat} {xs:List (List D)} {u:Value} (hc:ax K β Z s a w (.aD r j hv cv e k xs) u) (h1:(s r).hv=hv) (h2:(s r).cv=cv) (hal:(s r).at j≠ .dead):
  ∃ys u0 b0,((s r).at j= .own e ys∨(s r).at j= .d (.sl e ys))∧bP K β a w r j=some u0∧cP u0=some b0∧cP u=some b0∧lE w Z e xs u∧(jq w e u0→jq w e u)∧
   ∀Z':Nat→Prop,(∀b,Z b→Z' b)→(Live u0→Z' b0)→bL w Z' (.sl e xs) u:=by
 by_cases hm:aW e=true
 ·obtain⟨b,rfl,g2,g3,g4⟩:=av5 h hm hc h1 h2 hal
  exact⟨xs,_,b,g3,g2,jn ..,jn ..,.inr ⟨hm,b,rfl,g4⟩,id,fun Z' hZ hl=>(bL.kf hm).2 ⟨b,rfl,hl (am3 ..),cH.mono (fun b hb=>⟨rfl,hZ b hb⟩) _ _ _ rfl g4⟩⟩
 ·have hm:aW e=false:=by simpa using hm
  obtain⟨ad,cap,rfl,g2,g3,g4⟩:=agl h hm hc h1 h2 hal
  obtain⟨dU,cap',f1,_,_,_,qq,agk,vI,ys,f2,f3,f4,f5,f6,f7,f8⟩:=agj h hm hc h1 h2 hal
  cases f1
  refine⟨ys,_,qq.block,f7,f2,rfl,by rw[←f3];rfl,.inl ⟨hm,ad,cap,rfl,g2,g3,g4⟩,fun hw=>?_,fun Z' hZ hl=>(bL.iX hm).2 ⟨ad,cap,rfl,?_,g3,cq.mono (fun b hb=>⟨rfl,hZ b hb⟩) _ _ _ _ rfl g4⟩⟩
  ·show Wr w ad.block (ad.off+cap * e)
   rw[f3]
   exact Wr.mono hw rfl f5
  ·by_cases hcap:cap=0
   ·exact .inl hcap
   ·exact .inr ⟨g2,by rw[f3];exact hl (show vI≠0 by omega)⟩
end
end Go.Vs
namespace Go.Vs
section
variable {K:Ctx} {β:Key→Option Nat} {ω:Nat→Option bX} {Z:Nat→Prop} {s:St} {a:Act} {w:World}
theorem sQ {x:RV} {j e:Nat} {ys:List (List D)} (h:x.at j= .own e ys):x.at j≠ .dead:=by rw[h];simp
theorem av6 {x:RV} {j:Nat} {d:D} (h:x.at j= .d d):x.at j≠ .dead:=by rw[h];simp
theorem Rel.frozen (h:Rel K β ω Z s a w) {r:ah} {j e:Nat} {ys:List (List D)} (hc:(s r).at j= .d (.sl e ys)) {u0:Value} {b0:Nat} (hh:bP K β a w r j=some u0) (hb:cP u0=some b0):Live u0→Z b0:=by
 obtain⟨u,h1,bu⟩:=h.cell (fJ hc (by simp))
 rw[hh]at h1
 cases h1
 by_cases he:aW e=true
 ·obtain⟨b,rfl,h2,_⟩:=(bL.kf he).1 bu
  rw[jn,Option.some.injEq]at hb
  subst hb
  exact fun _=>h2
 ·obtain⟨sK,sL,rfl,h3,_⟩:=(bL.iX (by simpa using he)).1 bu
  simp only[cP,Option.some.injEq]at hb
  subst hb
  exact fun hl=>(h3.resolve_left hl).2
theorem agm (h:Rel K β ω Z s a w) {self:ah×Nat} {take:ah→Bool} {c c':C} {u:Value} {s':St} (bu:ax K β Z s a w c u) (hno:bQ c)
  (he:(j9 (some self) take c).exec s=some (c',s')):∃ω' Z',Rel K β ω' Z' s' a w∧Calm K β a ω Z s w ω' Z' s' w∧ig K β ω' Z' s' a w self.1 self.2 c' u:=by
 have yM:c'=c→s'=s→∃ω' Z',Rel K β ω' Z' s' a w∧Calm K β a ω Z s w ω' Z' s' w∧ig K β ω' Z' s' a w self.1 self.2 c' u:=by
  rintro rfl rfl
  exact⟨ω,Z,h,Calm.refl,ig.vG hno bu⟩
 cases c with
 |aD r j hv cv e k xs=>
  simp only[j9]at he
  split at he
  ·obtain⟨h1,h2⟩:=aE he;exact yM h1 h2
  ·rename_i hr
   have hr':r.isArg=false:=by simpa using hr
   simp only[Prog.exec]at he
   obtain⟨_,s1,h1,he⟩:=av he
   obtain⟨⟨dj,dX⟩,rfl⟩:=bS h1
   split at he
   ·rename_i e0 ys0 bB
    obtain⟨ys,u0,b0,f7,f2,f3,f4,f5,f6,f8⟩:=acI h bu dj dX (sQ bB)
    have hee:e0=e∧ys0=ys:=by
     rcases f7 with f7|f7
     ·rw[bB]at f7;cases f7;exact⟨rfl,rfl⟩
     ·rw[bB]at f7;cases f7
    obtain⟨rfl,rfl⟩:=hee
    split at he
    ·obtain⟨_,s2,h2,he⟩:=av he
     obtain⟨rfl,rfl⟩:=aE he
     obtain⟨e1,ys1,u1,b1,ω',t1,t2,t3,t4,t6,t7,t8,t9,t10⟩:=anh h hr' h2 (self.1,some self.2)
     rw[bB]at t1
     cases t1
     rw[t2]at f2
     cases f2
     rw[t3]at f3
     cases f3
     refine⟨ω',Z,t6,t7,lE.iff.2 f5,fun e xs' b q1 q2=>?_⟩
     cases q1
     rw[f4]at q2
     cases q2
     exact⟨t8,f6 t9,t10⟩
    ·obtain⟨_,s2,h2,he⟩:=av he
     obtain⟨rfl,rfl⟩:=aE he
     obtain⟨ω',Z',t1,t2,e2,ys2,t3,t4⟩:=ang h h2
     refine⟨ω',Z',t1,t2,ig.vG (by simp[bQ]) ?_⟩
     exact f8 Z' (fun b hb=>t2.z b hb) (t1.frozen t3 (by rw[t2.bP];exact f2) f3)
   ·rename_i e0 ys0 bB
    obtain⟨rfl,rfl⟩:=aE he
    obtain⟨ys,u0,b0,f7,f2,f3,f4,f5,f6,f8⟩:=acI h bu dj dX (av6 bB)
    refine⟨ω,Z,h,Calm.refl,ig.vG (by simp[bQ]) ?_⟩
    exact f8 Z (fun b hb=>hb) (h.frozen bB f2 f3)
   ·simp[Prog.exec]at he
 |own e xs=>exact absurd rfl (hno e xs)
 |dead=>simp[j9,Prog.exec]at he
 |_=>
  simp only[j9]at he
  obtain⟨h1,h2⟩:=aE he
  exact yM h1 h2
theorem av8 {self:Option (ah×Nat)} {take:ah→Bool} {c c':C} {s s':St} (he:(j9 self take c).exec s=some (c',s')):c≠ .dead:=by
 rintro rfl
 simp[j9,Prog.exec]at he
theorem ani {mk:Nat→ah×Nat} {take:ah→Bool}:∀{cs cs':List C} {i:Nat} {s s':St},(lf mk take i cs).exec s=some (cs',s')→∀c∈cs,c≠ .dead
 | [],_,_,_,_,_,_,h=>by simp at h
 |c :: cs,cs',i,s,s',he,x,hx=>by
  simp only[lf]at he
  obtain⟨c1,s1,h1,he⟩:=av he
  obtain⟨ey,s2,h2,he⟩:=av he
  rcases List.mem_cons.1 hx with rfl|hx
  ·exact av8 h1
  ·exact ani h2 x hx
def eJ (K:Ctx) (β:Key→Option Nat) (ω:Nat→Option bX) (Z:Nat→Prop) (s:St) (a:Act) (w:World) (mk:Nat→ah×Nat):Nat→List Value→List C→Prop
 |_,[],[]=>True
 |i,u :: us,c :: cs=>ig K β ω Z s a w (mk i).1 (mk i).2 c u∧eJ K β ω Z s a w mk (i+1) us cs
 |_,_,_=>False
theorem eJ.lift {ω':Nat→Option bX} {Z':Nat→Prop} {s':St} {w':World} (hr:Rel K β ω Z s a w) (k:Calm K β a ω Z s w ω' Z' s' w') {mk:Nat→ah×Nat}:∀{i:Nat} {us:List Value} {cs:List C},
  eJ K β ω Z s a w mk i us cs→eJ K β ω' Z' s' a w' mk i us cs
 |_,[],[],_=>trivial
 |_,_ :: _,_ :: _,h=>⟨k.af8 hr h.1,eJ.lift hr k h.2⟩
theorem eJ.all {mk:Nat→ah×Nat}:∀{i:Nat} {us:List Value} {cs:List C},eJ K β ω Z s a w mk i us cs→au (fun u c=>ax K β Z s a w c u) us cs
 |_,[],[],_=>trivial
 |_,_ :: _,_ :: _,h=>⟨h.1.1,eJ.all h.2⟩
theorem eJ.get {mk:Nat→ah×Nat}:∀{i j:Nat} {us:List Value} {cs:List C} {c:C} {u:Value},eJ K β ω Z s a w mk i us cs→cs[j]? =some c→us[j]? =some u→
  ig K β ω Z s a w (mk (i+j)).1 (mk (i+j)).2 c u
 |_,_,[],[],_,_,_,h,_=>by simp at h
 |i,0,u :: us,c :: cs,c',u',h,hc,hu=>by
  simp only[List.getElem?_cons_zero,Option.some.injEq]at hc hu
  subst hc;subst hu
  exact h.1
 |i,j+1,u :: us,c :: cs,c',u',h,hc,hu=>by
  have:=eJ.get (j:=j) h.2 (by simpa using hc) (by simpa using hu)
  rw[show i+(j+1)=i+1+j by omega]
  exact this
theorem eJ.append {mk:Nat→ah×Nat}:∀{i:Nat} {us us':List Value} {cs cs':List C},eJ K β ω Z s a w mk i us cs→eJ K β ω Z s a w mk (i+us.length) us' cs'→eJ K β ω Z s a w mk i (us++us') (cs++cs')
 |_,[],_,[],_,_,h=>by simpa using h
 |i,u :: us,us',c :: cs,cs',h,k=>⟨h.1,eJ.append h.2 (by rw[show i+1+us.length=i+(u :: us).length by simp;omega];exact k)⟩
theorem acK {mk:Nat→ah×Nat} {take:ah→Bool}:∀(cs:List C) (i:Nat) (us:List Value) (ω:Nat→Option bX) (Z:Nat→Prop) (s s':St) (cs':List C),Rel K β ω Z s a w→au (fun u c=>ax K β Z s a w c u) us cs→(∀c∈cs,bQ c)→
  (lf mk take i cs).exec s=some (cs',s')→∃ω' Z',Rel K β ω' Z' s' a w∧Calm K β a ω Z s w ω' Z' s' w∧eJ K β ω' Z' s' a w mk i us cs':=by
 intro cs
 induction cs with
 |nil=>
  intro i us ω Z s s' cs' h hall _ he
  obtain⟨rfl,rfl⟩:=aE he
  cases us with
  |nil=>exact⟨ω,Z,h,Calm.refl,trivial⟩
  |cons u us=>exact hall.elim
 |cons c cs ih=>
  intro i us ω Z s s' cs' h hall hno he
  cases us with
  |nil=>exact hall.elim
  |cons u us=>
   simp only[lf]at he
   obtain⟨c1,s1,h1,he⟩:=av he
   obtain⟨ey,s2,h2,he⟩:=av he
   obtain⟨rfl,rfl⟩:=aE he
   obtain⟨ct,Z1,r1,k1,p1⟩:=agm h hall.1 (hno c (List.mem_cons_self ..)) h1
   have iw:∀x∈cs,bQ x:=fun x hx=>hno x (List.mem_cons_of_mem _ hx)
   obtain⟨fq,Z2,r2,k2,p2⟩:=ih (i+1) us ct Z1 s1 _ ey r1 (hall.2.gV fun u c hc hr=>k1.iq h.dH (fun e xs _ hx _=>absurd hx (iw c hc e xs)) hr) iw h2
   exact⟨fq,Z2,r2,k1.trans k2,k2.af8 r1 p1,p2⟩
def fL (K:Ctx) (β:Key→Option Nat) (ω:Nat→Option bX) (Z:Nat→Prop) (s:St) (a:Act) (w:World) (r:ah) (u:Value) (v:SV):Prop:=
 aY (ax K β Z s a w) u v∧∀(j:Nat) (c:C) (x:Value),v.cells[j]? =some c→(flat u)[j]? =some x→ig K β ω Z s a w r j c x
theorem fL.yN {r:ah} {u:Value} {v:SV} (h:aY (ax K β Z s a w) u v) (hno:∀c∈v.cells,bQ c):fL K β ω Z s a w r u v:=
 ⟨h,fun j c x hc hx=>ig.vG (hno c (List.mem_of_getElem? hc)) (by obtain⟨x',h1,h2⟩:=h.cell hc;rw[hx]at h1;cases h1;exact h2)⟩
theorem fL.vJ {r:ah} {u:Value} {v:SV} (hs:aY iY u v) (h:eJ K β ω Z s a w (fun i=>(r,i)) 0 (flat u) v.cells):fL K β ω Z s a w r u v:=
 ⟨aY.of_flat hs fun _=>h.all,fun j c x hc hx=>by have:=h.get hc hx;simpa using this⟩
theorem Rel.av9 (h:Rel K β ω Z s a w) {t:Nat} (ht:t<K.N) {u:Value} {v:SV} (hv:fL K β ω Z s a w (.tmp t) u v):
  Rel K β ω Z (s.set (.tmp t) { hv:=(s (.tmp t)).hv+1,cv:=(s (.tmp t)).cv,v }) (a.put (some t) u) w:=
 h.mm ht hv.1 fun j e xs u1 b hc hx hb=>by
   have:=(hv.2 j _ _ hc hx).2 e xs b rfl hb
   exact⟨this.1,this.2.1⟩
theorem awa {r:ah} {take:ah→Bool}:∀(xs:List (Bool×List C)) (i:Nat) (vs:List Value) (ω:Nat→Option bX) (Z:Nat→Prop) (s s':St) (xs':List (Bool×List C)),Rel K β ω Z s a w→au (cL (ax K β Z s a w)) vs xs→(∀c∈xs.flatMap (·.2),bQ c)→
  (sA (fun i=>(r,i)) take i xs).exec s=some (xs',s')→∃ω' Z',Rel K β ω' Z' s' a w∧Calm K β a ω Z s w ω' Z' s' w∧eJ K β ω' Z' s' a w (fun i=>(r,i)) i (vs.flatMap fun v=>v.cells.toList) (xs'.flatMap (·.2))∧au (cL iY) vs xs':=by
 intro xs
 induction xs with
 |nil=>
  intro i vs ω Z s s' cs' h hall _ he
  obtain⟨rfl,rfl⟩:=aE he
  cases vs with
  |nil=>exact⟨ω,Z,h,Calm.refl,trivial,trivial⟩
  |cons u us=>exact hall.elim
 |cons x xs ih=>
  intro i vs ω Z s s' cs' h hall hno he
  cases vs with
  |nil=>exact hall.elim
  |cons v vs=>
   obtain⟨b,cs⟩:=x
   simp only[sA]at he
   obtain⟨c1,s1,h1,he⟩:=av he
   obtain⟨ey,s2,h2,he⟩:=av he
   obtain⟨rfl,rfl⟩:=aE he
   have hf:=cL.flat hall.1
   simp only[List.flatMap_cons,List.mem_append]at hno
   obtain⟨ct,Z1,r1,k1,p1⟩:=acK (mk:=fun i=>(r,i)) (take:=take) cs i v.cells.toList ω Z s s1 c1 h hf (fun c hc=>hno c (.inl hc)) h1
   have iw:∀c∈xs.flatMap (·.2),bQ c:=fun c hc=>hno c (.inr hc)
   obtain⟨fq,Z2,r2,k2,p2,q2⟩:=ih (i+cs.length) vs ct Z1 s1 _ ey r1 (hall.2.gV fun v x hx hr=>by
    have hx':∀c∈x.2,bQ c:=fun c hc=>iw c (List.mem_flatMap.2 ⟨x,hx,hc⟩)
    unfold cL at hr ⊢
    split
    ·rename_i hb;simp only[hb,if_true]at hr
     obtain⟨ws,g1,g2⟩:=hr
     exact⟨ws,g1,g2.gV fun u c hc hr=>k1.iq h.dH (fun e xs _ hx1 _=>absurd hx1 (hx' c hc e xs)) hr⟩
    ·rename_i hb;simp only[hb]at hr
     obtain⟨c,g1,g2,g3⟩:=hr
     exact⟨c,g1,g2,k1.iq h.dH (fun e xs _ hx1 _=>absurd hx1 (hx' c (by simp[g1]) e xs)) g3⟩) iw h2
   refine⟨fq,Z2,r2,k1.trans k2,?_,?_,q2⟩
   ·simp only[List.flatMap_cons]
    exact eJ.append (eJ.lift r1 k2 p1) (by rw[hf.length];exact p2)
   ·have h3:=hall.1
    unfold cL at h3 ⊢
    cases b with
    |true=>
     simp only[if_true]at h3 ⊢
     obtain⟨ws,g1,g2⟩:=h3
     refine⟨ws,g1,au.cW ?_ fun _ _ _ _ _=>trivial⟩
     have:=p1.all.length
     rw[g1]at this
     exact this
    |false=>
     simp only[Bool.false_eq_true,if_false]at h3 ⊢
     obtain⟨c,g1,g2,g3⟩:=h3
     have hl:=p1.all.length
     rw[jo g2]at hl
     match c1,hl with
     | [d],_=>exact⟨d,rfl,g2,trivial⟩
theorem anj (h:Rel K β ω Z s a w) {r:ah} {take:ah→Bool} {v v':SV} {u:Value} {s':St} (hv:aY (ax K β Z s a w) u v) (hno:∀c∈v.cells,bQ c)
  (he:(jG r take v).exec s=some (v',s')):∃ω' Z',Rel K β ω' Z' s' a w∧Calm K β a ω Z s w ω' Z' s' w∧fL K β ω' Z' s' a w r u v':=by
 cases v with
 |one c=>
  simp only[jG]at he
  obtain⟨c1,s1,h1,he⟩:=av he
  obtain⟨rfl,rfl⟩:=aE he
  obtain⟨ct,Z1,r1,k1,p1⟩:=agm h hv.2 (hno c (by simp[SV.cells])) h1
  exact⟨ct,Z1,r1,k1,fL.vJ ⟨hv.1,trivial⟩ (by rw[vF hv.1];exact⟨p1,trivial⟩)⟩
 |agg cs=>
  simp only[jG]at he
  obtain⟨c1,s1,h1,he⟩:=av he
  obtain⟨rfl,rfl⟩:=aE he
  obtain⟨ws,rfl,hall⟩:=hv
  obtain⟨ct,Z1,r1,k1,p1⟩:=acK (mk:=fun i=>(r,i)) (take:=take) cs 0 ws.toList ω Z s _ _ h hall (fun c hc=>hno c hc) h1
  exact⟨ct,Z1,r1,k1,fL.vJ ⟨ws,rfl,au.cW p1.all.length fun _ _ _ _ _=>trivial⟩ p1⟩
 |aJ xs=>
  simp only[jG]at he
  obtain⟨c1,s1,h1,he⟩:=av he
  obtain⟨rfl,rfl⟩:=aE he
  obtain⟨vs,rfl,hall⟩:=hv
  obtain⟨ct,Z1,r1,k1,p1,q1⟩:=awa (r:=r) (take:=take) xs 0 vs.toList ω Z s _ _ h hall (fun c hc=>hno c hc) h1
  exact⟨ct,Z1,r1,k1,fL.vJ ⟨vs,rfl,q1⟩ p1⟩
 |undef=>simp[jG,Prog.exec]at he
theorem ank (h:Rel K β ω Z s a w) {self:ah×Nat} {o:Operand} {c c':C} {u:Value} {s':St} (bu:ax K β Z s a w c u) (hno:bQ c)
  (he:(qd self o c).exec s=some (c',s')):∃ω' Z',Rel K β ω' Z' s' a w∧Calm K β a ω Z s w ω' Z' s' w∧ig K β ω' Z' s' a w self.1 self.2 c' u:=by
 have yM:c'=c→s'=s→∃ω' Z',Rel K β ω' Z' s' a w∧Calm K β a ω Z s w ω' Z' s' w∧ig K β ω' Z' s' a w self.1 self.2 c' u:=by
  rintro rfl rfl
  exact⟨ω,Z,h,Calm.refl,ig.vG hno bu⟩
 cases c with
 |aD r j hv cv e k xs=>
  simp only[qd]at he
  split at he
  ·exact agm h bu hno he
  ·obtain⟨h1,h2⟩:=aE he;exact yM h1 h2
 |own e xs=>exact absurd rfl (hno e xs)
 |_=>
  simp only[qd]at he
  obtain⟨h1,h2⟩:=aE he
  exact yM h1 h2
theorem anl {r:ah} {o:Operand}:∀(cs:List C) (i:Nat) (us:List Value) (ω:Nat→Option bX) (Z:Nat→Prop) (s s':St) (cs':List C),Rel K β ω Z s a w→au (fun u c=>ax K β Z s a w c u) us cs→(∀c∈cs,bQ c)→
  (qe r o i cs).exec s=some (cs',s')→∃ω' Z',Rel K β ω' Z' s' a w∧Calm K β a ω Z s w ω' Z' s' w∧eJ K β ω' Z' s' a w (fun i=>(r,i)) i us cs':=by
 intro cs
 induction cs with
 |nil=>
  intro i us ω Z s s' cs' h hall _ he
  obtain⟨rfl,rfl⟩:=aE he
  cases us with
  |nil=>exact⟨ω,Z,h,Calm.refl,trivial⟩
  |cons u us=>exact hall.elim
 |cons c cs ih=>
  intro i us ω Z s s' cs' h hall hno he
  cases us with
  |nil=>exact hall.elim
  |cons u us=>
   simp only[qe]at he
   obtain⟨c1,s1,h1,he⟩:=av he
   obtain⟨ey,s2,h2,he⟩:=av he
   obtain⟨rfl,rfl⟩:=aE he
   obtain⟨ct,Z1,r1,k1,p1⟩:=ank h hall.1 (hno c (List.mem_cons_self ..)) h1
   have iw:∀x∈cs,bQ x:=fun x hx=>hno x (List.mem_cons_of_mem _ hx)
   obtain⟨fq,Z2,r2,k2,p2⟩:=ih (i+1) us ct Z1 s1 _ ey r1 (hall.2.gV fun u c hc hr=>k1.iq h.dH (fun e xs _ hx _=>absurd hx (iw c hc e xs)) hr) iw h2
   exact⟨fq,Z2,r2,k1.trans k2,k2.af8 r1 p1,p2⟩
theorem awb {r:ah} {o:Operand}:∀(xs:List (Bool×List C)) (i:Nat) (vs:List Value) (ω:Nat→Option bX) (Z:Nat→Prop) (s s':St) (xs':List (Bool×List C)),Rel K β ω Z s a w→au (cL (ax K β Z s a w)) vs xs→(∀c∈xs.flatMap (·.2),bQ c)→
  (sG r o i xs).exec s=some (xs',s')→∃ω' Z',Rel K β ω' Z' s' a w∧Calm K β a ω Z s w ω' Z' s' w∧eJ K β ω' Z' s' a w (fun i=>(r,i)) i (vs.flatMap fun v=>v.cells.toList) (xs'.flatMap (·.2))∧au (cL iY) vs xs':=by
 intro xs
 induction xs with
 |nil=>
  intro i vs ω Z s s' cs' h hall _ he
  obtain⟨rfl,rfl⟩:=aE he
  cases vs with
  |nil=>exact⟨ω,Z,h,Calm.refl,trivial,trivial⟩
  |cons u us=>exact hall.elim
 |cons x xs ih=>
  intro i vs ω Z s s' cs' h hall hno he
  cases vs with
  |nil=>exact hall.elim
  |cons v vs=>
   obtain⟨b,cs⟩:=x
   simp only[sG]at he
   obtain⟨c1,s1,h1,he⟩:=av he
   obtain⟨ey,s2,h2,he⟩:=av he
   obtain⟨rfl,rfl⟩:=aE he
   have hf:=cL.flat hall.1
   simp only[List.flatMap_cons,List.mem_append]at hno
   obtain⟨ct,Z1,r1,k1,p1⟩:=anl (r:=r) (o:=o) cs i v.cells.toList ω Z s s1 c1 h hf (fun c hc=>hno c (.inl hc)) h1
   have iw:∀c∈xs.flatMap (·.2),bQ c:=fun c hc=>hno c (.inr hc)
   obtain⟨fq,Z2,r2,k2,p2,q2⟩:=ih (i+cs.length) vs ct Z1 s1 _ ey r1 (hall.2.gV fun v x hx hr=>by
    have hx':∀c∈x.2,bQ c:=fun c hc=>iw c (List.mem_flatMap.2 ⟨x,hx,hc⟩)
    unfold cL at hr ⊢
    split
    ·rename_i hb;simp only[hb,if_true]at hr
     obtain⟨ws,g1,g2⟩:=hr
     exact⟨ws,g1,g2.gV fun u c hc hr=>k1.iq h.dH (fun e xs _ hx1 _=>absurd hx1 (hx' c hc e xs)) hr⟩
    ·rename_i hb;simp only[hb]at hr
     obtain⟨c,g1,g2,g3⟩:=hr
     exact⟨c,g1,g2,k1.iq h.dH (fun e xs _ hx1 _=>absurd hx1 (hx' c (by simp[g1]) e xs)) g3⟩) iw h2
   refine⟨fq,Z2,r2,k1.trans k2,?_,?_,q2⟩
   ·simp only[List.flatMap_cons]
    exact eJ.append (eJ.lift r1 k2 p1) (by rw[hf.length];exact p2)
   ·have h3:=hall.1
    unfold cL at h3 ⊢
    cases b with
    |true=>
     simp only[if_true]at h3 ⊢
     obtain⟨ws,g1,g2⟩:=h3
     refine⟨ws,g1,au.cW ?_ fun _ _ _ _ _=>trivial⟩
     have:=p1.all.length
     rw[g1]at this
     exact this
    |false=>
     simp only[Bool.false_eq_true,if_false]at h3 ⊢
     obtain⟨c,g1,g2,g3⟩:=h3
     have hl:=p1.all.length
     rw[jo g2]at hl
     match c1,hl with
     | [d],_=>exact⟨d,rfl,g2,trivial⟩
theorem anm (h:Rel K β ω Z s a w) {r:ah} {o:Operand} {v v':SV} {u:Value} {s':St} (hv:aY (ax K β Z s a w) u v) (hno:∀c∈v.cells,bQ c)
  (he:(iV r o v).exec s=some (v',s')):∃ω' Z',Rel K β ω' Z' s' a w∧Calm K β a ω Z s w ω' Z' s' w∧fL K β ω' Z' s' a w r u v':=by
 cases v with
 |one c=>
  simp only[iV]at he
  obtain⟨c1,s1,h1,he⟩:=av he
  obtain⟨rfl,rfl⟩:=aE he
  obtain⟨ct,Z1,r1,k1,p1⟩:=ank h hv.2 (hno c (by simp[SV.cells])) h1
  exact⟨ct,Z1,r1,k1,fL.vJ ⟨hv.1,trivial⟩ (by rw[vF hv.1];exact⟨p1,trivial⟩)⟩
 |agg cs=>
  simp only[iV]at he
  obtain⟨c1,s1,h1,he⟩:=av he
  obtain⟨rfl,rfl⟩:=aE he
  obtain⟨ws,rfl,hall⟩:=hv
  obtain⟨ct,Z1,r1,k1,p1⟩:=anl (r:=r) (o:=o) cs 0 ws.toList ω Z s _ _ h hall (fun c hc=>hno c hc) h1
  exact⟨ct,Z1,r1,k1,fL.vJ ⟨ws,rfl,au.cW p1.all.length fun _ _ _ _ _=>trivial⟩ p1⟩
 |aJ xs=>
  simp only[iV]at he
  obtain⟨c1,s1,h1,he⟩:=av he
  obtain⟨rfl,rfl⟩:=aE he
  obtain⟨vs,rfl,hall⟩:=hv
  obtain⟨ct,Z1,r1,k1,p1,q1⟩:=awb (r:=r) (o:=o) xs 0 vs.toList ω Z s _ _ h hall (fun c hc=>hno c hc) h1
  exact⟨ct,Z1,r1,k1,fL.vJ ⟨vs,rfl,q1⟩ p1⟩
 |undef=>simp[iV,Prog.exec]at he
theorem acL (h:Rel K β ω Z s a w) {c:C} {d:D} {u:Value} {s':St} (bu:ax K β Z s a w c u) (he:(jH c).exec s=some (d,s')):
  ∃ω' Z',Rel K β ω' Z' s' a w∧Calm K β a ω Z s w ω' Z' s' w∧bL w Z' d u:=by
 cases c with
 |d x=>
  obtain⟨rfl,rfl⟩:=aE he
  exact⟨ω,Z,h,Calm.refl,bu⟩
 |aD r j hv cv e k xs=>
  simp only[jH,Prog.exec]at he
  obtain⟨_,s1,h1,he⟩:=av he
  obtain⟨⟨dj,dX⟩,rfl⟩:=bS h1
  obtain⟨_,s2,h2,he⟩:=av he
  obtain⟨rfl,rfl⟩:=aE he
  obtain⟨ω',Z',t1,t2,e2,ys2,t3,t4⟩:=ang h h2
  have hal:(s1 r).at j≠ .dead:=by rcases t4 with t4|t4<;>(rw[t4];simp)
  obtain⟨ys,u0,b0,f7,f2,f3,f4,f5,f6,f8⟩:=acI h bu dj dX hal
  exact⟨ω',Z',t1,t2,f8 Z' (fun b hb=>t2.z b hb) (t1.frozen t3 (by rw[t2.bP];exact f2) f3)⟩
 |_=>simp[jH,Prog.exec]at he
def DL (w:World) (Z:Nat→Prop):List Value→List D→Prop:=fun us ds=>au (fun u d=>bL w Z d u) us ds
theorem acM:∀(cs:List C) (us:List Value) (ω:Nat→Option bX) (Z:Nat→Prop) (s s':St) (ds:List D),Rel K β ω Z s a w→au (fun u c=>ax K β Z s a w c u) us cs→(∀c∈cs,bQ c)→
  (lg cs).exec s=some (ds,s')→∃ω' Z',Rel K β ω' Z' s' a w∧Calm K β a ω Z s w ω' Z' s' w∧DL w Z' us ds:=by
 intro cs
 induction cs with
 |nil=>
  intro us ω Z s s' ds h hall _ he
  obtain⟨rfl,rfl⟩:=aE he
  cases us with
  |nil=>exact⟨ω,Z,h,Calm.refl,trivial⟩
  |cons u us=>exact hall.elim
 |cons c cs ih=>
  intro us ω Z s s' ds h hall hno he
  cases us with
  |nil=>exact hall.elim
  |cons u us=>
   simp only[lg]at he
   obtain⟨c1,s1,h1,he⟩:=av he
   obtain⟨ey,s2,h2,he⟩:=av he
   obtain⟨rfl,rfl⟩:=aE he
   obtain⟨ct,Z1,r1,k1,p1⟩:=acL h hall.1 h1
   have iw:∀x∈cs,bQ x:=fun x hx=>hno x (List.mem_cons_of_mem _ hx)
   obtain⟨fq,Z2,r2,k2,p2⟩:=ih us ct Z1 s1 _ ey r1 (hall.2.gV fun u c hc hr=>k1.iq h.dH (fun e xs _ hx _=>absurd hx (iw c hc e xs)) hr) iw h2
   exact⟨fq,Z2,r2,k1.trans k2,bL.mono (fun b hb=>⟨rfl,k2.z b hb⟩) _ _ p1,p2⟩
theorem ann (h:Rel K β ω Z s a w) {e:Nat} {c:C} {xs:List (List D)} {u:Value} {s':St} (bu:ax K β Z s a w c u) (he:(elems e c).exec s=some (xs,s')):
  s'=s∧((u= .slice none 0 0∧xs=[])∨∃ad cap,u= .slice (some ad) xs.length cap∧(cap=0∨ad.spot=none)∧xs.length≤cap∧cq w Z e xs ad.block ad.off):=by
 unfold elems at he
 split at he
 ·obtain⟨rfl,rfl⟩:=aE he
  exact⟨rfl,.inl ⟨bu,rfl⟩⟩
 ·rename_i e' ys
  obtain⟨_,s1,h1,ak⟩:=av he
  obtain⟨⟨hee,hm⟩,hs1⟩:=bS h1
  obtain⟨hx,hs2⟩:=aE ak
  subst hs1;subst hx;subst hs2;subst hee
  obtain⟨ad,cap,g1,g2,g3,g4⟩:=(bL.iX hm).1 bu
  exact⟨rfl,.inr ⟨ad,cap,g1,g2.imp id (·.1),g3,g4⟩⟩
 ·rename_i r j hv cv e' k ys
  simp only[Prog.exec]at he
  obtain⟨_,s1,h1,ak⟩:=av he
  obtain⟨⟨dj,dX,hal,hee,hm⟩,hs1⟩:=bS h1
  obtain⟨hx,hs2⟩:=aE ak
  subst hs1;subst hx;subst hs2;subst hee
  have agn:(s' r).at j≠ .dead:=by
   unfold alive at hal
   intro hd
   rw[hd]at hal
   cases hal
  obtain⟨ad,cap,g1,g2,g3,g4⟩:=agl h hm bu dj dX agn
  exact⟨rfl,.inr ⟨ad,cap,g1,.inr g2,g3,g4⟩⟩
 ·simp[Prog.exec]at he
end
end Go.Vs
namespace Go.Vs
section types
variable {P:Program} {w:World} {t:TypeId} {i:TI}
theorem oS (h:ay P t=some i):∃info d,P.info? t=some info∧P.underlying t=some d∧i.size=info.size∧i.bytes=info.bytes∧i.kind=tk d∧i.zero=info.zero.bind (aci i.kind.agg):=by
 unfold ay at h
 split at h
 ·rename_i info d h1 h2
  cases h
  exact⟨info,d,h1,h2,rfl,rfl,rfl,rfl⟩
 ·cases h
theorem run_program {α:Type} (f:Program→Sem α):(program >>= f).run P w=(f P).run P w:=rfl
theorem run_typeInfo (h:ay P t=some i):∃info,(typeInfo t).run P w= .ok info w∧info.size=i.size∧info.bytes=i.bytes∧i.zero=info.zero.bind (aci i.kind.agg):=by
 obtain⟨info,d,h1,h2,h3,h4,h5,h6⟩:=oS h
 refine⟨info,?_,h3.symm,h4.symm,h6⟩
 show(match P.info? t with|some i=>(pure i:Sem TypeInfo)|none=>stuck "no such type").run P w=_
 rw[h1]
 rfl
theorem run_sizeOf (h:ay P t=some i):(sizeOf t).run P w= .ok i.size w:=by
 obtain⟨info,h1,h2,_⟩:=run_typeInfo (w:=w) h
 simp[sizeOf,h1,h2]
theorem dx (h:ay P t=some i):∃d,P.underlying t=some d∧tk d=i.kind∧(underlying t).run P w= .ok d w:=by
 obtain⟨info,d,h1,h2,h3,h4,h5,h6⟩:=oS h
 refine⟨d,h2,h5.symm,?_⟩
 show(match P.underlying t with|some d=>(pure d:Sem TypeDesc)|none=>stuck "no such type").run P w=_
 rw[h2]
 rfl
theorem acN (h:ay P t=some i):(isAgg t).run P w= .ok i.kind.agg w:=by
 obtain⟨d,_,h1,h2⟩:=dx (w:=w) h
 simp only[isAgg,Sem.run_bind,h2,Result.andThen_ok,←h1]
 cases d<;>rfl
theorem ago (h:ay P t=some i) {z:List D} (hz:i.zero=some z):∃v,(zeroValue t).run P w= .ok v w∧iU v.cells.toList=some z∧ach v=i.kind.agg:=by
 obtain⟨info,h1,h2,h3,h4⟩:=run_typeInfo (w:=w) h
 rw[hz]at h4
 cases hv:info.zero with
 |none=>rw[hv]at h4;cases h4
 |some v=>
  rw[hv]at h4
  simp only[Option.bind_some,aci]at h4
  split at h4
  ·rename_i ha
   exact⟨v,by simp[zeroValue,h1,hv],h4.symm,ha⟩
  ·cases h4
theorem sR (h:ay P t=some i) {z:List D} (hz:i.zero=some z):∃v,(zeroValue t).run P w= .ok v w∧iU v.cells.toList=some z:=by
 obtain⟨v,h1,h2,_⟩:=ago (w:=w) h hz
 exact⟨v,h1,h2⟩
theorem ku {d:TypeDesc} {e:TypeId} (h:tk d= .slice e):d= .slice e:=by
 cases d<;>simp[tk]at h
 rw[h]
theorem yO {d:TypeDesc} {fs:List (Nat×TypeId)} (h:tk d= .struct fs):∃fields:Array Field,d= .struct fields∧fs=fields.toList.map fun f=>(f.offset,f.type):=by
 cases d<;>simp[tk]at h
 exact⟨_,rfl,h.symm⟩
theorem acO {d:TypeDesc} {n:Nat} {e:TypeId} (h:tk d= .array n e):d= .array n e:=by
 cases d<;>simp[tk]at h
 rw[h.1,h.2]
theorem oT {d:TypeDesc} (h:tk d= .str):d= .string:=by
 cases d<;>simp[tk]at h
 rfl
theorem sS {d:TypeDesc} {k:IntKind} (h:tk d= .int k):d= .int k:=by
 cases d<;>simp[tk]at h
 rw[h]
theorem agp {d:TypeDesc} (h:tk d= .bool):d= .bool:=by
 cases d<;>simp[tk]at h
 rfl
end types
section
variable {K:Ctx} {β:Key→Option Nat} {ω:Nat→Option bX} {Z:Nat→Prop} {s:St} {a:Act} {w:World}
theorem mG:∀{vs:List Value} {ds:List D},iU vs=some ds→DL w Z vs ds
 | [],ds,h=>by simp[iU]at h;subst h;trivial
 |v :: vs,ds,h=>by
  unfold iU at h
  split at h
  ·rename_i d ds' h1 h2
   cases h
   exact⟨(agi h1).2,mG h2⟩
  ·cases h
theorem yP {c:C} {u:Value} (h:ax K β Z s a w c u) (hc:c≠ .dead):fj u=true:=by
 cases c with
 |d x=>
  cases x<;>simp only[ax,bL]at h
  ·subst h;rfl
  ·subst h;rfl
  ·subst h;rfl
  ·subst h;rfl
  ·split at h
   ·obtain⟨ad,cap,rfl,_⟩:=h;rfl
   ·obtain⟨b,rfl,_⟩:=h;exact acA ..
  ·rename_i k;cases k<;>simp only[acz]at h<;>(subst h;rfl)
 |own e xs=>
  simp only[ax]at h
  split at h
  ·obtain⟨ad,cap,rfl,_⟩:=h;rfl
  ·obtain⟨b,rfl,_⟩:=h;exact acA ..
 |aD r j hv cv e k xs=>
  simp only[ax]at h
  split at h
  ·obtain⟨b,rfl,_⟩:=h;exact acA ..
  ·obtain⟨ad,cap,rfl,_⟩:=h;rfl
 |ea r j hv e i off=>obtain⟨b,o,rfl,_⟩:=h;rfl
 |da xs=>obtain⟨b,o,rfl,_⟩:=h;rfl
 |ptr k off=>obtain⟨b,_,rfl⟩:=h;rfl
 |bW f caps=>obtain⟨vs,rfl,_⟩:=h;rfl
 |dead=>exact absurd rfl hc
theorem ano {e:Nat} {xs:List (List D)} {ad:Addr} {len cap:Nat} (h:ax K β Z s a w (.own e xs) (.slice (some ad) len cap)):aW e=false:=by
 by_cases he:aW e=true
 ·obtain⟨b,h1,_⟩:=(ax.jL he).1 h
  exact(amV h1).elim
 ·simpa using he
theorem awc {e:Nat} {xs:List (List D)} {ad:Addr} {len cap:Nat} (h:ax K β Z s a w (.d (.sl e xs)) (.slice (some ad) len cap)):aW e=false:=by
 by_cases he:aW e=true
 ·obtain⟨b,h1,_⟩:=(bL.kf he).1 h
  exact(amV h1).elim
 ·simpa using he
theorem yQ {i:TI} {cs:List C} {off:Nat} {v:SV} {s':St} (he:(jk i cs off).exec s=some (v,s')):
  s'=s∧0<i.size∧off+i.size≤cs.length∧((i.kind.agg=true∧v= .agg ((cs.drop off).take i.size))∨(i.kind.agg=false∧∃c,cs[off]? =some c∧c≠ .dead∧v= .one c)):=by
 simp only[jk]at he
 obtain⟨_,s1,h1,ak⟩:=av he
 obtain⟨⟨hpos,hle⟩,rfl⟩:=bS h1
 split at ak
 ·rename_i hk
  obtain⟨rfl,rfl⟩:=aE ak
  exact⟨rfl,hpos,hle,.inl ⟨hk,rfl⟩⟩
 ·rename_i hk
  split at ak
  ·simp[Prog.exec]at ak
  ·rename_i c hnd hc
   obtain⟨rfl,rfl⟩:=aE ak
   exact⟨rfl,hpos,hle,.inr ⟨by simpa using hk,c,hc,fun e=>hnd (e ▸ rfl),rfl⟩⟩
  ·simp[Prog.exec]at ak
theorem cells_of_cell? {b o:Nat} {v:Value} (h:w.cell? ⟨b,o,none⟩=some v):∃ws el fz,w.heap[b]? =some (.cells ws el fz)∧ws[o]? =some v:=by
 unfold World.cell? at h
 simp only at h
 split at h
 ·rename_i ws el fz hw
  exact⟨ws,el,fz,hw,by simpa using h⟩
 ·cases h
theorem agq {P:Program} {t:TypeId} {i:TI} (ht:ay P t=some i) {b o off:Nat} {cs:List C} {us:List Value} (oU:au (fun u c=>ax K β Z s a w c u) us cs) (hno:∀c∈cs,bQ c)
  {v:SV} {s':St} (he:(jk i cs off).exec s=some (v,s')) (hcell:∀j,j<us.length→w.cell? ⟨b,o+j,none⟩=us[j]?):
  ∃u,(loadVar t ⟨b,o+off,none⟩).run P w= .ok u w∧aY (ax K β Z s a w) u v∧(∀c∈v.cells,bQ c):=by
 obtain⟨rfl,hpos,hle,h⟩:=yQ he
 have hl:=oU.length
 have qs:=hcell (off+i.size - 1) (by omega)
 rw[List.getElem?_eq_getElem (by omega)]at qs
 obtain⟨ws,el,fz,hw,js⟩:=cells_of_cell? qs
 have hcs:∀j,j<us.length→ws[o+j]? =us[j]? :=by
  intro j hj
  rw[←hcell j hj]
  simp[World.cell?,hw]
 rcases h with⟨hk,rfl⟩|⟨hk,c,hc,hnd,rfl⟩
 ·simp only[loadVar,Sem.run_bind,acN ht,Result.andThen_ok,hk,if_true,run_sizeOf ht]
  have hlt:o+off+i.size≤ws.size:=by
   have:=(Array.getElem?_eq_some_iff.1 js).1
   omega
  rw[run_loadCells hw hlt]
  refine⟨.agg (ws.extract (o+off) (o+off+i.size)),by simp,⟨_,rfl,?_⟩,fun c hc=>hno c (List.mem_of_mem_drop (List.mem_of_mem_take hc))⟩
  have:(ws.extract (o+off) (o+off+i.size)).toList=(us.drop off).take i.size:=by
   apply List.ext_getElem?
   intro j
   simp only[Array.toList_extract,List.extract_eq_take_drop,List.getElem?_take,List.getElem?_drop]
   by_cases hj:j<i.size
   ·have:=hcs (off+j) (by omega)
    rw[if_pos (by omega),if_pos hj,←this]
    simp[Nat.add_assoc]
   ·rw[if_neg (by omega),if_neg hj]
  rw[this]
  exact(oU.drop off).take _
 ·obtain⟨u,hu,bu⟩:=oU.get hc
  have hlt:off<us.length:=(List.getElem?_eq_some_iff.1 hu).1
  have gX:=hcell off hlt
  rw[hu]at gX
  have hmem:=List.mem_of_getElem? hc
  refine⟨u,?_,⟨yP bu hnd,bu⟩,by simp only[SV.cells,List.mem_singleton];rintro _ rfl;exact hno _ hmem⟩
  simp[loadVar,acN ht,hk,gX]
theorem dK.us:∀{ds:List D} {b o:Nat},dK w Z ds b o→∃us,DL w Z us ds∧∀j,j<us.length→w.cell? ⟨b,o+j,none⟩=us[j]?
 | [],_,_,_=>⟨[],trivial,by simp⟩
 |d :: ds,b,o,h=>by
  obtain⟨⟨v,h1,h2⟩,h3⟩:=h
  obtain⟨us,h4,h5⟩:=dK.us h3
  refine⟨v :: us,⟨h2,h4⟩,fun j hj=>?_⟩
  cases j with
  |zero=>simpa using h1
  |succ j=>
   have:=h5 j (by simpa using hj)
   rw[show o+1+j=o+(j+1) by omega]at this
   simpa using this
theorem DL.map:∀{us:List Value} {ds:List D},DL w Z us ds→au (fun u c=>ax K β Z s a w c u) us (ds.map .d)
 | [],[],_=>trivial
 |_ :: _,_ :: _,h=>⟨h.1,DL.map h.2⟩
def bR (K:Ctx) (s':St) (a:Act) (dst:Nat) (r:Result Next) (v:SV):Prop:=
 ∃u w' β' ω' Z',r= .ok (.value u) w'∧Rel K β' ω' Z' s' a w'∧fL K β' ω' Z' s' a w' (.tmp dst) u v
theorem bR.same (h:Rel K β ω Z s a w) {dst:Nat} {r:Result Next} {u:Value} {v:SV} (hr:r= .ok (.value u) w) (hv:aY (ax K β Z s a w) u v) (hno:∀c∈v.cells,bQ c):bR K s a dst r v:=
 ⟨u,w,β,ω,Z,hr,h,fL.yN hv hno⟩
theorem bR.d (h:Rel K β ω Z s a w) {dst:Nat} {r:Result Next} {u:Value} {d:D} (hr:r= .ok (.value u) w) (hv:bL w Z d u):bR K s a dst r (.one (.d d)):=
 bR.same h hr ⟨yP (K:=K) (β:=β) (s:=s) (a:=a) (c:=.d d) hv (by simp),hv⟩ (by simp[SV.cells,bQ])
theorem anp (h:Rel K β ω Z s a w) {t:TypeId} {i:TI} (ht:ay K.P t=some i) {c:C} {u:Value} {v:SV} {s':St} (bu:ax K β Z s a w c u) (he:(oI i c).exec s=some (v,s')):
  s'=s∧∃x,(Instr.loadAt t u).run K.P w= .ok x w∧aY (ax K β Z s a w) x v∧(∀c∈v.cells,bQ c):=by
 unfold oI at he
 split at he
 ·rename_i k off
  simp only[Prog.exec]at he
  split at he
  ·rename_i cs fD
   obtain⟨b,ws,el,lo,hi,g1,g2,g3,g4,g5⟩:=dc.cell h fD
   obtain⟨b',f1,rfl⟩:=bu
   rw[f1]at g1
   cases g1
   have hall:au (fun u c=>ax K β Z s a w c u) ws.toList (fe (.box k) (s (.box k)) 0 cs):=by
    refine au.cW (by rw[g5.length,yL]) fun j u c hu hc=>?_
    rw[sP]at hc
    cases hc0:cs[j]? with
    |none=>rw[hc0]at hc;cases hc
    |some c0=>
     rw[hc0]at hc
     simp only[Option.map_some,Nat.zero_add,Option.some.injEq]at hc
     subst hc
     obtain⟨u',h1,h2⟩:=g5.get hc0
     rw[hu]at h1
     cases h1
     exact h.j8 (by rw[fD];exact hc0) (by rw[jM f1 g3];exact hu) h2
   have hno:∀c∈fe (.box k) (s (.box k)) 0 cs,bQ c:=by
    intro c hc
    obtain⟨j,hj⟩:=List.getElem?_of_mem hc
    rw[sP]at hj
    cases hc0:cs[j]? with
    |none=>rw[hc0]at hj;cases hj
    |some c0=>rw[hc0]at hj;simp only[Option.map_some,Option.some.injEq]at hj;subst hj;exact agh _ _ _ _
   obtain⟨x,h1,h2,h3⟩:=agq (P:=K.P) ht (b:=b) (o:=0) hall hno he (fun j hj=>by simp[World.cell?,g3])
   refine⟨(yQ he).1,x,?_,h2,h3⟩
   simpa[Instr.loadAt,Instr.sureAddr]using h1
  ·simp[Prog.exec]at he
 ·rename_i r j hv e n off
  simp only[Prog.exec]at he
  obtain⟨_,s1,h1,ak⟩:=av he
  obtain⟨dj,hs1⟩:=bS h1
  subst hs1
  obtain⟨b,o,rfl,_,g⟩:=bu
  have key:∀(e0:Nat) (ys:List (List D)),((s1 r).at j= .own e0 ys∨(s1 r).at j= .d (.sl e0 ys))→(match ys[n]? with|some ds=>jk i (ds.map .d) off|none=>Prog.fail).exec s1=some (v,s')→
    s'=s1∧∃x,(Instr.loadAt t (.pointer (some ⟨b,o,none⟩))).run K.P w= .ok x w∧aY (ax K β Z s1 a w) x v∧(∀c∈v.cells,bQ c):=by
   intro e0 ys bB aH
   split at aH
   ·rename_i ds hds
    have hal:(s1 r).at j≠ .dead:=by rcases bB with bB|bB<;>(rw[bB];simp)
    obtain⟨ad,len,cap,f1,f2,f3,f4,ys',f5⟩:=g dj hal
    have hee:e0=e∧ys=ys':=by
     rcases bB with bB|bB<;>rw[bB]at f5<;>rcases f5 with f5|f5<;>cases f5<;>exact⟨rfl,rfl⟩
    obtain⟨rfl,rfl⟩:=hee
    have hrows:cq w Z e0 ys ad.block ad.off:=by
     rcases bB with bB|bB
     ·obtain⟨u2,e1,iu⟩:=h.cell (fJ bB (by simp))
      rw[f1]at e1;cases e1
      obtain⟨sK,sL,e2,_,_,e3⟩:=(ax.gK (ano iu)).1 iu
      cases e2;exact e3
     ·obtain⟨u2,e1,iu⟩:=h.cell (fJ bB (by simp))
      rw[f1]at e1;cases e1
      obtain⟨sK,sL,e2,_,_,e3⟩:=(bL.iX (awc iu)).1 iu
      cases e2;exact e3
    obtain⟨_,hrow⟩:=hrows.get hds
    obtain⟨us,oU,hcell⟩:=hrow.us
    obtain⟨x,h2,h3,h4⟩:=agq (P:=K.P) ht (b:=ad.block) (o:=ad.off+n * e0) oU.map (by simp[bQ]) aH hcell
    refine⟨(yQ aH).1,x,?_,h3,h4⟩
    subst f3;subst f4
    simpa[Instr.loadAt,Instr.sureAddr]using h2
   ·simp[Prog.exec]at aH
  split at ak
  ·rename_i e0 ys bB;exact key e0 ys (.inl bB) ak
  ·rename_i e0 ys bB;exact key e0 ys (.inr bB) ak
  ·simp[Prog.exec]at ak
 ·rename_i ds
  obtain⟨b,o,rfl,hz,hrow⟩:=bu
  obtain⟨us,oU,hcell⟩:=hrow.us
  obtain⟨x,h2,h3,h4⟩:=agq (P:=K.P) ht (b:=b) (o:=o) oU.map (by simp[bQ]) he hcell
  refine⟨(yQ he).1,x,?_,h3,h4⟩
  simpa[Instr.loadAt,Instr.sureAddr]using h2
 ·simp[Prog.exec]at he
end
end Go.Vs
namespace Go.Vs
theorem au.splice {α β:Type} {R:α→β→Prop} {as us:List α} {bs cs:List β} {off:Nat} (h:au R as bs) (k:au R us cs):au R (Vs.splice as off us) (Vs.splice bs off cs):=by
 unfold Vs.splice
 rw[k.length]
 exact((h.take off).append k).append (h.drop _)
theorem anq {α:Type} {l m:List α} {off:Nat} (h:off+m.length≤l.length):(splice l off m).length=l.length:=by
 simp only[splice,List.length_append,List.length_take,List.length_drop]
 omega
theorem vK {α:Type} {l m:List α} {off:Nat} (h:off+m.length≤l.length) (j:Nat):(splice l off m)[j]? =if off≤j∧j<off+m.length then m[j - off]? else l[j]? :=by
 simp only[splice,List.getElem?_append,List.length_append,List.length_take,List.getElem?_take,List.getElem?_drop]
 rw[Nat.min_eq_left (by omega)]
 by_cases h1:j<off
 ·rw[if_pos (by omega),if_pos h1,if_pos h1,if_neg (by omega)]
 ·by_cases h2:j<off+m.length
  ·rw[if_pos h2,if_neg h1,if_pos (by omega)]
  ·rw[if_neg h2,if_neg (by omega)]
   congr 1
   omega
section
variable {K:Ctx} {β:Key→Option Nat} {ω:Nat→Option bX} {Z:Nat→Prop} {s:St} {a:Act} {w:World}
theorem sU {R:C→Value→Prop} {u:Value} {v:SV} {cs:List C} (hv:aY R u v) (hc:v.dM=some cs):v.cells=cs∧au (fun u c=>R c u) u.cells.toList cs:=by
 cases v with
 |one c=>
  simp only[SV.dM,Option.some.injEq]at hc
  subst hc
  exact⟨rfl,by rw[jo hv.1];exact⟨hv.2,trivial⟩⟩
 |agg ds=>
  simp only[SV.dM,Option.some.injEq]at hc
  subst hc
  obtain⟨ws,rfl,h⟩:=hv
  exact⟨rfl,h⟩
 |aJ x=>simp[SV.dM]at hc
 |undef=>simp[SV.dM]at hc
theorem anr:∀{cs:List C} {ds:List D} {s s':St},(lg cs).exec s=some (ds,s')→∀c∈cs,c≠ .dead
 | [],_,_,_,_,_,h=>by simp at h
 |c :: cs,ds,s,s',he,x,hx=>by
  simp only[lg]at he
  obtain⟨c1,s1,h1,he⟩:=av he
  obtain⟨ey,s2,h2,he⟩:=av he
  rcases List.mem_cons.1 hx with rfl|hx
  ·rintro rfl;simp[jH,Prog.exec]at h1
  ·exact anr h2 x hx
theorem ans {P:Program} {t:TypeId} {i:TI} (ht:ay P t=some i) {b o:Nat} {u:Value} (hsz:u.cells.size=i.size) {w':World} (hst:(storeCells ⟨b,o,none⟩ u.cells.toList).run P w= .ok () w'):
  (storeVar t ⟨b,o,none⟩ u).run P w= .ok () w':=by
 simp[storeVar,run_sizeOf ht,hsz,hst]
theorem awd (h:Rel K β ω Z s a w) {t:TypeId} {i:TI} (ht:ay K.P t=some i) {take:ah→Bool} {c:C} {ua u:Value} {v:SV} {y:Unit} {s':St} (hca:ax K β Z s a w c ua) (hv:aY (ax K β Z s a w) u v) (hno:∀c∈v.cells,bQ c)
  (he:(yp take i c v).exec s=some (y,s')):∃w' β' ω' Z',(Instr.storeAt t ua u).run K.P w= .ok () w'∧Rel K β' ω' Z' s' a w':=by
 unfold yp at he
 split at he
 ·rename_i k off cs hcs
  obtain⟨gX,hall⟩:=sU hv hcs
  obtain⟨_,s1,h1,ak⟩:=av he
  obtain⟨hlen,hs1⟩:=bS h1
  subst hs1
  clear he
  obtain⟨cs',s2,h2,aH⟩:=av ak
  have hal:=ani h2
  obtain⟨ct,Z1,r1,k1,p1⟩:=acK (mk:=fun n=>(.box k,off+n)) (take:=take) cs 0 _ ω Z s1 s2 cs' h hall (fun c hc=>hno c (by rw[gX];exact hc)) h2
  simp only[Prog.exec]at aH
  split at aH
  ·rename_i old fD
   obtain⟨_,s3,h3,bz⟩:=av aH
   obtain⟨hle,hs3⟩:=bS h3
   subst hs3
   simp only[cY,Prog.exec,Option.some.injEq,Prod.mk.injEq]at bz
   obtain⟨_,rfl⟩:=bz
   obtain⟨b,ws,el,lo,hi,g1,g2,g3,g4,g5⟩:=dc.cell r1 fD
   obtain⟨b',f1,rfl⟩:=hca
   rw[f1]at g1
   cases g1
   have jN:u.cells.toList.length=i.size:=by rw[hall.length,hlen]
   have awe:u.cells.size=i.size:=by simpa using jN
   have hwl:ws.size=old.length:=by simpa using g5.length
   obtain⟨w',eR,e1,e2,e3⟩:=agb (P:=K.P) (o:=off) u.cells.toList 0 w ws g3 g4 (by omega) (fun x hx=>by
    obtain⟨j,hj⟩:=List.getElem?_of_mem hx
    have hjl:j<cs.length:=by rw[←hall.length];exact(List.getElem?_eq_some_iff.1 hj).1
    have fU:=List.getElem?_eq_getElem hjl
    obtain⟨u2,q1,q2⟩:=hall.get fU
    rw[hj]at q1
    cases q1
    exact yP q2 (hal _ (List.getElem_mem hjl)))
   have sV:eR.toList=splice ws.toList off u.cells.toList:=by simpa using e3
   have eB:cs'.length=i.size:=by rw[←p1.all.length,jN]
   have awg:au (fun u c=>ax K β Z1 s3 a w c u) eR.toList (splice old off cs'):=by
    rw[sV];exact g5.splice p1.all
   obtain⟨q1,_⟩:=r1.agc (k:=k) (cs:=splice old off cs') (w':=w') g2 (.inr f1) e2.os e2.tape e2.output e2.size e2.other e2.here (fun o ho=>g4 o (by rw[←e2.len];exact ho)) awg (by
    intro j e xs u1 b1 hj hu aM
    rw[sV,vK (by simp;omega)]at hu
    rw[vK (by omega)]at hj
    rw[eB]at hj
    rw[jN]at hu
    split at hj
    ·rename_i hr
     rw[if_pos hr]at hu
     have:=(p1.get hj hu).2 e xs b1 rfl aM
     simp only[Nat.zero_add]at this
     rw[show off+(j - off)=j by omega]at this
     exact⟨this.1,this.2.1⟩
    ·rename_i hr
     rw[if_neg hr]at hu
     exact r1.own (.box k) j e xs u1 b1 rfl (by rw[fD];exact hj) (by rw[jM f1 g3];exact hu) aM)
   refine⟨w',_,ct,Z1,?_,q1⟩
   simp only[Instr.storeAt,Instr.sureAddr,Sem.run_bind,Sem.run_pure,Result.andThen_ok]
   exact ans ht (by simpa using jN) e1
  ·simp[Prog.exec]at aH
 ·rename_i r j iy e n off cs hcs
  obtain⟨gX,hall⟩:=sU hv hcs
  obtain⟨_,s1,h1,ak⟩:=av he
  obtain⟨hlen,hs1⟩:=bS h1
  subst hs1
  clear he
  obtain⟨ds,s2,h2,aH⟩:=av ak
  have hal:=anr h2
  obtain⟨ct,Z1,r1,k1,p1⟩:=acM cs _ ω Z s1 s2 ds h hall (fun c hc=>hno c (by rw[gX];exact hc)) h2
  have awh:=k1.iq h.dH (c:=.ea r j iy e n off) (by simp) hca
  simp only[Prog.exec]at aH
  obtain⟨_,s3,h3,bz⟩:=av aH
  obtain⟨⟨dj,dA⟩,hs3⟩:=bS h3
  subst hs3
  clear aH
  split at bz
  ·rename_i e0 ys bB
   split at bz
   ·rename_i row hrow
    obtain⟨_,s4,h4,cn⟩:=av bz
    obtain⟨hle,dm⟩:=bS h4
    subst dm
    simp only[cY,Prog.exec,Option.some.injEq,Prod.mk.injEq]at cn
    obtain⟨_,rfl⟩:=cn
    obtain⟨b,o,rfl,_,g⟩:=awh
    obtain⟨ad,len,cap,f1,f2,f3,f4,ys',f5⟩:=g dj (sQ bB)
    have hee:e0=e∧ys=ys':=by
     rw[bB]at f5;rcases f5 with f5|f5<;>cases f5;exact⟨rfl,rfl⟩
    obtain⟨rfl,rfl⟩:=hee
    have hm:aW e0=false:=by
     obtain⟨u2,e1,iu⟩:=r1.cell (fJ bB (by simp))
     rw[f1]at e1;cases e1
     exact ano iu
    obtain⟨sK,sL,q1,q2,q3,q4⟩:=r1.ownRow hm bB
    rw[f1]at q1
    cases q1
    obtain⟨ja,ws,el,lo,hi,g3,g4,g5⟩:=r1.own r j e0 ys _ _ dA (fJ bB (by simp)) f1 rfl
    obtain⟨hrl,hrr⟩:=q4.get hrow
    have hnl:n<ys.length:=(List.getElem?_eq_some_iff.1 hrow).1
    have jN:u.cells.toList.length=i.size:=by rw[hall.length,hlen]
    have awe:u.cells.size=i.size:=by simpa using jN
    have oV:ds.length=i.size:=by rw[←p1.length,jN]
    have hbound:ad.off+n * e0+e0≤ws.size:=by
     have:n * e0+e0≤cap * e0:=by rw[←Nat.succ_mul];exact Nat.mul_le_mul_right _ (by omega)
     omega
    subst f3;subst f4
    obtain⟨w',eR,e1,e2,e3⟩:=agb (P:=K.P) (o:=ad.off+n * e0+off) u.cells.toList 0 w ws g3 g5 (by omega) (fun x hx=>by
     obtain⟨j,hj⟩:=List.getElem?_of_mem hx
     have hjl:j<cs.length:=by rw[←hall.length];exact(List.getElem?_eq_some_iff.1 hj).1
     have fU:=List.getElem?_eq_getElem hjl
     obtain⟨u2,q1,q2⟩:=hall.get fU
     rw[hj]at q1
     cases q1
     exact yP q2 (hal _ (List.getElem_mem hjl)))
    have sV:eR.toList=splice ws.toList (ad.off+n * e0+off) u.cells.toList:=by simpa using e3
    have hnz:=(r1.cZ _ _ ja).1
    have hZ:∀b,Z1 b→w'.heap[b]? =w.heap[b]? ∧Z1 b:=fun b hb=>⟨e2.other b (fun e=>hnz (e ▸ hb)),hb⟩
    have hcell:∀x,w'.cell? ⟨ad.block,x,none⟩=if ad.off+n * e0+off≤x∧x<ad.off+n * e0+off+i.size then(u.cells.toList)[x - (ad.off+n * e0+off)]? else w.cell? ⟨ad.block,x,none⟩:=by
     intro x
     have:w'.cell? ⟨ad.block,x,none⟩=eR.toList[x]? :=by simp[World.cell?,e2.here]
     rw[this,sV,vK (by simp;omega),jN]
     split
     ·rfl
     ·simp[World.cell?,g3]
    have hrows:cq w' Z1 e0 (ys.set n (splice row off ds)) ad.block ad.off:=by
     refine cq.cW fun m x hm=>?_
     rw[List.getElem?_set]at hm
     by_cases hmn:n=m
     ·subst hmn
      simp only[if_true,hnl]at hm
      cases hm
      refine⟨by rw[anq (by omega)];exact hrl,dK.cW fun jj d hd=>?_⟩
      rw[vK (by omega)]at hd
      rw[hcell]
      split at hd
      ·rename_i hr
       rw[if_pos (by omega)]
       obtain⟨u2,q1,q2⟩:=p1.get hd
       exact⟨u2,by rw[show ad.off+n * e0+jj - (ad.off+n * e0+off)=jj - off by omega];exact q1,bL.mono hZ _ _ q2⟩
      ·rename_i hr
       rw[if_neg (by omega)]
       obtain⟨u2,q1,q2⟩:=hrr.get hd
       exact⟨u2,q1,bL.mono hZ _ _ q2⟩
     ·rw[if_neg hmn]at hm
      obtain⟨q1,q2⟩:=q4.get hm
      refine⟨q1,dK.cW fun jj d hd=>?_⟩
      obtain⟨u2,q3,q4⟩:=q2.get hd
      have hjl:jj<e0:=by rw[←q1];exact(List.getElem?_eq_some_iff.1 hd).1
      refine⟨u2,?_,bL.mono hZ _ _ q4⟩
      rw[hcell,if_neg,q3]
      rintro ⟨h5,h6⟩
      rcases Nat.lt_or_gt_of_ne hmn with hlt|hlt
      ·have:n * e0+e0≤m * e0:=by rw[←Nat.succ_mul];exact Nat.mul_le_mul_right _ hlt
       omega
      ·have:m * e0+e0≤n * e0:=by rw[←Nat.succ_mul];exact Nat.mul_le_mul_right _ hlt
       omega
    have:=r1.setRow hm bB dA f1 e2 g3 (by simp) hrows
    refine⟨w',β,ct,Z1,?_,this⟩
    simp only[Instr.storeAt,Instr.sureAddr,Sem.run_bind,Sem.run_pure,Result.andThen_ok]
    exact ans ht (by simpa using jN) e1
   ·simp[Prog.exec]at bz
  ·simp[Prog.exec]at bz
 ·simp[Prog.exec]at he
end
end Go.Vs
namespace Go.Vs
def eX:D→Value
 | .int k n=>.int k n
 | .bool b=>.bool b
 | .str s=>.string ⟨s.toArray⟩
 |_=>.nilFunc
def oW (ds:List D):Value:=.agg (ds.map eX).toArray
theorem qt {w:World} {Z:Nat→Prop}:∀{sh:List Sc} {ds:List D},bD sh ds=true→DL w Z (ds.map eX) ds
 | [],[],_=>trivial
 |k :: sh,d :: ds,h=>by
  cases k<;>cases d<;>simp only[bD,Bool.and_eq_true,decide_eq_true_eq,Bool.false_eq_true]at h
  ·exact⟨rfl,qt h.2⟩
  ·exact⟨rfl,qt h⟩
  ·exact⟨rfl,qt h⟩
 | [],_ :: _,h=>by cases h
 |k :: _,[],h=>by cases k<;>cases h
theorem yR {w:World} {Z:Nat→Prop}:∀{sh:List Sc} {ds:List D} {us:List Value},bD sh ds=true→DL w Z us ds→us=ds.map eX
 | [],[],[],_,_=>rfl
 | [],[],_ :: _,_,h=>h.elim
 |k :: sh,d :: ds,u :: us,h,hu=>by
  cases k<;>cases d<;>simp only[bD,Bool.and_eq_true,decide_eq_true_eq,Bool.false_eq_true]at h
  ·have:=yR h.2 hu.2;have e:u=_:=hu.1;rw[this,e];rfl
  ·have:=yR h hu.2;have e:u=_:=hu.1;rw[this,e];rfl
  ·have:=yR h hu.2;have e:u=_:=hu.1;rw[this,e];rfl
 |_ :: _,_ :: _,[],_,h=>h.elim
 | [],_ :: _,_,h,_=>by cases h
 |k :: _,[],_,h,_=>by cases k<;>cases h
structure sW (P:Program) (t:TypeId) (sh:List Sc):Prop where
 eq:∀(w:World) (Z:Nat→Prop) (xs ys:Array Value) (ds es:List D) (x y:Operand),DL w Z xs.toList ds→DL w Z ys.toList es→bD sh ds=true→bD sh es=true→∀op,op= .eql∨op= .neq→
  (do eqGuard op t x y (.agg xs) (.agg ys);binOp op t (.agg xs) (.agg ys)).run P w= .ok (.bool (if op= .eql then cw ds es else !cw ds es)) w
 equal:∀(w:World) (ds es:List D),bD sh ds=true→bD sh es=true→(Op.equal t (oW ds) (oW es)).run P w= .ok (cw ds es) w
 check:∀(w:World) (ds:List D) (em:Bool),bD sh ds=true→(Instr.checkKey em 10000 t (oW ds)).run P w= .ok () w
 struct:∃fs,P.underlying t=some (.struct fs)
structure eS (P:Program) (cfg:aP):Prop where
 T:∀t i,cfg.ti t=some i→ay P t=some i
 E:∀t sh,lk t cfg.eqs=some sh→sW P t sh
 G:∀g l,lk g cfg.nB=some l→(g,l.map fun n=>Value.int .u64 n)∈oM P
section
variable {K:Ctx} {β:Key→Option Nat} {ω:Nat→Option bX} {Z:Nat→Prop} {s:St} {a:Act} {w:World} {cfg:aP} (hT:eS K.P cfg)
include hT
theorem awk {t:TypeId} {c c':C} {f:Nat} {u:Value} {s':St} (bu:ax K β Z s a w c u) (he:(yq cfg t c f).exec s=some (c',s')):
  s'=s∧∃u',(Instr.fieldAt t u f).run K.P w= .ok u' w∧ax K β Z s a w c' u'∧bQ c'∧fj u'=true:=by
 unfold yq at he
 split at he
 ·rename_i size bytes fs zero bN
  split at he
  ·rename_i o ft iA
   split at he
   ·rename_i i hft
    obtain⟨_,s1,h1,ak⟩:=av he
    obtain⟨hne,hs1⟩:=bS h1
    subst hs1
    clear he
    obtain⟨d,hd,hk,hun⟩:=dx (w:=w) (hT.T _ _ bN)
    obtain⟨fields,rfl,rfl⟩:=yO hk
    rw[List.getElem?_map]at iA
    cases hf:fields.toList[f]? with
    |none=>rw[hf]at iA;cases iA
    |some fd=>
     rw[hf]at iA
     simp only[Option.map_some,Option.some.injEq,Prod.mk.injEq]at iA
     obtain⟨rfl,rfl⟩:=iA
     have hf':fields[f]? =some fd:=by simpa using hf
     have hrun:∀b o,(Instr.fieldAt t (.pointer (some ⟨b,o,none⟩)) f).run K.P w= .ok (.pointer (some ⟨b,o+fd.offset,none⟩)) w:=by
      intro b o
      simp only[Instr.fieldAt,Sem.run_bind,hun,Result.andThen_ok,hf',Instr.sureAddr,Sem.run_pure,fieldPlace,run_sizeOf (hT.T _ _ hft),hne,if_false,sN]
     cases c with
     |ptr k off=>
      obtain⟨rfl,rfl⟩:=aE ak
      obtain⟨b,g1,rfl⟩:=bu
      exact⟨rfl,_,hrun _ _,⟨b,g1,rfl⟩,by simp[bQ],rfl⟩
     |ea r j hv e n off=>
      obtain⟨rfl,rfl⟩:=aE ak
      obtain⟨b,o,rfl,g1,g2⟩:=bu
      refine⟨rfl,_,hrun _ _,⟨b,o+fd.offset,rfl,g1,fun h1 h2=>?_⟩,by simp[bQ],rfl⟩
      obtain⟨ad,len,cap,f1,f2,f3,f4,f5⟩:=g2 h1 h2
      exact⟨ad,len,cap,f1,f2,f3,by omega,f5⟩
     |da ds=>
      obtain⟨_,s2,h2,aH⟩:=av ak
      obtain⟨hle,hs2⟩:=bS h2
      subst hs2
      obtain⟨rfl,rfl⟩:=aE aH
      obtain⟨b,o,rfl,g1,g2⟩:=bu
      exact⟨rfl,_,hrun _ _,⟨b,o+fd.offset,rfl,g1,g2.drop _⟩,by simp[bQ],rfl⟩
     |_=>simp[Prog.exec]at ak
   ·simp[Prog.exec]at he
  ·simp[Prog.exec]at he
 ·simp[Prog.exec]at he
theorem awl {t:TypeId} {c c':C} {k:IntKind} {n:Int} {u:Value} {s':St} (bu:ax K β Z s a w c u) (he:(yu cfg t c n).exec s=some (c',s')):
  s'=s∧∃u',(Instr.indexAt t u (.int k n)).run K.P w= .ok u' w∧ax K β Z s a w c' u'∧bQ c'∧fj u'=true:=by
 unfold yu at he
 split at he
 ·rename_i size bytes et zero bN
  obtain⟨d,hd,hk,hun⟩:=dx (w:=w) (hT.T _ _ bN)
  have cG:=ku hk
  subst cG
  split at he
  ·rename_i i hft
   have hrun:∀(ad:Addr) (len cap:Nat),ad.spot=none→0≤n∧n<len→(Instr.indexAt t (.slice (some ad) len cap) (.int k n)).run K.P w= .ok (.pointer (some ⟨ad.block,ad.off+n.toNat * i.size,none⟩)) w:=by
    intro ad len cap hsp hn
    simp[Instr.indexAt,asIntOf,hun,run_sizeOf (hT.T _ _ hft),hn,nH hsp]
   split at he
   ·rename_i r j hv cv e k' xs
    obtain⟨_,s1,h1,ak⟩:=av he
    obtain⟨hn,hs1⟩:=bS h1
    subst hs1
    obtain⟨_,s2,h2,aH⟩:=av ak
    obtain⟨⟨hsz,hm⟩,hs2⟩:=bS h2
    subst hs2
    obtain⟨rfl,rfl⟩:=aE aH
    obtain⟨dU,cap',rfl,g2,g3,g4,g5,g6⟩:=(ax.lB hm).1 bu
    refine⟨rfl,_,hrun dU _ cap' g2 hn,⟨_,_,rfl,g4,fun q1 q2=>?_⟩,by simp[bQ],rfl⟩
    obtain⟨ad,len,cap,f1,f2,f3,f4,oR,f5,f6,f7,f8⟩:=g6 q1 q2
    have hoff:dU.off=ad.off+k' * e:=f4.resolve_right (by omega)
    obtain⟨ys,q3,_⟩:=f8
    exact⟨ad,len,cap,f1,f2,f3,by rw[hoff,hsz,Nat.add_mul];omega,ys,q3⟩
   ·rename_i e xs
    obtain⟨_,s1,h1,ak⟩:=av he
    obtain⟨hn,hs1⟩:=bS h1
    subst hs1
    obtain⟨_,s2,h2,aH⟩:=av ak
    obtain⟨⟨hsz,hm⟩,hs2⟩:=bS h2
    subst hs2
    split at aH
    ·rename_i ds hds
     obtain⟨rfl,rfl⟩:=aE aH
     obtain⟨ad,cap,rfl,g24,g3,g5⟩:=(bL.iX hm).1 bu
     obtain⟨_,hrow⟩:=g5.get hds
     have hlt:=(List.getElem?_eq_some_iff.1 hds).1
     obtain⟨g2,g4⟩:=g24.resolve_left (by omega)
     exact⟨rfl,_,hrun ad _ cap g2 hn,⟨_,_,rfl,g4,by rw[hsz];exact hrow⟩,by simp[bQ],rfl⟩
    ·simp[Prog.exec]at aH
   ·simp[Prog.exec]at he
  ·simp[Prog.exec]at he
 ·rename_i size bytes len et zero bN
  obtain⟨d,hd,hk,hun⟩:=dx (w:=w) (hT.T _ _ bN)
  have cG:=acO hk
  subst cG
  split at he
  ·rename_i i hft
   split at he
   ·rename_i key off
    obtain⟨_,s1,h1,ak⟩:=av he
    obtain⟨hn,hs1⟩:=bS h1
    subst hs1
    obtain⟨rfl,rfl⟩:=aE ak
    obtain⟨b,g1,rfl⟩:=bu
    refine⟨rfl,_,?_,⟨b,g1,rfl⟩,by simp[bQ],rfl⟩
    simp[Instr.indexAt,asIntOf,hun,run_sizeOf (hT.T _ _ hft),hn,Instr.sureAddr,sN]
   ·simp[Prog.exec]at he
  ·simp[Prog.exec]at he
 ·simp[Prog.exec]at he
end
end Go.Vs
namespace Go.Vs
theorem awm (l:List UInt8):(ByteArray.mk l.toArray).toList=l:=by rw[Lib.toList_data]
theorem yS (l:List UInt8):(ByteArray.mk l.toArray).size=l.length:=by simp[ByteArray.size]
theorem awn (l m:List UInt8):ByteArray.mk l.toArray++ByteArray.mk m.toArray=ByteArray.mk (l++m).toArray:=by
 apply ByteArray.ext
 simp[ByteArray.data_append]
theorem awo (l:List UInt8) (n:Nat):(ByteArray.mk l.toArray)[n]? =l[n]? :=by
 by_cases h:n<l.length
 ·rw[List.getElem?_eq_getElem h,getElem?_pos (ByteArray.mk l.toArray) n (by simpa[ByteArray.size]using h)]
  rfl
 ·rw[List.getElem?_eq_none (by omega),getElem?_neg (ByteArray.mk l.toArray) n (by simpa[ByteArray.size]using h)]
theorem ant (l:List UInt8) (a b:Nat):(ByteArray.mk l.toArray).extract a b=ByteArray.mk ((l.take b).drop a).toArray:=by
 apply ByteArray.ext
 simp[ByteArray.data_extract]
 rw[List.drop_take]
section
variable {K:Ctx} {β:Key→Option Nat} {ω:Nat→Option bX} {Z:Nat→Prop} {s:St} {a:Act} {w:World} {cfg:aP} (hT:eS K.P cfg)
theorem awq {op:BinOp} {k:IntKind} {x y:Int} {v:SV} {s':St} {t:TypeId} (hop:op≠ .shl∧op≠ .shr) (he:(pW op k x y).exec s=some (v,s')):
  s'=s∧∃d u,v= .one (.d d)∧(binOp op t (.int k x) (.int k y)).run K.P w= .ok u w∧bL w Z d u:=by
 cases op<;>simp only[pW,ez,gd]at he<;>first
  |exact absurd rfl hop.1
  |exact absurd rfl hop.2
  |(obtain⟨rfl,rfl⟩:=aE he;exact⟨rfl,_,_,rfl,by simp[binOp,Op.intArith,Op.intBits,Op.intCmp],rfl⟩)
  |(obtain⟨_,s1,h1,ak⟩:=av he
    obtain⟨hn,hs1⟩:=bS h1
    subst hs1
    obtain⟨rfl,rfl⟩:=aE ak
    exact⟨rfl,_,_,rfl,by simp[binOp,Op.intDiv,hn],rfl⟩)
  |(simp[Prog.exec]at he)
theorem awr {op:BinOp} {x y:List UInt8} {v:SV} {s':St} {t:TypeId} (he:(yo op x y).exec s=some (v,s')):
  s'=s∧∃d u,v= .one (.d d)∧(binOp op t (.string ⟨x.toArray⟩) (.string ⟨y.toArray⟩)).run K.P w= .ok u w∧bL w Z d u:=by
 have aws:(x==y)=decide (x=y):=by
  by_cases h:x=y<;>simp[h]
 cases op<;>simp only[yo,gd]at he<;>first
  |(obtain⟨rfl,rfl⟩:=aE he
    refine⟨rfl,_,_,rfl,?_,rfl⟩
    simp only[binOp,Op.stringOp,awm,aws,Sem.run_pure])
  |(obtain⟨_,s1,h1,ak⟩:=av he
    obtain⟨hn,hs1⟩:=bS h1
    subst hs1
    obtain⟨rfl,rfl⟩:=aE ak
    refine⟨rfl,_,_,rfl,?_,rfl⟩
    simp only[binOp,Op.stringOp,yS,awn]
    rw[if_neg]
    ·simp
    ·simp only[IntKind.max,IntKind.signed,IntKind.bits]
     simp
     omega)
  |(simp[Prog.exec]at he)
theorem awt (op:BinOp) (t:TypeId) (x y:Operand) {u v:Value} (hu:fj u=true) (hn:u≠ .nilIface):(eqGuard op t x y u v).run K.P w= .ok () w:=by
 unfold eqGuard
 cases op<;>simp<;>cases u<;>simp_all [fj]
theorem awu {P:Program} {t:TypeId} (hun:(underlying t).run P w= .ok .bool w) (d:Nat) (x y:Bool):(Op.equalIn (d+1) t (.bool x) (.bool y)).run P w= .ok (x==y) w:=by
 rw[Op.equalIn]
 simp[hun]
theorem anu {P:Program} {t:TypeId} (hun:(underlying t).run P w= .ok .bool w) (x y:Bool):(Op.equal t (.bool x) (.bool y)).run P w= .ok (x==y) w:=
 awu hun 9999 x y
theorem awv {P:Program} {t e:TypeId} (hun:(underlying t).run P w= .ok (.slice e) w) (d:Nat) (b:Option Addr) (l c:Nat):(Op.equalIn (d+1) t (.slice b l c) (.slice none 0 0)).run P w= .ok b.isNone w:=by
 rw[Op.equalIn]
 simp only[Sem.run_bind,hun,Result.andThen_ok]
 cases b<;>simp
theorem eq_nil {P:Program} {t e:TypeId} (hun:(underlying t).run P w= .ok (.slice e) w) (b:Option Addr) (l c:Nat):(Op.equal t (.slice b l c) (.slice none 0 0)).run P w= .ok b.isNone w:=
 awv hun 9999 b l c
theorem anv {K:Ctx} {β:Key→Option Nat} {Z:Nat→Prop} {s:St} {a:Act} {w:World} {c:C} {b:Bool} {v:Value} (h:sB c=some b) (hr:ax K β Z s a w c v):∃ad l cap,v= .slice ad l cap∧ad.isNone=b∧fj v=true:=by
 cases c with
 |d x=>
  cases x<;>simp only[sB,Option.some.injEq,reduceCtorEq]at h
  ·have e:v= .slice none 0 0:=hr
   subst h e
   exact⟨_,_,_,rfl,rfl,rfl⟩
  ·split at h
   ·cases h
   ·rename_i hm
    obtain⟨ad,cap,e,_⟩:=(bL.iX (by simpa using hm)).1 hr
    cases h
    subst e
    exact⟨_,_,_,rfl,rfl,rfl⟩
 |own e xs=>
  simp only[sB]at h
  split at h
  ·cases h
  ·rename_i hm
   obtain⟨ad,cap,e,_⟩:=(ax.gK (by simpa using hm)).1 hr
   cases h
   subst e
   exact⟨_,_,_,rfl,rfl,rfl⟩
 |aD=>
  simp only[sB]at h
  split at h
  ·cases h
  ·rename_i hm
   obtain⟨ad,cap,e,_⟩:=(ax.lB (by simpa using hm)).1 hr
   cases h
   subst e
   exact⟨_,_,_,rfl,rfl,rfl⟩
 |_=>simp[sB]at h
theorem acP {cs:List C}:∀{us:List Value} {ds:List D},fH cs=some ds→au (fun u c=>ax K β Z s a w c u) us cs→DL w Z us ds:=by
 induction cs with
 |nil=>intro us ds h hall;simp[fH]at h;subst h;cases us with|nil=>trivial|cons _ _=>exact hall.elim
 |cons c cs ih=>
  intro us ds h hall
  cases us with
  |nil=>exact hall.elim
  |cons u us=>
   cases c with
   |d x=>
    simp only[fH]at h
    split at h
    ·rename_i ds' h1
     cases h
     exact⟨hall.1,ih h1 hall.2⟩
    ·cases h
   |_=>simp[fH]at h
include hT in
theorem aww (h:Rel K β ω Z s a w) {op:BinOp} {t yt:TypeId} {x y:Operand} {dst:Nat} {o:Oper} (ho:o.op= .binOp op t x y yt) {v:SV} {s':St} (he:(bp cfg o.op dst).exec s=some (v,s')):
  bR K s' a dst ((execOp a.eval o).run K.P w) v:=by
 rw[ho]at he
 simp only[bp]at he
 obtain⟨v1,s1,h1,ak⟩:=av he
 obtain⟨hs1,hv1,mH,_⟩:=fm h h1
 subst hs1
 clear he
 obtain⟨v2,s2,h2,aH⟩:=av ak
 obtain⟨hs2,qu,hn2,_⟩:=fm h h2
 subst hs2
 clear ak
 have cQ:(execOp a.eval o).run K.P w=((do eqGuard op t x y (a.eval x) (a.eval y);binOp op t (a.eval x) (a.eval y):Sem Value).run K.P w).andThen fun u w'=>.ok (.value u) w':=by
  simp only[execOp,ho,Sem.run_bind,Sem.run_pure]
 split at aH
 ·rename_i c1 c2
  obtain⟨o1,r1⟩:=hv1
  obtain⟨o2,r2⟩:=qu
  have key:s'=s2∧a.eval x≠ .nilIface∧∃d u,v= .one (.d d)∧(binOp op t (a.eval x) (a.eval y)).run K.P w= .ok u w∧bL w Z d u:=by
   unfold oH at aH
   split at aH
   ·rename_i k i1 k' i2
    have e1:a.eval x= .int k i1:=r1
    have e2:a.eval y= .int k' i2:=r2
    rw[e1,e2]
    split at aH
    ·obtain⟨_,s3,h3,bz⟩:=av aH
     obtain⟨hb,hs3⟩:=bS h3
     subst hs3
     obtain⟨rfl,rfl⟩:=aE bz
     refine⟨rfl,by simp,_,_,rfl,?_,rfl⟩
     simp only[binOp,Op.shift]
     rw[if_neg (by omega)]
     rfl
    ·obtain⟨_,s3,h3,bz⟩:=av aH
     obtain⟨hb,hs3⟩:=bS h3
     subst hs3
     obtain⟨rfl,rfl⟩:=aE bz
     refine⟨rfl,by simp,_,_,rfl,?_,rfl⟩
     simp only[binOp,Op.shift]
     rw[if_neg (by omega)]
     rfl
    ·rename_i hs1 hs2
     split at aH
     ·rename_i hk
      subst hk
      obtain⟨g1,g2⟩:=awq (K:=K) (w:=w) (Z:=Z) (t:=t) ⟨hs1,hs2⟩ aH
      exact⟨g1,by simp,g2⟩
     ·simp[Prog.exec]at aH
   ·rename_i l1 l2
    have e1:a.eval x= .string ⟨l1.toArray⟩:=r1
    have e2:a.eval y= .string ⟨l2.toArray⟩:=r2
    rw[e1,e2]
    obtain⟨g1,g2⟩:=awr (K:=K) (w:=w) (Z:=Z) (t:=t) aH
    exact⟨g1,by simp,g2⟩
   ·rename_i b1 b2
    have e1:a.eval x= .bool b1:=r1
    have e2:a.eval y= .bool b2:=r2
    rw[e1,e2]
    split at aH
    ·rename_i bN
     obtain⟨d,hd,hk,hun⟩:=dx (w:=w) (hT.T _ _ bN)
     have cG:d= .bool:=by cases d<;>simp[tk]at hk;rfl
     subst cG
     obtain⟨rfl,rfl⟩:=aE aH
     refine⟨rfl,by simp,_,_,rfl,?_,rfl⟩
     simp only[binOp,Sem.run_bind,anu hun,Result.andThen_ok,Sem.run_pure]
    ·rename_i bN
     obtain⟨d,hd,hk,hun⟩:=dx (w:=w) (hT.T _ _ bN)
     have cG:d= .bool:=by cases d<;>simp[tk]at hk;rfl
     subst cG
     obtain⟨rfl,rfl⟩:=aE aH
     refine⟨rfl,by simp,_,_,rfl,?_,rfl⟩
     simp only[binOp,Sem.run_bind,anu hun,Result.andThen_ok,Sem.run_pure]
    ·simp[Prog.exec]at aH
   ·have e2:a.eval y= .slice none 0 0:=r2
    rw[e2]
    unfold acj at aH
    split at aH
    ·rename_i bN hb
     obtain⟨d,hd,hk,hun⟩:=dx (w:=w) (hT.T _ _ bN)
     obtain⟨e,rfl⟩:∃e,d= .slice e:=by cases d<;>simp[tk]at hk;exact⟨_,rfl⟩
     obtain⟨ad,l,cap,e1,gi,_⟩:=anv hb r1
     rw[e1]
     obtain⟨rfl,rfl⟩:=aE aH
     refine⟨rfl,by simp,_,_,rfl,?_,rfl⟩
     simp only[binOp,Sem.run_bind,eq_nil hun,Result.andThen_ok,Sem.run_pure,gi]
    ·rename_i bN hb
     obtain⟨d,hd,hk,hun⟩:=dx (w:=w) (hT.T _ _ bN)
     obtain⟨e,rfl⟩:∃e,d= .slice e:=by cases d<;>simp[tk]at hk;exact⟨_,rfl⟩
     obtain⟨ad,l,cap,e1,gi,_⟩:=anv hb r1
     rw[e1]
     obtain⟨rfl,rfl⟩:=aE aH
     refine⟨rfl,by simp,_,_,rfl,?_,rfl⟩
     simp only[binOp,Sem.run_bind,eq_nil hun,Result.andThen_ok,Sem.run_pure,gi]
    ·simp[Prog.exec]at aH
   ·simp[Prog.exec]at aH
  obtain⟨rfl,qv,d,u,rfl,hrun,hd⟩:=key
  refine bR.d h ?_ hd
  rw[cQ]
  simp only[Sem.run_bind,awt op t x y o1 qv,Result.andThen_ok,hrun]
 ·rename_i ey cs2
  unfold ack at aH
  obtain⟨ws1,e1,r1⟩:=hv1
  obtain⟨kr,e2,r2⟩:=qu
  split at aH
  ·rename_i sh ds es hc q1 q2
   have hE:=(hT.E t sh hc).eq
   split at aH
   ·rename_i hf
    simp only[Bool.and_eq_true]at hf
    obtain⟨rfl,rfl⟩:=aE aH
    refine bR.d (d:=.bool (cw ds es)) h (u:=.bool (cw ds es)) ?_ rfl
    rw[cQ,e1,e2,hE w Z ws1 kr ds es x y (acP q1 r1) (acP q2 r2) hf.1 hf.2 .eql (.inl rfl)]
    rfl
   ·simp[Prog.exec]at aH
  ·rename_i sh ds es hc q1 q2
   have hE:=(hT.E t sh hc).eq
   split at aH
   ·rename_i hf
    simp only[Bool.and_eq_true]at hf
    obtain⟨rfl,rfl⟩:=aE aH
    refine bR.d (d:=.bool (!cw ds es)) h (u:=.bool (!cw ds es)) ?_ rfl
    rw[cQ,e1,e2,hE w Z ws1 kr ds es x y (acP q1 r1) (acP q2 r2) hf.1 hf.2 .neq (.inr rfl)]
    rfl
   ·simp[Prog.exec]at aH
  ·simp[Prog.exec]at aH
 ·simp[Prog.exec]at aH
end
end Go.Vs
namespace Go.Vs
section
variable {K:Ctx} {β:Key→Option Nat} {ω:Nat→Option bX} {Z:Nat→Prop} {s:St} {a:Act} {w:World} {cfg:aP} (hT:eS K.P cfg)
theorem qw {c:C} {n:Int} {s':St} (he:(kZ c).exec s=some (n,s')):s'=s∧∃k,c= .d (.int k n):=by
 unfold kZ at he
 split at he
 ·obtain⟨rfl,rfl⟩:=aE he;exact⟨rfl,_,rfl⟩
 ·simp[Prog.exec]at he
theorem awx {c:C} {b:Bool} {s':St} (he:(vq c).exec s=some (b,s')):s'=s∧c= .d (.bool b):=by
 unfold vq at he
 split at he
 ·obtain⟨rfl,rfl⟩:=aE he;exact⟨rfl,rfl⟩
 ·simp[Prog.exec]at he
theorem aHz (h:Rel K β ω Z s a w) {x:Operand} {n:Int} {s':St} (he:(do let c ←dw x;kZ c:Prog Int).exec s=some (n,s')):s'=s∧∃k,a.eval x= .int k n:=by
 obtain⟨c,s1,h1,ak⟩:=av he
 obtain⟨hs1,o1,r1,_⟩:=ew h h1
 subst hs1
 obtain⟨hs2,k,rfl⟩:=qw ak
 exact⟨hs2,k,r1⟩
theorem awy (h:Rel K β ω Z s a w) {op:UnOp} {t:TypeId} {x:Operand} {dst:Nat} {o:Oper} (ho:o.op= .unOp op t x) {v:SV} {s':St} (he:(bp cfg o.op dst).exec s=some (v,s')):
  bR K s' a dst ((execOp a.eval o).run K.P w) v:=by
 rw[ho]at he
 simp only[bp]at he
 obtain⟨c,s1,h1,ak⟩:=av he
 obtain⟨hs1,o1,r1,_⟩:=ew h h1
 subst hs1
 clear he
 have cQ:(execOp a.eval o).run K.P w=((Op.unary op (a.eval x)).run K.P w).andThen fun u w'=>.ok (.value u) w':=by
  simp only[execOp,ho,Sem.run_bind,Sem.run_pure]
 split at ak
 ·rename_i k n _
  obtain⟨rfl,rfl⟩:=aE ak
  have e1:a.eval x= .int k n:=r1
  exact bR.d (d:=.int k (k.wrap (0 - n))) h (u:=.int k (k.wrap (0 - n))) (by rw[cQ,e1];simp[Op.unary,Op.intArith]) rfl
 ·rename_i k n _
  have e1:a.eval x= .int k n:=r1
  simp only[pW,ez]at ak
  obtain⟨rfl,rfl⟩:=aE ak
  exact bR.d (d:=.int k _) h (u:=.int k _) (by rw[cQ,e1];simp[Op.unary,Op.intBits]) rfl
 ·rename_i b _
  obtain⟨rfl,rfl⟩:=aE ak
  have e1:a.eval x= .bool b:=r1
  exact bR.d (d:=.bool (!b)) h (u:=.bool (!b)) (by rw[cQ,e1];simp[Op.unary]) rfl
 ·simp[Prog.exec]at ak
theorem awz {isStr:Bool} {v x:SV} {u:Value} {s':St} (hv:aY (ax K β Z s a w) u v) (he:(nD isStr v).exec s=some (x,s')):
  s'=s∧∃n:Nat,x=ez .i64 n∧((isStr=true∧∃l:List UInt8,u= .string ⟨l.toArray⟩∧n=l.length)∨(isStr=false∧∃ad cap,u= .slice ad n cap)):=by
 unfold nD at he
 split at he
 ·rename_i l
  obtain⟨rfl,rfl⟩:=aE he
  exact⟨rfl,l.length,rfl,.inl ⟨rfl,l,hv.2,rfl⟩⟩
 ·obtain⟨rfl,rfl⟩:=aE he
  exact⟨rfl,0,rfl,.inr ⟨rfl,none,0,hv.2⟩⟩
 ·rename_i e xs
  obtain⟨_,s1,h1,ak⟩:=av he
  obtain⟨hm,hs1⟩:=bS h1
  subst hs1
  obtain⟨rfl,rfl⟩:=aE ak
  obtain⟨ad,cap,g,_⟩:=(bL.iX hm).1 hv.2
  exact⟨rfl,xs.length,rfl,.inr ⟨rfl,_,_,g⟩⟩
 ·rename_i r j iy cv e k xs
  obtain⟨_,s1,h1,ak⟩:=av he
  obtain⟨hm,hs1⟩:=bS h1
  subst hs1
  obtain⟨rfl,rfl⟩:=aE ak
  obtain⟨ad,cap,g,_⟩:=(ax.lB hm).1 hv.2
  exact⟨rfl,xs.length,rfl,.inr ⟨rfl,_,_,g⟩⟩
 ·simp[Prog.exec]at he
def ags (x:Option Int) (y:Option Value):Prop:=(x=none∧y=none)∨∃n k,x=some n∧y=some (.int k n)
theorem acS (h:Rel K β ω Z s a w) {o:Option Operand} {x:Option Int} {s':St} (he:(qf o).exec s=some (x,s')):s'=s∧ags x (o.map a.eval):=by
 cases o with
 |none=>obtain⟨rfl,rfl⟩:=aE he;exact⟨rfl,.inl ⟨rfl,rfl⟩⟩
 |some y=>
  simp only[qf]at he
  obtain⟨c,s1,h1,ak⟩:=av he
  obtain⟨n,s2,h2,aH⟩:=av ak
  obtain⟨hx,hs3⟩:=aE aH
  obtain⟨hs1,o1,r1,_⟩:=ew h h1
  subst hs1
  obtain⟨hs2,k,hc⟩:=qw h2
  subst hs2;subst hs3;subst hx;subst hc
  exact⟨rfl,.inr ⟨n,k,rfl,by rw[Option.map_some];exact congrArg some r1⟩⟩
theorem anw {P:Program} (isSlice:Bool) (len cap:Nat) {lo hi:Option Int} {vlo vhi:Option Value} (hlo:ags lo vlo) (hhi:ags hi vhi) (hb:0≤lo.getD 0∧lo.getD 0≤hi.getD len∧hi.getD len≤len) (hc:len≤cap):
  (Instr.sliceBounds isSlice len cap vlo vhi none).run P w= .ok ((lo.getD 0).toNat,(hi.getD len).toNat,cap) w:=by
 rcases hlo with⟨rfl,rfl⟩|⟨n,k,rfl,rfl⟩<;>rcases hhi with⟨rfl,rfl⟩|⟨m,k',rfl,rfl⟩<;>simp only[Option.getD_none,Option.getD_some]at hb ⊢
 ·simp[Instr.sliceBounds]
 ·have h1:0≤m∧m≤(cap:Int):=by omega
  simp[Instr.sliceBounds,Instr.sliceBound,asIntOf,h1]
 ·have h1:0≤n∧n≤(len:Int):=by omega
  simp[Instr.sliceBounds,Instr.sliceBound,asIntOf,h1]
 ·have h1:0≤m∧m≤(cap:Int):=by omega
  have h2:0≤n∧n≤m:=by omega
  have h3:0≤n∧n≤((m.toNat:Nat):Int):=by omega
  simp[Instr.sliceBounds,Instr.sliceBound,asIntOf,h1]
  intro h5
  have:=h5 (by omega)
  omega
theorem anA {α:Type} (xs:List α) (l h:Nat):((xs.take h).drop l).length=min h xs.length - l:=by simp
include hT in
theorem awA (h:Rel K β ω Z s a w) {t:TypeId} {x:Operand} {lo hi:Option Operand} {dst:Nat} {o:Oper} (ho:o.op= .slice t x lo hi none) {v:SV} {s':St} (he:(bp cfg o.op dst).exec s=some (v,s')):
  bR K s' a dst ((execOp a.eval o).run K.P w) v:=by
 rw[ho]at he
 simp only[bp]at he
 have cQ:(execOp a.eval o).run K.P w=((Instr.sliceAt t (a.eval x) (lo.map a.eval) (hi.map a.eval) none).run K.P w).andThen fun u w'=>.ok (.value u) w':=by
  simp only[execOp,ho,Sem.run_bind,Sem.run_pure]
  rfl
 split at he
 ·rename_i bN
  obtain⟨d,hd,hk,hun⟩:=dx (w:=w) (hT.T _ _ bN)
  have cG:=oT hk
  subst cG
  obtain⟨v1,s1,h1,ak⟩:=av he
  obtain⟨hs1,hv,iB,awB⟩:=fm h h1
  subst hs1
  clear he
  obtain⟨l,s2,h2,aH⟩:=av ak
  obtain⟨hs2,hl⟩:=acS h h2
  subst hs2
  clear ak
  obtain⟨m,s3,h3,bz⟩:=av aH
  obtain⟨hs3,hm⟩:=acS h h3
  subst hs3
  clear aH
  unfold acq at bz
  split at bz
  ·rename_i str
   obtain⟨_,s4,h4,cn⟩:=av bz
   obtain⟨hb,dm⟩:=bS h4
   subst dm
   obtain⟨rfl,rfl⟩:=aE cn
   have e1:a.eval x= .string ⟨str.toArray⟩:=hv.2
   refine bR.d h (u:=.string ⟨((str.take (m.getD str.length).toNat).drop (l.getD 0).toNat).toArray⟩) ?_ rfl
   rw[cQ,e1]
   have hbd:=anw (P:=K.P) (w:=w) false str.length str.length hl hm hb (Nat.le_refl _)
   simp only[Instr.sliceAt,Instr.slice,Sem.run_bind,hun,Result.andThen_ok,yS,Option.isSome_none,Bool.false_eq_true,if_false]
   simp only[Sem.run_pure,Result.andThen_ok,hbd,ant]
  ·simp[Prog.exec]at bz
 ·rename_i et bN
  split at he
  ·rename_i i hft
   obtain⟨d,hd,hk,hun⟩:=dx (w:=w) (hT.T _ _ bN)
   have cG:=ku hk
   subst cG
   obtain⟨v1,s1,h1,ak⟩:=av he
   obtain⟨hs1,hv,iB,awB⟩:=fm h h1
   subst hs1
   clear he
   obtain⟨l,s2,h2,aH⟩:=av ak
   obtain⟨hs2,hl⟩:=acS h h2
   subst hs2
   clear ak
   obtain⟨m,s3,h3,bz⟩:=av aH
   obtain⟨hs3,hm⟩:=acS h h3
   subst hs3
   clear aH
   have hrun:∀(ad:Option Addr) (len cap:Nat),0≤l.getD 0∧l.getD 0≤m.getD len∧m.getD len≤len→len≤cap→a.eval x= .slice ad len cap→
     (execOp a.eval o).run K.P w= .ok (.value (.slice (if cap=(l.getD 0).toNat then ad else ad.map (·.add ((l.getD 0).toNat * i.size))) ((m.getD len).toNat - (l.getD 0).toNat) (cap - (l.getD 0).toNat))) w:=by
    intro ad len cap hb hc hx
    have hbd:=anw (P:=K.P) (w:=w) true len cap hl hm hb hc
    rw[cQ,hx]
    simp only[Instr.sliceAt,Instr.slice,Sem.run_bind,hun,Result.andThen_ok,hbd,run_sizeOf (hT.T _ _ hft),Sem.run_pure]
   unfold nE at bz
   split at bz
   ·obtain⟨_,s4,h4,cn⟩:=av bz
    obtain⟨hb,dm⟩:=bS h4
    subst dm
    obtain⟨rfl,rfl⟩:=aE cn
    have e1:a.eval x= .slice none 0 0:=hv.2
    have:=hrun none 0 0 (by have:=hb.1;have:=hb.2;simp only[Int.ofNat_zero];omega) (Nat.le_refl _) e1
    refine bR.d h (u:=.slice none 0 0) ?_ rfl
    rw[this]
    simp[hb.1,hb.2]
   ·rename_i e xs
    obtain⟨_,s4,h4,cn⟩:=av bz
    obtain⟨hb,dm⟩:=bS h4
    subst dm
    obtain⟨_,s5,h5,dN⟩:=av cn
    obtain⟨⟨hsz,hmp⟩,gj⟩:=bS h5
    subst gj
    obtain⟨rfl,rfl⟩:=aE dN
    obtain⟨ad,cap,e1,g24,g3,g5⟩:=(bL.iX hmp).1 hv.2
    have hr:=hrun (some ad) xs.length cap hb g3 e1
    refine bR.d h hr ?_
    have hlen:((xs.take (m.getD xs.length).toNat).drop (l.getD 0).toNat).length=(m.getD xs.length).toNat - (l.getD 0).toNat:=by rw[anA];omega
    have hrows:=(g5.take (m.getD xs.length).toNat).drop (l.getD 0).toNat
    refine(bL.iX hmp).2 ?_
    by_cases hcap:cap=(l.getD 0).toNat
    ·rw[if_pos hcap]
     refine⟨ad,cap - (l.getD 0).toNat,by rw[hlen],.inl (by omega),by rw[hlen];omega,?_⟩
     have:((xs.take (m.getD xs.length).toNat).drop (l.getD 0).toNat)=[]:=List.length_eq_zero_iff.1 (by omega)
     rw[this]
     trivial
    ·rw[if_neg hcap]
     have hc0:cap≠0:=by omega
     obtain⟨g2,g4⟩:=g24.resolve_left hc0
     refine⟨ad.add ((l.getD 0).toNat * i.size),cap - (l.getD 0).toNat,by rw[hlen];rfl,.inr ⟨?_,?_⟩,by rw[hlen];omega,?_⟩
     ·rw[nH g2]
     ·rw[nH g2];exact g4
     ·rw[nH g2,←hsz];exact hrows
   ·rename_i r j iy cv e k xs
    obtain⟨_,s4,h4,cn⟩:=av bz
    obtain⟨hb,dm⟩:=bS h4
    subst dm
    obtain⟨_,s5,h5,dN⟩:=av cn
    obtain⟨⟨hsz,hmp⟩,gj⟩:=bS h5
    subst gj
    obtain⟨rfl,rfl⟩:=aE dN
    obtain⟨dU,cap',e1,g2,g3,g4,g5,g6⟩:=(ax.lB hmp).1 hv.2
    have hr:=hrun (some dU) xs.length cap' hb g3 e1
    have hlen:((xs.take (m.getD xs.length).toNat).drop (l.getD 0).toNat).length=(m.getD xs.length).toNat - (l.getD 0).toNat:=by rw[anA];omega
    refine bR.same h hr ⟨rfl,(ax.lB hmp).2 ?_⟩ (by simp[SV.cells,bQ])
    have hsp:(if cap'=(l.getD 0).toNat then dU else dU.add ((l.getD 0).toNat * i.size)).spot=none:=by
     split
     ·exact g2
     ·rw[nH g2]
    have nJ:(if cap'=(l.getD 0).toNat then dU else dU.add ((l.getD 0).toNat * i.size)).block=dU.block:=by
     split
     ·rfl
     ·rw[nH g2]
    refine⟨if cap'=(l.getD 0).toNat then dU else dU.add ((l.getD 0).toNat * i.size),cap' - (l.getD 0).toNat,by rw[hlen];split<;>rfl,hsp,by rw[hlen];omega,g4,g5,fun q1 q2=>?_⟩
    obtain⟨ad,len,cap,f1,f2,f3,f4,oR,f5,f6,f7,ys,f8,f9⟩:=g6 q1 q2
    refine⟨ad,len,cap,f1,f2,by rw[nJ];exact f3,?_,?_,by omega,by rw[hlen];omega,f7,ys,f8,fun dX=>?_⟩
    ·by_cases hcap:cap'=(l.getD 0).toNat
     ·exact .inr (by omega)
     ·rw[if_neg hcap,nH g2]
      rcases f4 with f4|f4
      ·left;simp only;rw[f4,←hsz,Nat.add_mul];omega
      ·right;omega
    ·by_cases hcap:cap'=(l.getD 0).toNat
     ·rw[if_pos hcap];exact oR
     ·rw[if_neg hcap,nH g2]
      rcases f4 with f4|f4
      ·simp only;rw[f4,←hsz,←f5,Nat.add_mul]
       have:(l.getD 0).toNat * e≤cap' * e:=Nat.mul_le_mul_right _ (by omega)
       omega
      ·omega
    ·rw[hlen]
     have hx:=f9 dX
     rw[hx]
     apply List.ext_getElem?
     intro n
     simp only[List.getElem?_drop,List.getElem?_take]
     by_cases hn:n<(m.getD xs.length).toNat - (l.getD 0).toNat
     ·have h1:(l.getD 0).toNat+n<(m.getD ((List.take xs.length (List.drop k ys)).length:Int)).toNat:=by rw[←hx];omega
      have h2:(l.getD 0).toNat+n<xs.length:=by omega
      rw[if_pos h1,if_pos h2,if_pos (by rw[←hx];exact hn)]
      congr 1
      omega
     ·have h1:¬((l.getD 0).toNat+n<(m.getD ((List.take xs.length (List.drop k ys)).length:Int)).toNat):=by rw[←hx];omega
      rw[if_neg h1,if_neg (by rw[←hx];exact hn)]
   ·simp[Prog.exec]at bz
  ·simp[Prog.exec]at he
 ·simp[Prog.exec]at he
end
end Go.Vs
namespace Go.Vs
open Go.MapKept
theorem anB {ki ei:TI} (h1:ki.size<32768) (h2:ei.size<32768):pU (cg ki ei)=ki.size:=by
 unfold pU cg kY
 have a:ki.kind.agg.toNat≤1:=by cases ki.kind.agg<;>simp
 have b:ei.kind.agg.toNat≤1:=by cases ei.kind.agg<;>simp
 omega
theorem awC {ki ei:TI} (h2:ei.size<32768):mVl (cg ki ei)=ei.size:=by
 unfold mVl cg kY
 have a:ki.kind.agg.toNat≤1:=by cases ki.kind.agg<;>simp
 have b:ei.kind.agg.toNat≤1:=by cases ei.kind.agg<;>simp
 omega
theorem anC {ki ei:TI} (h2:ei.size<32768):sx (cg ki ei)=ki.kind.agg:=by
 unfold sx cg kY
 cases ki.kind.agg<;>cases ei.kind.agg<;>simp<;>omega
theorem awD {ki ei:TI}:sy (cg ki ei)=ei.kind.agg:=by
 unfold sy cg kY
 cases ki.kind.agg<;>cases ei.kind.agg<;>simp<;>omega
theorem vL {ki ei:TI} (h1:ki.size<32768) (h2:ei.size<32768) {en:MapEntry}:mo (cg ki ei) en↔fC ki.kind.agg ki.size en.key∧fC ei.kind.agg ei.size en.val:=by
 have a:=anC (ki:=ki) h2
 have b:=anB h1 h2
 have c:sy (cg ki ei)=ei.kind.agg:=awD
 have d:=awC (ki:=ki) h2
 unfold mo
 rw[a,b,c,d]
theorem acT {ki ei:TI}:aW (cg ki ei)=true:=by
 unfold aW cg kY
 simp
theorem sX {ki ei:TI} (h1:ki.size<32768) (h2:ei.size<32768):dL (cg ki ei)=false:=by
 have a:ki.kind.agg.toNat≤1:=by cases ki.kind.agg<;>decide
 have b:ei.kind.agg.toNat≤1:=by cases ei.kind.agg<;>decide
 have:cg ki ei<1099511627776:=by unfold cg kY;omega
 unfold dL
 cases h:Nat.ble 1099511627776 (cg ki ei)
 ·rfl
 ·have:=Nat.le_of_ble_eq_true h;omega
theorem agt {ki ei:TI} (h1:ki.size<32768) (h2:ei.size<32768):cg ki ei<549755813888:=by
 have a:ki.kind.agg.toNat≤1:=by cases ki.kind.agg<;>decide
 have b:ei.kind.agg.toNat≤1:=by cases ei.kind.agg<;>decide
 unfold cg kY;omega
theorem oX {ki ei:TI} (h1:ki.size<32768) (h2:ei.size<32768):eF (cg ki ei)=false:=by
 have:=agt h1 h2
 unfold eF
 cases h:Nat.ble 549755813888 (cg ki ei)
 ·rfl
 ·have:=Nat.le_of_ble_eq_true h;omega
structure anD (ki ei:TI) (e:Nat):Prop where
 mp:aW e=true
 it:dL e=false
 oe:oE e=cg ki ei
theorem anE {e:Nat} (h:e<1099511627776):dL e=false:=by
 unfold dL
 cases h2:Nat.ble 1099511627776 e
 ·rfl
 ·have:=Nat.le_of_ble_eq_true h2;omega
theorem awE (e:Nat):549755813888≤gw e∧gw e=e+549755813888:=by unfold gw;omega
theorem awF {e n:Nat} (h1:549755813888≤e) (h2:e<1099511627776) (h3:e=n+549755813888):oE e=n:=by
 have hu:eF e=true:=by
  unfold eF
  rw[anE h2,Nat.ble_eq_true_of_le h1];rfl
 unfold oE
 rw[hu]
 show e - 549755813888=n
 omega
theorem qx {ki ei:TI} (h1:ki.size<32768) (h2:ei.size<32768) {e:Nat} (h:e=cg ki ei∨e=gw (cg ki ei)):anD ki ei e:=by
 rcases h with rfl|h
 ·exact⟨acT,sX h1 h2,amW (oX h1 h2)⟩
 ·have hl:=agt h1 h2
  obtain⟨a,b⟩:=awE (cg ki ei)
  rw[←h]at a b
  have hlt:e<1099511627776:=by omega
  have hmp:4294967296≤e:=by omega
  exact⟨Nat.ble_eq_true_of_le hmp,anE hlt,awF a hlt b⟩
section
variable {K:Ctx} {β:Key→Option Nat} {ω:Nat→Option bX} {Z:Nat→Prop} {s:St} {a:Act} {w:World} {cfg:aP}
theorem sY {P:Program} (hT:eS P cfg) {t kt:TypeId} {ki ei:TI} (h:gx cfg t=some (kt,ki,ei)):
  ∃et,P.underlying t=some (.map kt et)∧cfg.ti kt=some ki∧cfg.ti et=some ei∧ki.size<32768∧ei.size<32768:=by
 unfold gx at h
 split at h
 ·rename_i size bytes kt' et zero bN
  split at h
  ·rename_i ki' ei' h1 h2
   split at h
   ·rename_i hb
    cases h
    obtain⟨info,d,g1,g2,g3,g4,g5,g6⟩:=oS (hT.T _ _ bN)
    refine⟨et,?_,h1,h2,hb⟩
    simp only at g5
    cases d<;>simp[tk]at g5
    rw[g2,g5.1,g5.2]
   ·cases h
  ·cases h
 ·cases h
def c7 (agg:Bool) (ds:List D):Value:=if agg then oW ds else eX (ds.headD .nil)
structure agu (P:Program) (kt:TypeId) (sh:List Sc) (agg:Bool):Prop where
 check:∀(w:World) (ds:List D) (em:Bool),bD sh ds=true→(Instr.checkKey em 10000 kt (c7 agg ds)).run P w= .ok () w
 find:∀(w:World) (kd:List D) (es:List MapEntry) (fV:List (List D)),bD sh kd=true→au (fun en ks=>en.key=c7 agg ks∧bD sh ks=true) es fV→
  ∃r,(Instr.findKey kt (c7 agg kd) es).run P w= .ok r w∧((r=none∧∀ks∈fV,cw kd ks=false)∨∃(i:Nat) (en:MapEntry) (ks:List D),r=some (i,en.val)∧es[i]? =some en∧fV[i]? =some ks∧cw kd ks=true∧∀(j:Nat) ks',j<i→fV[j]? =some ks'→cw kd ks'=false)
theorem awG {k:Sc} {a b:D} (ha:bD [k] [a]=true) (hb:bD [k] [b]=true):gT a b=true↔a=b:=by
 cases k<;>cases a<;>simp only[bD,Bool.and_eq_true,decide_eq_true_eq,Bool.false_eq_true,and_true]at ha<;>
  cases b<;>simp only[bD,Bool.and_eq_true,decide_eq_true_eq,Bool.false_eq_true,and_true]at hb<;>simp[gT]
 rw[ha,hb];simp
theorem sZ {k:Sc} {sh:List Sc} {d:D} {ds:List D} (h:bD (k :: sh) (d :: ds)=true):bD [k] [d]=true∧bD sh ds=true:=by
 cases k<;>cases d<;>simp only[bD,Bool.and_eq_true,decide_eq_true_eq,Bool.false_eq_true,and_true]at h ⊢ <;>simp_all
theorem yT:∀{sh:List Sc} {xs ys:List D},bD sh xs=true→bD sh ys=true→(cw xs ys=true↔xs=ys)
 | [],[],[],_,_=>by simp[cw]
 |k :: sh,x :: xs,y :: ys,h1,h2=>by
  obtain⟨a1,a2⟩:=sZ h1
  obtain⟨b1,b2⟩:=sZ h2
  simp only[cw,Bool.and_eq_true,awG a1 b1,yT a2 b2,List.cons.injEq]
 | [],_ :: _,_,h,_=>by cases h
 | [],[],_ :: _,_,h=>by cases h
 |k :: _,[],_,h,_=>by cases k<;>cases h
 |k :: _,_ :: _,[],_,h=>by cases k<;>cases h
theorem anF {P:Program} {kt:TypeId} {sh:List Sc} (hE:sW P kt sh) (kd:List D) (hk:bD sh kd=true):∀(es:List MapEntry) (fV:List (List D)) (i:Nat),au (fun en ks=>en.key=c7 true ks∧bD sh ks=true) es fV→
  ∃r,(Instr.findAsking kt (c7 true kd) es i).run P w= .ok r w∧((r=none∧∀ks∈fV,cw kd ks=false)∨∃(n:Nat) (en:MapEntry) (ks:List D),r=some (i+n,en.val)∧es[n]? =some en∧fV[n]? =some ks∧cw kd ks=true∧∀(j:Nat) ks',j<n→fV[j]? =some ks'→cw kd ks'=false)
 | [],[],i,_=>⟨none,rfl,.inl ⟨rfl,by simp⟩⟩
 |en :: es,ks :: fV,i,h=>by
  have he:=hE.equal w kd ks hk h.1.2
  have hkey:en.key=oW ks:=h.1.1
  simp only[Instr.findAsking,Sem.run_bind,hkey,c7,if_true,he,Result.andThen_ok]
  cases hq:cw kd ks with
  |true=>exact⟨some (i,en.val),rfl,.inr ⟨0,en,ks,rfl,rfl,rfl,hq,by simp⟩⟩
  |false=>
   obtain⟨r,h1,h2⟩:=anF hE kd hk es fV (i+1) h.2
   simp only[c7,if_true]at h1
   refine⟨r,h1,?_⟩
   rcases h2 with⟨h2,h3⟩|⟨n,yU,ks',g1,g2,g3,g4,g5⟩
   ·exact .inl ⟨h2,by simp[hq];exact h3⟩
   ·refine .inr ⟨n+1,yU,ks',by rw[g1];congr 2;omega,by simpa using g2,by simpa using g3,g4,fun j k' hj hk'=>?_⟩
    cases j with
    |zero=>simp only[List.getElem?_cons_zero,Option.some.injEq]at hk';subst hk';exact hq
    |succ j=>exact g5 j k' (by omega) (by simpa using hk')
theorem anG {d:TypeDesc} {sh:List Sc} (hd:∀(a b:List D),bD sh a=true→bD sh b=true→Instr.sameNow d (c7 false a) (c7 false b)=some (cw a b)) (kd:List D) (hk:bD sh kd=true):
  ∀(es:List MapEntry) (fV:List (List D)) (i:Nat),au (fun en ks=>en.key=c7 false ks∧bD sh ks=true) es fV→
  ∃r,Instr.findNow d (c7 false kd) es i=some r∧((r=none∧∀ks∈fV,cw kd ks=false)∨∃(n:Nat) (en:MapEntry) (ks:List D),r=some (i+n,en.val)∧es[n]? =some en∧fV[n]? =some ks∧cw kd ks=true∧∀(j:Nat) ks',j<n→fV[j]? =some ks'→cw kd ks'=false)
 | [],[],i,_=>⟨none,rfl,.inl ⟨rfl,by simp⟩⟩
 |en :: es,ks :: fV,i,h=>by
  have he:=hd kd ks hk h.1.2
  have hkey:en.key=c7 false ks:=h.1.1
  simp only[Instr.findNow,hkey,he]
  cases hq:cw kd ks with
  |true=>exact⟨some (i,en.val),rfl,.inr ⟨0,en,ks,rfl,rfl,rfl,hq,by simp⟩⟩
  |false=>
   obtain⟨r,h1,h2⟩:=anG hd kd hk es fV (i+1) h.2
   refine⟨r,h1,?_⟩
   rcases h2 with⟨h2,h3⟩|⟨n,yU,ks',g1,g2,g3,g4,g5⟩
   ·exact .inl ⟨h2,by simp[hq];exact h3⟩
   ·refine .inr ⟨n+1,yU,ks',by rw[g1];congr 2;omega,by simpa using g2,by simpa using g3,g4,fun j k' hj hk'=>?_⟩
    cases j with
    |zero=>simp only[List.getElem?_cons_zero,Option.some.injEq]at hk';subst hk';exact hq
    |succ j=>exact g5 j k' (by omega) (by simpa using hk')
theorem agv {P:Program} (hT:eS P cfg) {kt:TypeId} {ki:TI} (hi:cfg.ti kt=some ki) {sh:List Sc} (hs:pZ cfg kt=some sh):agu P kt sh ki.kind.agg:=by
 have hsc:∀(d:TypeDesc) (k:Sc),P.underlying kt=some d→(∀x y:D,bD [k] [x]=true→bD [k] [y]=true→Instr.sameNow d (eX x) (eX y)=some (gT x y))→(∀(w:World) (x:D) (em:Bool),bD [k] [x]=true→(Instr.checkKey em 10000 kt (eX x)).run P w= .ok () w)→
   agu P kt [k] false:=by
  intro d k hu hs hc
  have one:∀{ds:List D},bD [k] ds=true→∃x,ds=[x]:=by
   intro ds h
   match ds,h with
   | [x],_=>exact⟨x,rfl⟩
   | [],h=>cases k<;>cases h
   |x :: y :: r,h=>have:=(sZ h).2;cases this
  refine⟨fun w ds em h=>?_,fun w kd es fV hk hall=>?_⟩
  ·obtain⟨x,rfl⟩:=one h
   exact hc w x em h
  ·obtain⟨r,h1,h2⟩:=anG (d:=d) (sh:=[k]) (fun x y hx hy=>by
     obtain⟨x,rfl⟩:=one hx
     obtain⟨y,rfl⟩:=one hy
     have:=hs x y hx hy
     simp only[c7,Bool.false_eq_true,if_false,List.headD_cons,cw,Bool.and_true]
     exact this) kd hk es fV 0 hall
   refine⟨r,run_findKey hu h1,?_⟩
   rcases h2 with h2|⟨n,en,ks,g1,g⟩
   ·exact .inl h2
   ·exact .inr ⟨n,en,ks,by rw[g1,Nat.zero_add],g⟩
 unfold pZ at hs
 rw[hi]at hs
 obtain⟨info,d,g1,g2,g3,g4,g5,g6⟩:=oS (hT.T _ _ hi)
 split at hs
 ·rename_i hk
  cases hs
  cases hk
  have hd:=sS g5.symm
  subst hd
  refine hsc _ _ g2 (fun x y hx hy=>?_) (fun w x em hx=>?_)
  ·cases x<;>simp only[bD,Bool.and_eq_true,decide_eq_true_eq,Bool.false_eq_true,and_true]at hx
   cases y<;>simp only[bD,Bool.and_eq_true,decide_eq_true_eq,Bool.false_eq_true,and_true]at hy
   subst hx
   simp[eX,Instr.sameNow,gT,hy]
  ·cases x<;>simp only[bD,Bool.and_eq_true,decide_eq_true_eq,Bool.false_eq_true,and_true]at hx
   rw[show(10000:Nat)=9999+1 from rfl]
   unfold Instr.checkKey
   simp[run_underlying g2,eX]
 ·rename_i hk
  cases hs
  cases hk
  have hd:=oT g5.symm
  subst hd
  refine hsc _ _ g2 (fun x y hx hy=>?_) (fun w x em hx=>?_)
  ·cases x<;>simp only[bD,Bool.false_eq_true]at hx
   cases y<;>simp only[bD,Bool.false_eq_true]at hy
   rename_i l m
   simp only[eX,Instr.sameNow,gT,Option.some.injEq]
   rw[Bool.eq_iff_iff,bytes_beq]
   simp
  ·cases x<;>simp only[bD,Bool.false_eq_true]at hx
   rw[show(10000:Nat)=9999+1 from rfl]
   unfold Instr.checkKey
   simp[run_underlying g2,eX]
 ·rename_i hk
  cases hs
  cases hk
  have hd:=agp g5.symm
  subst hd
  refine hsc _ _ g2 (fun x y hx hy=>?_) (fun w x em hx=>?_)
  ·cases x<;>simp only[bD,Bool.false_eq_true]at hx
   cases y<;>simp only[bD,Bool.false_eq_true]at hy
   simp[eX,Instr.sameNow,gT]
  ·cases x<;>simp only[bD,Bool.false_eq_true]at hx
   rw[show(10000:Nat)=9999+1 from rfl]
   unfold Instr.checkKey
   simp[run_underlying g2,eX]
 ·rename_i fs _ _ _ hk
  cases hk
  have hE:=hT.E _ _ hs
  refine⟨fun w ds em h=>hE.check w ds em h,fun w kd es fV hk hall=>?_⟩
  have hwide:(match P.underlying kt with|some (.array _ _)|some (.struct _)=>true|_=>false)=true:=by
   obtain⟨fs,h⟩:=hE.struct
   rw[h]
  rw[run_findKey_eq w hwide]
  obtain⟨r,h1,h2⟩:=anF (w:=w) hE kd hk es fV 0 hall
  refine⟨r,h1,?_⟩
  rcases h2 with h2|⟨n,en,ks,g1,g⟩
  ·exact .inl h2
  ·exact .inr ⟨n,en,ks,by rw[g1,Nat.zero_add],g⟩
 ·cases hs
theorem agw:∀{ds:List D} {vs:List Value},gy w Z ds vs↔DL w Z vs ds
 | [],[]=>Iff.rfl
 |d :: ds,v :: vs=>and_congr Iff.rfl agw
 | [],_ :: _=>Iff.rfl
 |_ :: _,[]=>Iff.rfl
theorem awH {agg:Bool} {n:Nat} {v:Value} (h:fC agg n v):v.cells.toList.length=n:=by
 unfold fC at h
 split at h
 ·obtain⟨cs,rfl,rfl⟩:=h;rfl
 ·rw[jo h.1,h.2];rfl
theorem mI:∀{xs:List (List D)} {es:List MapEntry},dP w Z xs es→xs.length=es.length
 | [],[],_=>rfl
 |_ :: _,_ :: _,h=>by simp[mI h.2]
theorem oY:∀{xs:List (List D)} {es:List MapEntry} {i:Nat} {en:MapEntry},dP w Z xs es→es[i]? =some en→∃x,xs[i]? =some x∧gy w Z x (lA en)
 |x :: xs,en :: es,0,yU,h,he=>by
  simp only[List.getElem?_cons_zero,Option.some.injEq]at he
  subst he
  exact⟨x,rfl,h.1⟩
 |x :: xs,en :: es,i+1,yU,h,he=>by
  obtain⟨y,h1,h2⟩:=oY (i:=i) h.2 (by simpa using he)
  exact⟨y,by simpa using h1,h2⟩
 | [],[],_,_,_,he=>by simp at he
theorem acU:∀{xs:List (List D)} {es:List MapEntry},xs.length=es.length→(∀(i:Nat) x en,xs[i]? =some x→es[i]? =some en→gy w Z x (lA en))→dP w Z xs es
 | [],[],_,_=>trivial
 |x :: xs,en :: es,hl,h=>⟨h 0 x en rfl rfl,acU (by simpa using hl) fun i y e hy he=>h (i+1) y e (by simpa using hy) (by simpa using he)⟩
 | [],_ :: _,hl,_=>by simp at hl
 |_ :: _,[],hl,_=>by simp at hl
theorem yV {agg:Bool} {n:Nat} {en:MapEntry} {x:List D} (hk:fC agg n en.key) (h:gy w Z x (lA en)):DL w Z en.key.cells.toList (x.take n)∧DL w Z en.val.cells.toList (x.drop n):=by
 have h1:=agw.1 h
 unfold lA at h1
 have hl:=awH hk
 have hx:x.length=(en.key.cells.toList++en.val.cells.toList).length:=h1.length.symm
 rw[←List.take_append_drop n x]at h1
 exact au.split (by rw[hl,List.length_take,hx,List.length_append,hl];omega) h1
theorem acV {agg:Bool} {n:Nat} {sh:List Sc} {v:Value} {ds:List D} (hs:fC agg n v) (hd:DL w Z v.cells.toList ds) (hf:bD sh ds=true):v=c7 agg ds:=by
 have hu:=yR hf hd
 unfold fC at hs
 split at hs
 ·obtain⟨cs,rfl,_⟩:=hs
  simp only[c7,if_true,oW]
  congr 1
  apply Array.toList_inj.1
  exact hu
 ·obtain⟨h1,rfl⟩:=hs
  rw[jo h1]at hu
  match ds,hu with
  | [d],hu=>
    simp only[List.map_cons,List.map_nil,List.cons.injEq,and_true]at hu
    simpa[c7]using hu
theorem acW {agg:Bool} {n:Nat} {sh:List Sc} {ds:List D} (hf:bD sh ds=true) (hn:ds.length=n) (h1:agg=false→n=1):fC agg n (c7 agg ds):=by
 cases agg with
 |true=>exact⟨_,rfl,by simpa using hn⟩
 |false=>
  have:=h1 rfl
  subst this
  match ds,hn with
  | [d],_=>
    refine⟨?_,rfl⟩
    match sh with
    | []=>cases hf
    |k :: sh=>cases k<;>cases d<;>first|rfl|(simp[bD]at hf)
theorem anH:∀{sh:List Sc} {xs ys:List D},bD sh xs=true→bD sh ys=true→xs.map eX=ys.map eX→xs=ys
 | [],[],[],_,_,_=>rfl
 |k :: sh,x :: xs,y :: ys,h1,h2,h=>by
  obtain⟨a1,a2⟩:=sZ h1
  obtain⟨b1,b2⟩:=sZ h2
  simp only[List.map_cons,List.cons.injEq]at h
  rw[anH a2 b2 h.2]
  congr 1
  have h:=h.1
  cases k<;>cases x<;>simp only[bD,Bool.and_eq_true,decide_eq_true_eq,Bool.false_eq_true,and_true]at a1<;>
   cases y<;>simp only[bD,Bool.and_eq_true,decide_eq_true_eq,Bool.false_eq_true,and_true]at b1<;>simp_all [eX]
 | [],_ :: _,_,h,_,_=>by cases h
 | [],[],_ :: _,_,h,_=>by cases h
 |k :: _,[],_,h,_,_=>by cases k<;>cases h
 |k :: _,_ :: _,[],_,h,_=>by cases k<;>cases h
def anI (agg:Bool) (sh:List Sc) (en:MapEntry) (ks:List D):Prop:=en.key=c7 agg ks∧bD sh ks=true∧en.key.cells.toList=ks.map eX
theorem anJ {e:Nat} {sh:List Sc} {n:Nat} (hn:pU e=n):∀{xs:List (List D)} {es:List MapEntry},dP w Z xs es→(∀en∈es,mo e en)→jI sh n xs=true→
  au (anI (sx e) sh) es (xs.map fun x=>x.take n)
 | [],[],_,_,_=>trivial
 |x :: xs,en :: es,h,ho,hf=>by
  simp only[jI,List.all_cons,Bool.and_eq_true]at hf
  have hk:=(ho en (List.mem_cons_self ..)).1
  rw[hn]at hk
  have hp:=(yV hk h.1).1
  exact⟨⟨acV hk hp hf.1,hf.1,yR hf.1 hp⟩,anJ hn h.2 (fun en he=>ho en (List.mem_cons_of_mem _ he)) hf.2⟩
theorem au.perm {α β:Type} {R:α→β→Prop} {as as':List α} (hp:as.Perm as'):∀{bs:List β},au R as bs→∃bs',bs.Perm bs'∧au R as' bs':=by
 induction hp with
 |nil=>intro bs h;cases bs with|nil=>exact⟨[],.refl _,trivial⟩|cons _ _=>exact h.elim
 |cons x _ ih=>
  intro bs h
  cases bs with
  |nil=>exact h.elim
  |cons b bs=>
   obtain⟨bs',h1,h2⟩:=ih h.2
   exact⟨b :: bs',h1.cons b,h.1,h2⟩
 |swap x y l=>
  intro bs h
  cases bs with
  |nil=>exact h.elim
  |cons b bs=>
   cases bs with
   |nil=>exact h.2.elim
   |cons c bs=>exact⟨c :: b :: bs,.swap ..,h.2.1,h.1,h.2.2⟩
 |trans _ _ ih1 ih2=>
  intro bs h
  obtain⟨b1,h1,h2⟩:=ih1 h
  obtain⟨b2,h3,h4⟩:=ih2 h2
  exact⟨b2,h1.trans h3,h4⟩
theorem au.agx {α β:Type} {R:α→β→Prop}:∀{as:List α} {bs:List β} {j:Nat} {a:α},au R as bs→as[j]? =some a→∃b,bs[j]? =some b∧R a b
 | [],[],_,_,_,h=>by simp at h
 |x :: as,y :: bs,0,a,h,hj=>by simp only[List.getElem?_cons_zero,Option.some.injEq]at hj;subst hj;exact⟨y,rfl,h.1⟩
 |x :: as,y :: bs,j+1,a,h,hj=>by
  obtain⟨b,h1,h2⟩:=au.agx (j:=j) h.2 (by simpa using hj)
  exact⟨b,by simpa using h1,h2⟩
theorem acX {es:List MapEntry} (h:es.Pairwise fun a b=>a.key≠b.key) {i j:Nat} {a b:MapEntry} (hi:es[i]? =some a) (hj:es[j]? =some b) (hk:a.key=b.key):i=j:=by
 have hp:=List.pairwise_iff_getElem.1 h
 obtain⟨h1,rfl⟩:=List.getElem?_eq_some_iff.1 hi
 obtain⟨h2,rfl⟩:=List.getElem?_eq_some_iff.1 hj
 rcases Nat.lt_trichotomy i j with h|h|h
 ·exact absurd hk (hp i j h1 h2 h)
 ·exact h
 ·exact absurd hk.symm (hp j i h2 h1 h)
theorem agy (n:Nat) (kd:List D):∀(xs:List (List D)),
  (ep n kd xs=none∧∀ks∈xs.map (fun x=>x.take n),cw kd ks=false)∨∃(i:Nat) (ks:List D),ep n kd xs=some i∧(xs.map fun x=>x.take n)[i]? =some ks∧cw kd ks=true∧∀(j:Nat) ks',j<i→(xs.map fun x=>x.take n)[j]? =some ks'→cw kd ks'=false
 | []=>.inl ⟨rfl,by simp⟩
 |x :: xs=>by
  simp only[ep,List.map_cons]
  cases hq:cw kd (x.take n)with
  |true=>exact .inr ⟨0,x.take n,by simp,rfl,hq,by simp⟩
  |false=>
   simp only[Bool.false_eq_true,if_false]
   rcases agy n kd xs with⟨h1,h2⟩|⟨i,ks,h1,h2,h3,h4⟩
   ·exact .inl ⟨by rw[h1];rfl,by simpa[hq]using h2⟩
   ·refine .inr ⟨i+1,ks,by rw[h1];rfl,by simpa using h2,h3,fun j k' hj hk'=>?_⟩
    cases j with
    |zero=>simp only[List.getElem?_cons_zero,Option.some.injEq]at hk';subst hk';exact hq
    |succ j=>exact h4 j k' (by omega) (by simpa using hk')
theorem agz {P:Program} {kt:TypeId} {ki ei:TI} {sh:List Sc} (hK:agu P kt sh ki.kind.agg) (h1:ki.size<32768) (h2:ei.size<32768) {xs:List (List D)} {es es':List MapEntry} {aT:Nat} (hr:dP w Z xs es') (hp:es'.Perm es) (ho:ic (cg ki ei) aT es)
  (hf:jI sh ki.size xs=true) {kd:List D} (jt:bD sh kd=true) (gB:ki.kind.agg=false→kd.length=1):
  (ep ki.size kd xs=none∧(Instr.findKey kt (c7 ki.kind.agg kd) es).run P w= .ok none w∧∀en∈es,en.key≠c7 ki.kind.agg kd)∨
    ∃i m x en,ep ki.size kd xs=some m∧(Instr.findKey kt (c7 ki.kind.agg kd) es).run P w= .ok (some (i,en.val)) w∧xs[m]? =some x∧es'[m]? =some en∧es[i]? =some en∧kd=x.take ki.size∧en.key=c7 ki.kind.agg kd:=by
 have hks:=anJ (anB h1 h2) hr (fun en he=>ho.ok en (hp.mem_iff.1 he)) hf
 rw[anC h2]at hks
 obtain⟨ks',yW,agA⟩:=au.perm hp hks
 have hcell:(c7 ki.kind.agg kd).cells.toList=kd.map eX:=by
  cases hag:ki.kind.agg with
  |true=>simp[c7,oW,Value.cells]
  |false=>
   match kd,gB hag with
   | [d],_=>
     have h2:=acW (agg:=false) (n:=1) jt rfl (fun _=>rfl)
     rw[jo h2.1]
     simp[c7]
 have anK:∀en ks,anI ki.kind.agg sh en ks→en.key=c7 ki.kind.agg kd→ks=kd:=by
  intro en ks ⟨_,g2,g3⟩ h
  exact anH g2 jt (by rw[←g3,h,hcell])
 obtain⟨r,g1,g2⟩:=hK.find w kd es ks' jt (au.mono (fun _ _ h=>⟨h.1,h.2.1⟩) agA)
 rcases g2 with⟨rfl,f⟩|⟨i,en,ks,rfl,f2,f3,f4,_⟩
 ·refine .inl ⟨?_,g1,fun en he hkey=>?_⟩
  ·rcases agy ki.size kd xs with⟨q1,_⟩|⟨i,ks,q1,q2,q3,_⟩
   ·exact q1
   ·rw[f ks (yW.mem_iff.1 (List.mem_of_getElem? q2))]at q3;cases q3
  ·obtain⟨i,hi⟩:=List.mem_iff_getElem?.1 he
   obtain⟨ks,k1,k2⟩:=au.agx agA hi
   have:=anK en ks k2 hkey
   subst this
   have:=f ks (List.mem_of_getElem? k1)
   rw[(yT jt jt).2 rfl]at this
   cases this
 ·refine .inr ?_
  obtain⟨en2,k1,k2⟩:=agA.get f3
  rw[f2]at k1
  cases k1
  have e1:kd=ks:=(yT jt k2.2.1).1 f4
  have hkey:en.key=c7 ki.kind.agg kd:=by rw[k2.1,←e1]
  obtain⟨m0,hm0⟩:=List.mem_iff_getElem?.1 (hp.mem_iff.2 (List.mem_of_getElem? f2))
  obtain⟨ks0,p1,p2⟩:=au.agx hks hm0
  have e2:=anK en ks0 p2 hkey
  subst e2
  rcases agy ki.size ks0 xs with⟨_,q2⟩|⟨m,ks1,q1,q2,q3,_⟩
  ·have:=q2 ks0 (List.mem_of_getElem? p1)
   rw[(yT jt jt).2 rfl]at this
   cases this
  ·obtain⟨en3,p3,p4⟩:=hks.get q2
   have e3:ks0=ks1:=(yT jt p4.2.1).1 q3
   subst e3
   have hnd:es'.Pairwise fun a b=>a.key≠b.key:=(hp.pairwise_iff (fun h=>Ne.symm h)).2 ho.nd
   have em:m0=m:=acX hnd hm0 p3 (by rw[hkey,p4.1])
   subst em
   rw[List.getElem?_map]at q2
   cases hx:xs[m0]? with
   |none=>rw[hx]at q2;cases q2
   |some x=>
    rw[hx]at q2
    simp only[Option.map_some,Option.some.injEq]at q2
    exact⟨i,m0,x,en,q1,g1,hx,hm0,f2,q2.symm,hkey⟩
theorem anL (h:Rel K β ω Z s a w) {e:Nat} (kz:∀e',(e'=e∨e'=gw e)→aW e'=true∧dL e'=false∧oE e'=e) {c:C} {u:Value} {xs:List (List D)} {s':St} (bu:ax K β Z s a w c u) (hx:(oJ e c).exec s=some (xs,s')):
  s'=s∧((u= .map none∧xs=[])∨∃b,u= .map (some b)∧∃(es:Array MapEntry) (aT:Nat) (es':List MapEntry),w.heap[b]? =some (.map es aT)∧ic e aT es.toList∧dP w Z xs es'∧es'.Perm es.toList):=by
 have hof:∀{e' b xs},(e'=e∨e'=gw e)→cH w Z e' xs b→∃(es:Array MapEntry) (aT:Nat) (es':List MapEntry),w.heap[b]? =some (.map es aT)∧ic e aT es.toList∧dP w Z xs es'∧es'.Perm es.toList:=by
  intro e' b xs hee g
  obtain⟨es,aT,es',g1,g2,g3,g4,_⟩:=(cH.mu (kz e' hee).2.1).1 g
  rw[(kz e' hee).2.2]at g2
  exact⟨es,aT,es',g1,g2,g3,g4⟩
 unfold oJ at hx
 split at hx
 ·obtain⟨rfl,rfl⟩:=aE hx
  exact⟨rfl,.inl ⟨bu,rfl⟩⟩
 ·obtain⟨_,s1,h1,hx2⟩:=av hx
  obtain⟨hee,hs1⟩:=bS h1
  subst hs1
  obtain⟨he,hi,_⟩:=kz _ hee
  obtain⟨rfl,rfl⟩:=aE hx2
  obtain⟨b,g1,_,g2⟩:=(bL.kf he).1 bu
  exact⟨rfl,.inr ⟨b,by rw[g1,lz hi],hof hee g2⟩⟩
 ·rename_i r j hv cv e' k ys
  simp only[Prog.exec]at hx
  obtain⟨_,s1,h1,hx2⟩:=av hx
  obtain⟨⟨dj,hee⟩,hs1⟩:=bS h1
  subst hs1
  obtain⟨he,hi,_⟩:=kz _ hee
  obtain⟨b,g1,_,_,g4⟩:=(ax.mA he).1 bu
  split at hx2
  ·rename_i e2 zs bB
   obtain⟨hz,hs2⟩:=aE hx2
   subst hz;subst hs2
   obtain⟨f1,ys',f2,_⟩:=g4 dj (by rw[bB];simp)
   rw[bB]at f2
   rcases f2 with f2|f2<;>cases f2
   obtain⟨b2,e1,e2⟩:=h.acB he bB
   rw[f1,Option.some.injEq]at e1
   rw[sI e1.symm]at e2
   exact⟨rfl,.inr ⟨b,by rw[g1,lz hi],hof hee e2⟩⟩
  ·rename_i e2 zs bB
   obtain⟨hz,hs2⟩:=aE hx2
   subst hz;subst hs2
   obtain⟨f1,ys',f2,_⟩:=g4 dj (by rw[bB];simp)
   rw[bB]at f2
   rcases f2 with f2|f2<;>cases f2
   obtain⟨u2,e1,iu⟩:=h.cell (fJ bB (by simp))
   obtain⟨b2,e3,_,e4⟩:=(bL.kf he).1 iu
   rw[f1]at e1
   cases e1
   rw[sI e3.symm]at e4
   exact⟨rfl,.inr ⟨b,by rw[g1,lz hi],hof hee e4⟩⟩
  ·simp[Prog.exec]at hx2
 ·simp[Prog.exec]at hx
theorem agC {kv:SV} {u:Value} {kd:List D} {sh:List Sc} {agg:Bool} (hv:aY (ax K β Z s a w) u kv) (hk:kv.key=some kd) (hf:bD sh kd=true) (ha:kv.isAgg=agg):u=c7 agg kd∧(agg=false→kd.length=1):=by
 unfold SV.key at hk
 split at hk
 ·rename_i cs hcs
  cases kv with
  |one c=>
   simp only[SV.dM,Option.some.injEq]at hcs
   subst hcs
   subst ha
   cases c<;>simp[fH]at hk
   rename_i x
   subst hk
   have hd:DL w Z u.cells.toList [x]:=by rw[jo hv.1];exact⟨hv.2,trivial⟩
   exact⟨acV (n:=1) ⟨hv.1,rfl⟩ hd hf,fun _=>rfl⟩
  |agg ds=>
   simp only[SV.dM,Option.some.injEq]at hcs
   subst hcs
   subst ha
   obtain⟨ws,rfl,hall⟩:=hv
   refine⟨acV (n:=ws.size) ⟨ws,rfl,rfl⟩ (?_:DL w Z ws.toList kd) hf,fun h=>by cases h⟩
   have:∀{cs:List C} {us:List Value} {ds:List D},fH cs=some ds→au (fun u c=>ax K β Z s a w c u) us cs→DL w Z us ds:=by
    intro cs
    induction cs with
    |nil=>intro us ds h hall;simp[fH]at h;subst h;cases us with|nil=>trivial|cons _ _=>exact hall.elim
    |cons c cs ih=>
     intro us ds h hall
     cases us with
     |nil=>exact hall.elim
     |cons u us=>
      cases c with
      |d x=>
       simp only[fH]at h
       split at h
       ·rename_i ds' h1
        cases h
        exact⟨hall.1,ih h1 hall.2⟩
       ·cases h
      |_=>simp[fH]at h
   exact this hk hall
  |aJ x=>simp[SV.dM]at hcs
  |undef=>simp[SV.dM]at hcs
 ·cases hk
theorem acZ {b:Nat} {o o':Obj} (hb:w.heap[b]? =some o):Chg w { w with heap:=w.heap.setIfInBounds b o' } b∧({ w with heap:=w.heap.setIfInBounds b o' }:World).heap[b]? =some o':=by
 have hlt:b<w.heap.size:=(Array.getElem?_eq_some_iff.1 hb).1
 exact⟨⟨rfl,rfl,rfl,by simp,fun c hc=>by simp[Ne.symm hc]⟩,by simp[hlt]⟩
theorem ac0 {agg:Bool} {n:Nat} {v:Value} {ds:List D} (hs:fC agg n v) (hd:DL w Z v.cells.toList ds):cL (ax K β Z s a w) v (agg,ds.map .d):=by
 unfold fC at hs
 unfold cL
 cases agg with
 |true=>obtain⟨cs,rfl,_⟩:=hs;exact⟨cs,rfl,DL.map hd⟩
 |false=>
  obtain⟨h1,rfl⟩:=hs
  rw[jo h1]at hd
  match ds,hd with
  | [d],hd=>exact⟨.d d,rfl,h1,hd.1⟩
theorem awJ {agg:Bool} {n:Nat} {v:Value} {ds:List D} {x:SV} {s1 s2:St} (hs:fC agg n v) (hd:DL w Z v.cells.toList ds) (he:(yx agg ds).exec s1=some (x,s2)):s2=s1∧aY (ax K β Z s a w) v x∧(∀c∈x.cells,bQ c):=by
 unfold fC at hs
 unfold yx at he
 cases agg with
 |true=>
  obtain⟨rfl,rfl⟩:=aE he
  obtain⟨cs,rfl,_⟩:=hs
  exact⟨rfl,⟨cs,rfl,DL.map hd⟩,by simp[SV.cells,bQ]⟩
 |false=>
  obtain⟨h1,rfl⟩:=hs
  rw[jo h1]at hd
  match ds,hd,he with
  | [d],hd,he=>
    obtain⟨rfl,rfl⟩:=aE he
    exact⟨rfl,⟨h1,hd.1⟩,by simp[SV.cells,bQ]⟩
theorem anM (w0:World) {agg:Bool} {n:Nat} {z:List D} {v:Value} (hv:iU v.cells.toList=some z) (ha:ach v=agg) (hl:z.length=n):fC agg n v:=by
 have iC:DL w0 (fun _=>True) v.cells.toList z:=mG hv
 have hlen:=iC.length
 cases v with
 |agg cs=>subst ha;exact⟨cs,rfl,by simp only[Value.cells]at hlen;simp at hlen;omega⟩
 |_=>
  subst ha
  simp only[Value.cells]at hv hlen
  simp only[ach]
  refine⟨?_,by simp at hlen;omega⟩
  first
  |rfl
  |(simp[iU,reflect]at hv)
theorem anN {u:Value} {v:SV} {cs:List C} {n:Nat} (hv:aY (ax K β Z s a w) u v) (hc:v.dM=some cs) (hn:cs.length=n):fC v.isAgg n u:=by
 cases v with
 |one c=>
  simp only[SV.dM,Option.some.injEq]at hc
  subst hc
  exact⟨hv.1,by simpa using hn.symm⟩
 |agg ds=>
  simp only[SV.dM,Option.some.injEq]at hc
  subst hc
  obtain⟨ws,rfl,h⟩:=hv
  exact⟨ws,rfl,by have:=h.length;simp at this;omega⟩
 |aJ x=>simp[SV.dM]at hc
 |undef=>simp[SV.dM]at hc
theorem qy {α:Type} {l:List α} {i:Nat} {x d:α} (h:l[i]? =some x):l.getD i d=x:=by
 rw[List.getD_eq_getElem?_getD,h];rfl
theorem anO {es:List MapEntry} {i:Nat} {en:MapEntry} (h:es.Pairwise fun a b=>a.key≠b.key) (hi:i<es.length) (hkk:∀x,es[i]? =some x→en.key=x.key):(es.set i en).Pairwise fun a b=>a.key≠b.key:=by
 have key:(es.set i en).map (·.key)=es.map (·.key):=by
  apply List.ext_getElem?
  intro n
  rw[List.getElem?_map,List.getElem?_map,List.getElem?_set]
  split
  ·rename_i hin
   subst hin
   rw[List.getElem?_eq_getElem hi]
   simp[hi,hkk _ (List.getElem?_eq_getElem hi)]
  ·rfl
 have h2:(es.map (·.key)).Pairwise fun a b=>a≠b:=List.pairwise_map.2 h
 rw[←key]at h2
 exact List.pairwise_map.1 h2
theorem awK {e aT:Nat} {xs:List (List D)} {es:List MapEntry} {i:Nat} {en:MapEntry} {y:List D} (ho:ic e aT es) (hr:dP w Z xs es) (hi:i<es.length) (jO:mo e en) (hb:en.born=i) (hkk:∀x,es[i]? =some x→en.key=x.key) (hc:gy w Z y (lA en)):
  ic e aT (es.set i en)∧dP w Z (xs.set i y) (es.set i en):=by
 refine⟨⟨fun x hx=>?_,fun j x hx=>?_,by rw[List.length_set];exact ho.aT,anO ho.nd hi hkk⟩,acU (by simp[mI hr]) fun j x e' hx he'=>?_⟩
 ·rcases List.mem_or_eq_of_mem_set hx with hx|rfl
  ·exact ho.ok x hx
  ·exact jO
 ·rw[List.getElem?_set]at hx
  split at hx
  ·rename_i hij
   subst hij
   simp only[hi,if_true,Option.some.injEq]at hx
   subst hx
   exact hb
  ·exact ho.born j x hx
 ·rw[List.getElem?_set]at hx he'
  split at hx
  ·rename_i hij
   subst hij
   rw[if_pos rfl]at he'
   split at hx
   ·rw[if_pos hi]at he'
    cases hx;cases he';exact hc
   ·cases hx
  ·rename_i hij
   rw[if_neg hij]at he'
   obtain⟨x',h1,h2⟩:=oY hr he'
   rw[hx]at h1
   cases h1
   exact h2
theorem awL {e aT:Nat} {xs:List (List D)} {es:List MapEntry} {en:MapEntry} {y:List D} (ho:ic e aT es) (hr:dP w Z xs es) (jO:mo e en) (hb:en.born=aT) (hnew:∀x∈es,x.key≠en.key) (hc:gy w Z y (lA en)):
  ic e (aT+1) (es++[en])∧dP w Z (xs++[y]) (es++[en]):=by
 have hl:=mI hr
 refine⟨⟨fun x hx=>?_,fun j x hx=>?_,by rw[List.length_append,ho.aT];rfl,List.pairwise_append.2 ⟨ho.nd,List.pairwise_singleton ..,fun x hx y hy=>by rw[List.mem_singleton.1 hy];exact hnew x hx⟩⟩,acU (by simp[hl]) fun j x e' hx he'=>?_⟩
 ·rcases List.mem_append.1 hx with hx|hx
  ·exact ho.ok x hx
  ·simp only[List.mem_singleton]at hx;subst hx;exact jO
 ·rw[List.getElem?_append]at hx
  split at hx
  ·exact ho.born j x hx
  ·rename_i hj
   have hj0:j - es.length=0:=by
    have:=(List.getElem?_eq_some_iff.1 hx).1
    simp at this;omega
   rw[hj0]at hx
   simp only[List.getElem?_cons_zero,Option.some.injEq]at hx
   subst hx
   rw[hb,ho.aT];omega
 ·rw[List.getElem?_append]at hx he'
  split at hx
  ·rw[if_pos (by omega)]at he'
   obtain⟨x',h1,h2⟩:=oY hr he'
   rw[hx]at h1
   cases h1
   exact h2
  ·rw[if_neg (by omega)]at he'
   have hj0:j - xs.length=0:=by
    have:=(List.getElem?_eq_some_iff.1 hx).1
    simp at this;omega
   rw[hj0]at hx
   rw[show j - es.length=0 by omega]at he'
   simp only[List.getElem?_cons_zero,Option.some.injEq]at hx he'
   subst hx;subst he'
   exact hc
theorem anP {w':World} {xs:List (List D)} {es:List MapEntry} (hZ:∀b,Z b→w'.heap[b]? =w.heap[b]? ∧Z b) (h:dP w Z xs es):dP w' Z xs es:=dP.mono hZ xs es h
theorem DL.mono' {w':World} {Z':Nat→Prop} (hZ:∀b,Z b→w'.heap[b]? =w.heap[b]? ∧Z' b) {us:List Value} {ds:List D} (h:DL w Z us ds):DL w' Z' us ds:=au.mono (fun _ _ hr=>bL.mono hZ _ _ hr) h
theorem agD {us vs:List Value} {kd vd:List D} (h1:DL w Z us kd) (h2:DL w Z vs vd) {en:MapEntry} (hk:en.key.cells.toList=us) (hv:en.val.cells.toList=vs):gy w Z (kd++vd) (lA en):=by
 rw[agw,lA,hk,hv]
 exact au.append h1 h2
theorem anQ {agg:Bool} {sh:List Sc} {kd:List D} (hf:bD sh kd=true) (h1:agg=false→kd.length=1):DL w Z (c7 agg kd).cells.toList kd:=by
 cases agg with
 |true=>exact(qt hf:DL w Z (kd.map eX) kd)
 |false=>
  match kd,h1 rfl with
  | [d],_=>
    have h2:=acW (agg:=false) (n:=1) hf rfl (fun _=>rfl)
    rw[jo h2.1]
    exact(qt hf:DL w Z [eX d] [d])
theorem anR {d:D} {k:Sc} (h:bD [k] [d]=true) (n:Nat):Instr.sameBits n (eX d) (eX d)=true:=by
 cases k<;>cases d<;>simp[bD]at h<;>simp[eX,Instr.sameBits,bytes_beq]
theorem anS:∀{sh:List Sc} {ds:List D} (n:Nat),bD sh ds=true→(((ds.map eX).zip (ds.map eX)).all fun(x,y)=>Instr.sameBits n x y)=true
 | [],[],_,_=>rfl
 |k :: sh,d :: ds,n,h=>by
  obtain⟨h1,h2⟩:=sZ h
  simp only[List.map_cons,List.zip_cons_cons,List.all_cons,Bool.and_eq_true]
  exact⟨anR h1 n,anS n h2⟩
 | [],_ :: _,_,h=>by cases h
 |k :: _,[],_,h=>by cases k<;>cases h
theorem anT {agg:Bool} {sh:List Sc} {kd:List D} (hf:bD sh kd=true) (h1:agg=false→kd.length=1):Instr.sameBits 10000 (c7 agg kd) (c7 agg kd)=true:=by
 cases agg with
 |true=>
  rw[show(10000:Nat)=9999+1 from rfl]
  simp only[c7,if_true,oW,Instr.sameBits,Bool.and_eq_true]
  exact⟨by simp,by simpa using anS 9999 hf⟩
 |false=>
  match kd,h1 rfl with
  | [d],_=>
    match sh with
    | []=>cases hf
    |k :: sh=>exact anR (sZ hf).1 10000
theorem oZ {P:Program} {b aT:Nat} {es:Array MapEntry} (hb:w.heap[b]? =some (.map es aT)):(getObj b).run P w= .ok (.map es aT) w:=Go.MapKept.run_getObj_map hb
theorem yX {P:Program} {b aT:Nat} {es:Array MapEntry} {o:Obj} (hb:w.heap[b]? =some (.map es aT)):(setObj b o).run P w= .ok () { w with heap:=w.heap.setIfInBounds b o }:=Go.MapKept.run_setObj_map o hb
section
variable (hT:eS K.P cfg)
include hT
theorem awM (h:Rel K β ω Z s a w) {t:TypeId} {dst:Nat} {o:Oper} (ho:o.op= .makeMap t none) {v:SV} {s':St} (he:(bp cfg o.op dst).exec s=some (v,s')):
  bR K s' a dst ((execOp a.eval o).run K.P w) v:=by
 rw[ho]at he
 simp only[bp,yB]at he
 split at he
 ·rename_i kt ki ei hm
  obtain⟨_,_,_,_,aM,cz⟩:=sY hT hm
  obtain⟨hv,hs⟩:=aE he
  subst hs
  rw[hv]
  have kz:anD ki ei (vp (cfg.un.contains dst) (cg ki ei)):=qx aM cz (by cases cfg.un.contains dst;exact .inl rfl;exact .inr rfl)
  have hi:=kz.it
  clear hv he
  generalize (vp (cfg.un.contains dst) (cg ki ei))=ec at *
  obtain⟨r1,k1,f1,g1⟩:=h.newObj (.map #[] 0) (.tmp dst,some 0)
  have hM:cH (w.alloc (.map #[] 0)) Z ec [] w.heap.size:=(cH.mu kz.it).2 ⟨#[],0,[],g1,⟨by simp,by simp,rfl,.nil⟩,trivial,.refl _,fun _=>rfl⟩
  have bu:∀(s:St),ax K β Z s a (w.alloc (.map #[] 0)) (.own ec []) (.map (some w.heap.size)):=fun s=>(ax.jL kz.mp).2 ⟨_,(lz hi _).symm,hM⟩
  refine⟨.map (some w.heap.size),w.alloc (.map #[] 0),β,_,Z,?_,r1,⟨rfl,bu _⟩,?_⟩
  ·simp[execOp,ho,Instr.makeMap]
  ·intro j c x hc hx
   have hj:j=0:=by
    simp only[SV.cells]at hc
    cases j with
    |zero=>rfl
    |succ j=>simp at hc
   subst hj
   simp only[SV.cells,List.getElem?_cons_zero,Option.some.injEq]at hc
   simp only[flat,List.getElem?_cons_zero,Option.some.injEq]at hx
   subst hc;subst hx
   refine⟨bu _,fun e' xs b q1 q2=>?_⟩
   cases q1
   simp only[cP,Option.some.injEq]at q2
   subst q2
   exact⟨by simp,⟨#[],0,g1⟩,f1⟩
 ·simp[Prog.exec]at he
theorem awN (h:Rel K β ω Z s a w) {t:TypeId} {x ix:Operand} {ok:Bool} {dst:Nat} {o:Oper} (ho:o.op= .lookup t x ix ok) {v:SV} {s':St} (he:(bp cfg o.op dst).exec s=some (v,s')):
  bR K s' a dst ((execOp a.eval o).run K.P w) v:=by
 rw[ho]at he
 simp only[bp]at he
 obtain⟨c,s1,h1,ak⟩:=av he
 obtain⟨hs1,o1,r1,iB⟩:=ew h h1
 rw[hs1]at ak
 obtain⟨kv,s2,h2,aH⟩:=av ak
 obtain⟨hs2,hkv,nK,anU⟩:=fm h h2
 rw[hs2]at aH
 unfold yy at aH
 split at aH
 ·rename_i kt ki ei hm
  obtain⟨et,hu,hki,gC,aM,cz⟩:=sY hT hm
  split at aH
  ·rename_i sh kd z hsc jt hz
   obtain⟨_,s3,h3,bz⟩:=av aH
   obtain⟨⟨hfit,vM,hka,hzl,hg⟩,hs3⟩:=bS h3
   rw[hs3]at bz
   obtain⟨xs,s4,h4,cn⟩:=av bz
   obtain⟨dm,hrows⟩:=anL h (fun e' he'=>⟨(qx aM cz he').mp,(qx aM cz he').it,(qx aM cz he').oe⟩) r1 h4
   rw[dm]at cn
   obtain⟨_,s5,h5,dN⟩:=av cn
   obtain⟨yY,gj⟩:=bS h5
   rw[gj]at dN
   have hK:=agv hT hki hsc
   obtain⟨gD,gB⟩:=agC hkv jt hfit hka
   obtain⟨zv,fE,gl,hza⟩:=ago (w:=w) (hT.T _ _ gC) hz
   have iC:DL w Z zv.cells.toList z:=mG gl
   have hzs:fC ei.kind.agg ei.size zv:=anM w gl hza hzl
   have key:∃(vv:Value) (ds:List D),fC ei.kind.agg ei.size vv∧DL w Z vv.cells.toList ds∧ds=jl ki.size xs z (ep ki.size kd xs)∧
     (execOp a.eval o).run K.P w= .ok (.value (if ok then .tuple #[vv,.bool (ep ki.size kd xs).isSome]else vv)) w:=by
    rcases hrows with⟨e1,rfl⟩|⟨b,e1,es,aT,es',g1,g2,g3,gp⟩
    ·refine⟨zv,z,hzs,iC,by simp[ep,jl],?_⟩
     have hfk:(Instr.findKey kt (c7 ki.kind.agg kd) []).run K.P w= .ok none w:=by
      obtain⟨r,q1,q2⟩:=hK.find w kd [] [] hfit trivial
      rcases q2 with⟨rfl,_⟩|⟨i,en,ks,_,q3,_⟩
      ·exact q1
      ·simp at q3
     simp only[execOp,ho,Instr.lookup,e1,gD,Sem.run_bind,run_underlying hu,Result.andThen_ok,Sem.run_pure,Array.isEmpty_empty,hK.check w kd true hfit,hfk,fE,ep,Option.isSome_none]
    ·have hfr:=agz hK aM cz g3 gp g2 yY hfit gB
     have o4:(Instr.checkKey es.isEmpty 10000 kt (c7 ki.kind.agg kd)).run K.P w= .ok () w:=hK.check w kd _ hfit
     rcases hfr with⟨q1,q2,_⟩|⟨i,m,x,en,q1,q2,q3,s9,q4,q5,_⟩
     ·refine⟨zv,z,hzs,iC,by rw[q1];rfl,?_⟩
      simp only[execOp,ho,Instr.lookup,e1,gD,Sem.run_bind,run_underlying hu,Result.andThen_ok,Sem.run_pure,oZ g1,o4,q2,fE,q1,Option.isSome_none]
     ·have jO:=g2.ok en (List.mem_of_getElem? q4)
      obtain⟨x',p1,p2⟩:=oY g3 s9
      rw[q3]at p1
      cases p1
      obtain⟨hk,hv⟩:=(vL aM cz).1 jO
      obtain⟨_,p4⟩:=yV hk p2
      refine⟨en.val,x.drop ki.size,hv,p4,by rw[q1];simp only[jl,qy q3],?_⟩
      rw[q1]
      simp only[execOp,ho,Instr.lookup,e1,gD,Sem.run_bind,run_underlying hu,Result.andThen_ok,Sem.run_pure,oZ g1,o4,q2]
      rfl
   obtain⟨vv,ds,k1,k2,k3,k4⟩:=key
   rw[←k3]at dN
   cases ok with
   |true=>
    obtain⟨hx,gm⟩:=aE dN
    rw[hx,gm]
    refine bR.same h k4 ⟨#[vv,.bool (ep ki.size kd xs).isSome],rfl,ac0 k1 k2,?_,trivial⟩ ?_
    ·exact⟨_,rfl,rfl,rfl⟩
    ·intro c hc
     simp only[SV.cells,List.flatMap_cons,List.flatMap_nil,List.append_nil,List.mem_append,List.mem_map,List.mem_singleton]at hc
     rcases hc with⟨d,_,rfl⟩|rfl<;>simp[bQ]
   |false=>
    obtain⟨gm,p1,p2⟩:=awJ (K:=K) (β:=β) (s:=s) (a:=a) k1 k2 dN
    rw[gm]
    exact bR.same h k4 p1 p2
  ·simp[Prog.exec]at aH
 ·simp[Prog.exec]at aH
theorem awP (h:Rel K β ω Z s a w) {t:TypeId} {c:C} {um uk ux:Value} {kv vv:SV} {y:Unit} {s':St} (hcm:ax K β Z s a w c um) (hkv:aY (ax K β Z s a w) uk kv) (td:aY (ax K β Z s a w) ux vv)
  (hno:∀c∈vv.cells,bQ c) (he:(sD cfg t c kv vv).exec s=some (y,s')):∃w' β' ω' Z',(Instr.mapUpdate t um uk ux).run K.P w= .ok () w'∧Rel K β' ω' Z' s' a w':=by
 unfold sD at he
 split at he
 ·rename_i kt ki ei hm
  obtain⟨et,hu,hki,gC,aM,cz⟩:=sY hT hm
  split at he
  ·rename_i sh kd vc hsc jt mJ
   obtain⟨_,s1,h1,ak⟩:=av he
   obtain⟨⟨hfit,vM,hka,hvl,qz⟩,hs1⟩:=bS h1
   rw[hs1]at ak
   obtain⟨vd,s2,h2,aH⟩:=av ak
   obtain⟨gX,hall⟩:=sU td mJ
   obtain⟨ct,Z1,r1,k1,p1⟩:=acM vc _ ω Z s s2 vd h hall (fun c hc=>hno c (by rw[gX];exact hc)) h2
   have agF:=k1.iq h.dH (fun e xs b h1 h2=>by
    cases c with
    |own=>exfalso;clear ak;simp[Prog.exec]at aH
    |_=>cases h1) hcm
   split at aH
   ·rename_i r j iy cv0 e k0 lF
    simp only[Prog.exec]at aH
    obtain⟨_,s3,h3,bz⟩:=av aH
    obtain⟨⟨dj,dA,hee⟩,hs3⟩:=bS h3
    rw[hs3]at bz
    split at bz
    ·rename_i e' xs bB
     obtain⟨_,s4,h4,cn⟩:=av bz
     obtain⟨yY,dm⟩:=bS h4
     rw[dm]at cn
     simp only[cY,Prog.exec,Option.some.injEq,Prod.mk.injEq]at cn
     obtain⟨_,rfl⟩:=cn
     have kz:=qx aM cz hee
     have hmp:=kz.mp
     have hi:=kz.it
     obtain⟨b,e1,_,_,g4⟩:=(ax.mA hmp).1 agF
     rw[lz hi]at e1
     obtain⟨f1,ys,f2,_⟩:=g4 dj (sQ bB)
     rw[bB]at f2
     rcases f2 with f2|f2<;>cases f2
     obtain⟨b2,q1,g0⟩:=r1.acB hmp bB
     rw[f1,Option.some.injEq]at q1
     rw[sI q1.symm]at g0
     obtain⟨es,aT,es',g1,g2,g3,gp,gu⟩:=(cH.mu hi).1 g0
     rw[kz.oe]at g2
     have hK:=agv hT hki hsc
     obtain⟨gD,gB⟩:=agC hkv jt hfit hka
     have hvs:fC ei.kind.agg ei.size ux:=by rw[←qz];exact anN td mJ hvl
     have hks:fC ki.kind.agg ki.size uk:=by
      rw[gD]
      exact acW hfit vM (fun hf=>by have:=gB hf;omega)
     have jO:∀bn,mo (cg ki ei) { key:=uk,val:=ux,born:=bn }:=fun bn=>by
      exact(vL aM cz).2 ⟨hks,hvs⟩
     have agH:DL w Z1 uk.cells.toList kd:=by rw[gD];exact anQ hfit gB
     have hrow:∀bn,gy w Z1 (kd++vd) (lA { key:=uk,val:=ux,born:=bn }):=fun bn=>agD agH p1 rfl rfl
     have hnz:¬Z1 b:=(r1.cZ _ _ (r1.own r j _ _ _ b dA (fJ bB (by simp)) f1 (jn ..)).1).1
     have fin:∀(tf:Array MapEntry) (clk':Nat) (yZ:List MapEntry),ic (cg ki ei) clk' tf.toList→dP w Z1 (putRow (eF e) ki.size kd vd xs) yZ→yZ.Perm tf.toList→(eF e=false→yZ=tf.toList)→
       ∃w',w'={ w with heap:=w.heap.setIfInBounds b (.map tf clk') }∧Rel K β ct Z1 (s2.set r { (s2 r)with cv:=(s2 r).cv+1,v:=(s2 r).v.setCell j (.own e (putRow (eF e) ki.size kd vd xs)) }) a w':=by
      intro tf clk' yZ hok hrel yW hun
      obtain⟨qA,mD⟩:=acZ (o':=.map tf clk') g1
      refine⟨_,rfl,r1.agf hmp bB dA f1 qA ((cH.mu hi).2 ⟨tf,clk',yZ,mD,by rw[kz.oe];exact hok,?_,yW,hun⟩)⟩
      exact anP (fun b' hb'=>⟨qA.other b' (fun e=>hnz (e ▸ hb')),hb'⟩) hrel
     have hwk:∀{es:List MapEntry} {xs:List (List D)} (en:MapEntry),dP w Z1 xs es→∀row,gy w Z1 row (lA en)→dP w Z1 (xs++[row]) (es++[en]):=by
      intro es
      induction es with
      |nil=>intro xs en h row hr;cases xs with|nil=>exact⟨hr,trivial⟩|cons _ _=>exact h.elim
      |cons y es ih=>intro xs en h row hr;cases xs with|nil=>exact h.elim|cons x xs=>exact⟨h.1,ih en h.2 row hr⟩
     rcases agz hK aM cz g3 gp g2 yY hfit gB with⟨q1,q2,q3⟩|⟨i,m,x,en,q1,q2,q3,s9,q4,q5,q6⟩
     ·have hok:ic (cg ki ei) (aT+1) (es.toList++[{ key:=uk,val:=ux,born:=aT }]):=by
        refine⟨fun x hx=>?_,fun j x hx=>?_,by rw[List.length_append,g2.aT];rfl,List.pairwise_append.2 ⟨g2.nd,List.pairwise_singleton ..,fun x hx y hy=>by rw[List.mem_singleton.1 hy];show x.key≠uk;rw[gD];exact q3 x hx⟩⟩
        ·rcases List.mem_append.1 hx with hx|hx
         ·exact g2.ok x hx
         ·rw[List.mem_singleton.1 hx];exact jO aT
        ·rw[List.getElem?_append]at hx
         split at hx
         ·exact g2.born j x hx
         ·rename_i hj
          have hj0:j - es.toList.length=0:=by
           have:=(List.getElem?_eq_some_iff.1 hx).1
           simp at this;omega
          rw[hj0]at hx
          simp only[List.getElem?_cons_zero,Option.some.injEq]at hx
          subst hx
          show aT=j
          rw[g2.aT];omega
      obtain⟨lG,z1,z2,z3⟩:∃lG:List MapEntry,dP w Z1 (putRow (eF e) ki.size kd vd xs) lG∧lG.Perm (es.toList++[{ key:=uk,val:=ux,born:=aT }])∧(eF e=false→lG=es.toList++[{ key:=uk,val:=ux,born:=aT }]):=by
       cases hun:eF e with
       |false=>exact⟨es'++[{ key:=uk,val:=ux,born:=aT }],by simp only[putRow,yz,q1];exact hwk _ g3 _ (hrow aT),gp.append_right _,fun _=>by rw[gu hun]⟩
       |true=>
        have hin:∀{xs:List (List D)} {es:List MapEntry},dP w Z1 xs es→∃lG:List MapEntry,dP w Z1 (vu ki.size kd (kd++vd) xs) lG∧lG.Perm (es++[{ key:=uk,val:=ux,born:=aT }]):=by
         intro xs
         induction xs with
         |nil=>intro es h;cases es with|nil=>exact⟨[{ key:=uk,val:=ux,born:=aT }],⟨hrow aT,trivial⟩,.refl _⟩|cons _ _=>exact h.elim
         |cons x xs ih=>
          intro es h
          cases es with
          |nil=>exact h.elim
          |cons y es=>
           simp only[vu]
           split
           ·exact⟨{ key:=uk,val:=ux,born:=aT } :: y :: es,⟨hrow aT,h⟩,(List.perm_append_singleton _ _).symm⟩
           ·obtain⟨lG,f1,f2⟩:=ih h.2
            exact⟨y :: lG,⟨h.1,f1⟩,f2.cons y⟩
        obtain⟨lG,f1,f2⟩:=hin g3
        exact⟨lG,by simp only[putRow,acr,q1];exact f1,f2.trans (gp.append_right _),fun h=>by cases h⟩
      obtain⟨w',hw',hR⟩:=fin (es.push { key:=uk,val:=ux,born:=aT }) (aT+1) lG (by rw[Array.toList_push];exact hok) z1 (by rw[Array.toList_push];exact z2) (fun fK=>by rw[Array.toList_push];exact z3 fK)
      refine⟨w',β,ct,Z1,?_,hR⟩
      rw[e1,hw']
      have q2':(Instr.findKey kt uk es.toList).run K.P w= .ok none w:=by rw[gD];exact q2
      have o4:(Instr.checkKey false 10000 kt uk).run K.P w= .ok () w:=by rw[gD];exact hK.check w kd false hfit
      simp only[Instr.mapUpdate,Sem.run_bind,run_underlying hu,Result.andThen_ok,oZ g1,o4,q2',yX g1]
     ·have hil:i<es.toList.length:=(List.getElem?_eq_some_iff.1 q4).1
      have hml:m<es'.length:=(List.getElem?_eq_some_iff.1 s9).1
      have hkey:en.key=uk:=by rw[q6,gD]
      have hmod:(es.modify i fun e=>{ e with key:=uk,val:=ux }).toList=es.toList.set i { key:=uk,val:=ux,born:=en.born }:=by
       rw[Array.toList_modify]
       apply List.ext_getElem?
       intro n
       rw[List.getElem?_modify,List.getElem?_set]
       by_cases hin:i=n
       ·subst hin
        simp only[if_true,hil,q4,Option.map_eq_map,Option.map_some]
       ·simp only[hin,if_false,Option.map_eq_map,Option.map_id']
      have hok:ic (cg ki ei) aT (es.toList.set i { key:=uk,val:=ux,born:=en.born }):=by
       refine⟨fun x hx=>?_,fun j x hx=>?_,by rw[List.length_set];exact g2.aT,anO g2.nd hil fun x hx=>by rw[q4]at hx;cases hx;exact hkey.symm⟩
       ·rcases List.mem_or_eq_of_mem_set hx with hx|rfl
        ·exact g2.ok x hx
        ·exact jO _
       ·rw[List.getElem?_set]at hx
        split at hx
        ·rename_i hij
         subst hij
         simp only[hil,if_true,Option.some.injEq]at hx
         subst hx
         exact g2.born i en q4
        ·exact g2.born j x hx
      have hrel:dP w Z1 (xs.set m (kd++vd)) (es'.set m { key:=uk,val:=ux,born:=en.born }):=by
       refine acU (by simp[mI g3]) fun j x e' hx he'=>?_
       rw[List.getElem?_set]at hx he'
       split at hx
       ·rename_i hij
        subst hij
        rw[if_pos rfl,if_pos hml]at he'
        split at hx
        ·cases hx;cases he';exact hrow _
        ·cases hx
       ·rename_i hij
        rw[if_neg hij]at he'
        obtain⟨x',h1,h2⟩:=oY g3 he'
        rw[hx]at h1
        cases h1
        exact h2
      classical
      have ac1:∀(l:List MapEntry) (n:Nat),l.Pairwise (fun a b=>a.key≠b.key)→l[n]? =some en→l.set n { key:=uk,val:=ux,born:=en.born }=l.map fun z=>if z.key=en.key then{ key:=uk,val:=ux,born:=en.born }else z:=by
       intro l n hnd hn
       apply List.ext_getElem?
       intro j
       rw[List.getElem?_set,List.getElem?_map]
       by_cases hnj:n=j
       ·subst hnj
        rw[if_pos rfl,if_pos (List.getElem?_eq_some_iff.1 hn).1,hn,Option.map_some,if_pos rfl]
       ·rw[if_neg hnj]
        cases hj:l[j]? with
        |none=>rfl
        |some z=>
         simp only[Option.map_some]
         rw[if_neg fun hzk=>hnj (acX hnd hn hj hzk.symm)]
      have y3:es'.Pairwise fun a b=>a.key≠b.key:=(gp.pairwise_iff (fun h=>Ne.symm h)).2 g2.nd
      obtain⟨w',hw',hR⟩:=fin (es.modify i fun e=>{ e with key:=uk,val:=ux }) aT (es'.set m { key:=uk,val:=ux,born:=en.born }) (by rw[hmod];exact hok) (by cases hun:eF e<;>simp only[putRow,yz,acr,q1]<;>exact hrel) (by rw[hmod,ac1 _ _ g2.nd q4,ac1 _ _ y3 s9];exact gp.map _) (fun fK=>by
       rw[hmod]
       have:=gu fK
       subst this
       rw[acX y3 s9 q4 rfl])
      refine⟨w',β,ct,Z1,?_,hR⟩
      rw[e1,hw']
      have q2':(Instr.findKey kt uk es.toList).run K.P w= .ok (some (i,en.val)) w:=by rw[gD];exact q2
      have o4:(Instr.checkKey false 10000 kt uk).run K.P w= .ok () w:=by rw[gD];exact hK.check w kd false hfit
      have agK:es[i]? =some en:=by simpa using q4
      have agL:(Instr.keyThatStays uk uk).run K.P w= .ok uk w:=by
       have hsb:Instr.sameBits 10000 uk uk=true:=by rw[gD];exact anT hfit gB
       simp[Instr.keyThatStays,hsb]
      simp only[Instr.mapUpdate,Sem.run_bind,run_underlying hu,Result.andThen_ok,oZ g1,o4,q2',agK,Option.map_some,Option.getD_some,hkey,agL,yX g1]
    ·simp[Prog.exec]at bz
   ·simp[Prog.exec]at aH
  ·simp[Prog.exec]at he
 ·simp[Prog.exec]at he
omit hT in
theorem anV (h:Rel K β ω Z s a w) {ki ei:TI} {r:ah} {j hv cv e k:Nat} {lF:List (List D)} {um:Value} (hcm:ax K β Z s a w (.aD r j hv cv e k lF) um) (dj:(s r).hv=hv) (dA:r.isArg=false) (hee:e=cg ki ei) (hi:dL (cg ki ei)=false) (hun:eF (cg ki ei)=false)
  {e':Nat} {xs:List (List D)} (bB:(s r).at j= .own e' xs):e'=cg ki ei∧∃b es aT,um= .map (some b)∧bP K β a w r j=some (.map (some b))∧w.heap[b]? =some (.map es aT)∧ic (cg ki ei) aT es.toList∧dP w Z xs es.toList∧¬Z b:=by
 have hmp:aW e=true:=by rw[hee];exact acT
 have hi':dL e=false:=by rw[hee];exact hi
 obtain⟨b,e1,_,_,g4⟩:=(ax.mA hmp).1 hcm
 obtain⟨f1,ys,f2,_⟩:=g4 dj (sQ bB)
 rw[bB]at f2
 rcases f2 with f2|f2<;>cases f2
 obtain⟨b2,q1,g0⟩:=h.acB hmp bB
 rw[f1,Option.some.injEq]at q1
 rw[sI q1.symm]at g0
 obtain⟨es,aT,g1,g2,g3⟩:=(cH.mp hi' (by rw[hee];exact hun)).1 g0
 exact⟨hee,b,es,aT,by rw[e1,lz hi'],by rw[f1,lz hi'],g1,by rw[←hee];exact g2,g3,(h.cZ _ _ (h.own r j _ _ _ b dA (fJ bB (by simp)) f1 (jn ..)).1).1⟩
omit hT in
theorem agM (h:Rel K β ω Z s a w) {ki ei:TI} (hi:dL (cg ki ei)=false) (hun:eF (cg ki ei)=false) {r:ah} {j:Nat} {xs ys:List (List D)} (bB:(s r).at j= .own (cg ki ei) xs) (dA:r.isArg=false) {b aT clk':Nat} {es es':Array MapEntry} (hh:bP K β a w r j=some (.map (some b)))
  (g1:w.heap[b]? =some (.map es aT)) (hnz:¬Z b) (hok:ic (cg ki ei) clk' es'.toList) (hrel:dP w Z ys es'.toList):
  Rel K β ω Z (s.set r { (s r)with cv:=(s r).cv+1,v:=(s r).v.setCell j (.own (cg ki ei) ys) }) a { w with heap:=w.heap.setIfInBounds b (.map es' clk') }∧∀b,Z b→({ w with heap:=w.heap.setIfInBounds b (.map es' clk') }:World).heap[b]? =({ w with heap:=w.heap.setIfInBounds b (.map es' clk') }:World).heap[b]? :=by
 obtain⟨qA,mD⟩:=acZ (o':=.map es' clk') g1
 exact⟨h.agf acT bB dA (by rw[hh,lz hi]) qA ((cH.mp hi hun).2 ⟨es',clk',mD,hok,anP (fun b' hb'=>⟨qA.other b' (fun e=>hnz (e ▸ hb')),hb'⟩) hrel⟩),fun _ _=>rfl⟩
omit hT in
theorem agN {es:Array MapEntry} {i:Nat} {en:MapEntry} (f:MapEntry→MapEntry) (h:es.toList[i]? =some en):(es.modify i f).toList=es.toList.set i (f en):=by
 have hil:i<es.toList.length:=(List.getElem?_eq_some_iff.1 h).1
 rw[Array.toList_modify]
 apply List.ext_getElem?
 intro n
 rw[List.getElem?_modify,List.getElem?_set]
 by_cases hin:i=n
 ·subst hin
  simp only[if_true,hil,h,Option.map_eq_map,Option.map_some]
 ·simp only[hin,if_false,Option.map_eq_map,Option.map_id']
theorem awS (h:Rel K β ω Z s a w) {t:TypeId} {m k:Operand} {dst:Nat} {o:Oper} (ho:o.op= .mapEntry t m k) {v:SV} {s':St} (he:(bp cfg o.op dst).exec s=some (v,s')):
  bR K s' a dst ((execOp a.eval o).run K.P w) v:=by
 rw[ho]at he
 simp only[bp]at he
 obtain⟨c,s1,h1,ak⟩:=av he
 obtain⟨hs1,o1,r1,iB⟩:=ew h h1
 rw[hs1]at ak
 obtain⟨kv,s2,h2,aH⟩:=av ak
 obtain⟨hs2,hkv,nK,anU⟩:=fm h h2
 rw[hs2]at aH
 unfold acs at aH
 split at aH
 ·rename_i kt ki ei hm
  obtain⟨et,hu,hki,gC,aM,cz⟩:=sY hT hm
  split at aH
  ·rename_i sh kd z hsc jt hz
   obtain⟨_,s3,h3,bz⟩:=av aH
   obtain⟨⟨hfit,vM,hka,hzl,hg⟩,hs3⟩:=bS h3
   rw[hs3]at bz
   split at bz
   ·rename_i r j iy cv0 e k0 lF
    simp only[Prog.exec]at bz
    obtain⟨_,s5,h5,cn⟩:=av bz
    obtain⟨⟨dj,dA,hee⟩,gj⟩:=bS h5
    rw[gj]at cn
    split at cn
    ·rename_i e' xs bB
     obtain⟨_,s6,h6,dN⟩:=av cn
     obtain⟨yY,gm⟩:=bS h6
     rw[gm]at dN
     obtain⟨_,s7,h7,nL⟩:=av dN
     simp only[cY,Prog.exec,Option.some.injEq,Prod.mk.injEq]at h7
     obtain⟨_,h7⟩:=h7
     obtain⟨hx,hs8⟩:=aE nL
     obtain⟨agO,b,es,aT,e1,f1,g1,g2,g3,hnz⟩:=anV h r1 dj dA hee (sX aM cz) (oX aM cz) bB
     subst agO
     have hK:=agv hT hki hsc
     obtain⟨gD,gB⟩:=agC hkv jt hfit hka
     obtain⟨zv,fE,gl,hza⟩:=ago (w:=w) (hT.T _ _ gC) hz
     have iC:DL w Z zv.cells.toList z:=mG gl
     have hzs:fC ei.kind.agg ei.size zv:=anM w gl hza hzl
     have hks:fC ki.kind.agg ki.size (c7 ki.kind.agg kd):=acW hfit vM (fun hf=>by have:=gB hf;omega)
     have agH:DL w Z (c7 ki.kind.agg kd).cells.toList kd:=anQ hfit gB
     have o4:(Instr.checkKey false 10000 kt (c7 ki.kind.agg kd)).run K.P w= .ok () w:=hK.check w kd false hfit
     have hZ:∀(o':Obj) b',Z b'→({ w with heap:=w.heap.setIfInBounds b o' }:World).heap[b']? =w.heap[b']? ∧Z b':=fun o' b' hb'=>⟨(acZ (o':=o') g1).1.other b' (fun e=>hnz (e ▸ hb')),hb'⟩
     have hout:∀(w':World) (vv:Value) (ds:List D) (n:Nat),(∀b,Z b→w'.heap[b]? =w.heap[b]? ∧Z b)→fC ei.kind.agg ei.size vv→DL w Z vv.cells.toList ds→
       Rel K β ω Z s' a w'→(execOp a.eval o).run K.P w= .ok (.value (.tuple #[vv,goInt n])) w'→v= .aJ [(ei.kind.agg,ds.map .d),(false,[.d (.int .i64 n)])]→bR K s' a dst ((execOp a.eval o).run K.P w) v:=by
      intro w' vv ds n hZ' hs hd hR hrun td
      rw[td]
      refine⟨_,w',β,ω,Z,hrun,hR,fL.yN ⟨#[vv,goInt n],rfl,ac0 hs (DL.mono' hZ' hd),?_,trivial⟩ ?_⟩
      ·exact⟨_,rfl,rfl,rfl⟩
      ·intro c hc
       simp only[SV.cells,List.flatMap_cons,List.flatMap_nil,List.append_nil,List.mem_append,List.mem_map,List.mem_singleton]at hc
       rcases hc with⟨d,_,rfl⟩|rfl<;>simp[bQ]
     rcases agz hK aM cz g3 (.refl _) g2 yY hfit gB with⟨q1,q2,q2n⟩|⟨i,m,x,en,q1,q2,q3,s9,q4,q5,_⟩
     ·have jO:mo (cg ki ei) { key:=c7 ki.kind.agg kd,val:=zv,born:=aT }:=(vL aM cz).2 ⟨hks,hzs⟩
      obtain⟨p2,p3⟩:=awL g2 g3 jO rfl q2n (agD agH iC rfl rfl)
      obtain⟨hR,_⟩:=agM (es':=es.push { key:=c7 ki.kind.agg kd,val:=zv,born:=aT }) (clk':=aT+1) h (sX aM cz) (oX aM cz) bB dA f1 g1 hnz (by rw[Array.toList_push];exact p2) (by rw[Array.toList_push];exact p3)
      rw[q1]at h7 hx
      have vN:aT=xs.length:=by rw[g2.aT,mI g3]
      refine hout _ zv z aT (hZ _) hzs iC (by rw[hs8,←h7];exact hR) ?_ (by rw[hx,vN];rfl)
      simp only[execOp,ho,Instr.mapEntry,e1,gD,Sem.run_bind,run_underlying hu,Result.andThen_ok,Sem.run_pure,oZ g1,o4,q2,fE,yX g1]
     ·have hmi:m=i:=acX g2.nd s9 q4 rfl
      subst hmi
      have jO:=g2.ok en (List.mem_of_getElem? q4)
      obtain⟨hk,hv⟩:=(vL aM cz).1 jO
      obtain⟨x',p1,p2⟩:=oY g3 q4
      rw[q3]at p1
      cases p1
      obtain⟨p3,p4⟩:=yV hk p2
      have hkey:en.key=c7 ki.kind.agg kd:=by rw[acV hk p3 (by rw[←q5];exact hfit),q5]
      have hmod:(es.modify m fun e=>{ e with key:=c7 ki.kind.agg kd }).toList=es.toList:=by
       rw[agN _ q4]
       apply List.ext_getElem?
       intro n
       rw[List.getElem?_set]
       split
       ·rename_i hin
        subst hin
        rw[if_pos (List.getElem?_eq_some_iff.1 q4).1,q4,←hkey]
       ·rfl
      obtain⟨hR,_⟩:=agM (ys:=xs) (es':=es.modify m fun e=>{ e with key:=c7 ki.kind.agg kd }) (clk':=aT) h (sX aM cz) (oX aM cz) bB dA f1 g1 hnz (by rw[hmod];exact g2) (by rw[hmod];exact g3)
      rw[q1]at h7 hx
      refine hout _ en.val (x.drop ki.size) m (hZ _) hv p4 (by rw[hs8,←h7];exact hR) ?_ (by rw[hx];simp only[jl,qy q3,Option.getD_some])
      have agK:es[m]? =some en:=by simpa using q4
      have agL:(Instr.keyThatStays (c7 ki.kind.agg kd) (c7 ki.kind.agg kd)).run K.P w= .ok (c7 ki.kind.agg kd) w:=by
       simp[Instr.keyThatStays,anT hfit gB]
      simp only[execOp,ho,Instr.mapEntry,e1,gD,Sem.run_bind,run_underlying hu,Result.andThen_ok,Sem.run_pure,oZ g1,o4,q2,agK,Option.map_some,Option.getD_some,hkey,agL,yX g1,g2.born m en q4]
    ·simp[Prog.exec]at cn
   ·simp[Prog.exec]at bz
  ·simp[Prog.exec]at aH
 ·simp[Prog.exec]at aH
theorem awW (h:Rel K β ω Z s a w) {t:TypeId} {c st:C} {um us ux:Value} {vv:SV} {y:Unit} {s':St} (hcm:ax K β Z s a w c um) (hst:ax K β Z s a w st us) (td:aY (ax K β Z s a w) ux vv)
  (hno:∀c∈vv.cells,bQ c) (he:(yA cfg t c st vv).exec s=some (y,s')):∃w' β' ω' Z',(Instr.entryStore t um us ux).run K.P w= .ok () w'∧Rel K β' ω' Z' s' a w':=by
 unfold yA at he
 split at he
 ·rename_i kt ki ei kk n vc hm mJ
  obtain⟨et,hu,hki,gC,aM,cz⟩:=sY hT hm
  obtain⟨_,s1,h1,ak⟩:=av he
  obtain⟨⟨hvl,qz⟩,hs1⟩:=bS h1
  rw[hs1]at ak
  obtain⟨vd,s2,h2,aH⟩:=av ak
  obtain⟨gX,hall⟩:=sU td mJ
  obtain⟨ct,Z1,r1,k1,p1⟩:=acM vc _ ω Z s s2 vd h hall (fun c hc=>hno c (by rw[gX];exact hc)) h2
  split at aH
  ·rename_i r j iy cv0 e k0 lF
   have agF:=k1.iq h.dH (c:=.aD r j iy cv0 e k0 lF) (by simp) hcm
   simp only[Prog.exec]at aH
   obtain⟨_,s3,h3,bz⟩:=av aH
   obtain⟨⟨dj,dA,hee⟩,hs3⟩:=bS h3
   rw[hs3]at bz
   split at bz
   ·rename_i e' xs bB
    obtain⟨_,s4,h4,cn⟩:=av bz
    obtain⟨⟨hn0,mH⟩,dm⟩:=bS h4
    rw[dm]at cn
    simp only[cY,Prog.exec,Option.some.injEq,Prod.mk.injEq]at cn
    obtain⟨_,rfl⟩:=cn
    obtain⟨agO,b,es,aT,e1,f1,g1,g2,g3,hnz⟩:=anV r1 agF dj dA hee (sX aM cz) (oX aM cz) bB
    subst agO
    have e2:us= .int kk n:=hst
    have hl:=mI g3
    have hil:n.toNat<es.toList.length:=by omega
    obtain⟨en,kA⟩:∃en,es.toList[n.toNat]? =some en:=⟨_,List.getElem?_eq_getElem hil⟩
    have jO:=g2.ok en (List.mem_of_getElem? kA)
    obtain⟨hk,hv⟩:=(vL aM cz).1 jO
    obtain⟨x,q3,p2⟩:=oY g3 kA
    obtain⟨p3,p4⟩:=yV hk p2
    have hvs:fC ei.kind.agg ei.size ux:=by rw[←qz];exact anN td mJ hvl
    have awX:mo (cg ki ei) { en with val:=ux }:=(vL aM cz).2 ⟨hk,hvs⟩
    obtain⟨o1,o2⟩:=awK (en:={ en with val:=ux }) (y:=x.take ki.size++vd) g2 g3 hil awX (show en.born=_ from g2.born _ en kA) (fun x hx=>by rw[kA]at hx;cases hx;rfl) (agD p3 p1 rfl rfl)
    obtain⟨hR,_⟩:=agM (es':=es.modify n.toNat fun e=>{ e with val:=ux }) (clk':=aT) r1 (sX aM cz) (oX aM cz) bB dA f1 g1 hnz (by rw[agN _ kA];exact o1) (by rw[agN _ kA];exact o2)
    refine⟨_,β,ct,Z1,?_,by rw[qy q3];exact hR⟩
    have mK:es.findIdx? (fun e=>(e.born:Int)==n)=some n.toNat:=by
     have hsz:n.toNat<es.size:=by simpa using hil
     rw[Array.findIdx?_eq_some_iff_getElem]
     refine⟨hsz,?_,fun j hj=>?_⟩
     ·have:es[n.toNat]=en:=by
        have:=Array.getElem?_eq_getElem hsz
        rw[←Array.getElem?_toList,kA]at this
        exact(Option.some.inj this).symm
      rw[this,g2.born _ _ kA]
      simp;omega
     ·have hj2:es.toList[j]? =some es[j]:=by rw[Array.getElem?_toList,Array.getElem?_eq_getElem]
      rw[g2.born _ _ hj2]
      simp;omega
    rw[e1,e2]
    simp only[Instr.entryStore,Sem.run_bind,Result.andThen_ok,oZ g1,Go.asInt,asIntOf,Sem.run_pure,mK,yX g1]
   ·simp[Prog.exec]at bz
  ·simp[Prog.exec]at aH
 ·simp[Prog.exec]at he
theorem awY (h:Rel K β ω Z s a w) {t:TypeId} {c:C} {u:Value} {v:SV} {s':St} (bu:ax K β Z s a w c u) (he:(vz cfg t c).exec s=some (v,s')):
  s'=s∧∃n:Nat,v=ez .i64 n∧(u= .map none∧n=0∨∃b es aT,u= .map (some b)∧w.heap[b]? =some (.map es aT)∧n=es.size)∧∃kt et,K.P.underlying t=some (.map kt et):=by
 unfold vz at he
 split at he
 ·rename_i kt ki ei hm
  obtain⟨et,hu,hki,gC,aM,cz⟩:=sY hT hm
  obtain⟨xs,s1,h1,ak⟩:=av he
  obtain⟨hs1,hr⟩:=anL h (fun e' he'=>⟨(qx aM cz he').mp,(qx aM cz he').it,(qx aM cz he').oe⟩) bu h1
  obtain⟨hx,hs2⟩:=aE ak
  refine⟨by rw[hs2,hs1],xs.length,hx,?_,kt,et,hu⟩
  rcases hr with⟨rfl,rfl⟩|⟨b,rfl,es,aT,es',g1,g2,g3,gp⟩
  ·exact .inl ⟨rfl,rfl⟩
  ·exact .inr ⟨b,es,aT,rfl,g1,by rw[mI g3,gp.length_eq];simp⟩
 ·simp[Prog.exec]at he
end
end
end Go.Vs
namespace Go.Vs
section
variable {K:Ctx} {β:Key→Option Nat} {ω:Nat→Option bX} {Z:Nat→Prop} {s:St} {a:Act} {w:World} {cfg:aP} (hT:eS K.P cfg)
theorem awZ (h:Rel K β ω Z s a w) {x:Operand} {dst:Nat} {o:Oper} (ho:o.op= .move x) {v:SV} {s':St} (he:(bp cfg o.op dst).exec s=some (v,s')):
  bR K s' a dst ((execOp a.eval o).run K.P w) v:=by
 rw[ho]at he
 simp only[bp]at he
 obtain⟨v1,s1,h1,ak⟩:=av he
 obtain⟨hs1,hv,hno,lH⟩:=fm h h1
 subst hs1
 have cQ:(execOp a.eval o).run K.P w= .ok (.value (a.eval x)) w:=by simp[execOp,ho]
 split at ak
 ·obtain⟨rfl,rfl⟩:=aE ak
  exact bR.same h cQ hv hno
 ·obtain⟨ω',Z',r1,k1,p1⟩:=anm h hv hno ak
  exact⟨_,w,β,ω',Z',cQ,r1,p1⟩
theorem aw0 (h:Rel K β ω Z s a w) {x:Operand} {dst:Nat} {o:Oper} (ho:o.op= .assign x) {v:SV} {s':St} (he:(bp cfg o.op dst).exec s=some (v,s')):
  bR K s' a dst ((execOp a.eval o).run K.P w) v:=by
 rw[ho]at he
 simp only[bp]at he
 obtain⟨v1,s1,h1,ak⟩:=av he
 obtain⟨hs1,hv,hno,lH⟩:=fm h h1
 subst hs1
 have cQ:(execOp a.eval o).run K.P w= .ok (.value (a.eval x)) w:=by simp[execOp,ho]
 obtain⟨ω',Z',r1,k1,p1⟩:=anj h hv hno ak
 exact⟨_,w,β,ω',Z',cQ,r1,p1⟩
theorem aw1 (h:Rel K β ω Z s a w) {c x y:Operand} {dst:Nat} {o:Oper} (ho:o.op= .pick c x y) {v:SV} {s':St} (he:(bp cfg o.op dst).exec s=some (v,s')):
  bR K s' a dst ((execOp a.eval o).run K.P w) v:=by
 rw[ho]at he
 simp only[bp]at he
 obtain⟨c1,s1,h1,ak⟩:=av he
 obtain⟨hs1,o1,r1,iB⟩:=ew h h1
 subst hs1
 clear he
 obtain⟨b,s2,h2,aH⟩:=av ak
 obtain⟨hs2,hc⟩:=awx h2
 subst hs2;subst hc
 have e1:a.eval c= .bool b:=r1
 have cQ:(execOp a.eval o).run K.P w= .ok (.value (if b=true then a.eval x else a.eval y)) w:=by
  simp[execOp,ho,e1,asBool]
 split at aH
 ·rename_i hb
  obtain⟨hs3,hv,hno,_⟩:=fm h aH
  subst hs3
  rw[if_pos hb]at cQ
  exact bR.same h cQ hv hno
 ·rename_i hb
  obtain⟨hs3,hv,hno,_⟩:=fm h aH
  subst hs3
  rw[if_neg hb]at cQ
  exact bR.same h cQ hv hno
theorem aw2 (h:Rel K β ω Z s a w) {x:Operand} {dst:Nat} {o:Oper} (ho:o.op= .nilCheck x) {v:SV} {s':St} (he:(bp cfg o.op dst).exec s=some (v,s')):
  bR K s' a dst ((execOp a.eval o).run K.P w) v:=by
 rw[ho]at he
 simp only[bp]at he
 obtain⟨c1,s1,h1,ak⟩:=av he
 obtain⟨hs1,o1,r1,hno⟩:=ew h h1
 subst hs1
 clear he
 split at ak
 ·obtain⟨rfl,rfl⟩:=aE ak
  obtain⟨b,g1,g2⟩:=id r1
  exact bR.same h (u:=a.eval x) (by simp[execOp,ho,g2]) ⟨o1,r1⟩ (by simp[SV.cells,bQ])
 ·obtain⟨rfl,rfl⟩:=aE ak
  obtain⟨b,oo,g2,_⟩:=id r1
  exact bR.same h (u:=a.eval x) (by simp[execOp,ho,g2]) ⟨o1,r1⟩ (by simp[SV.cells,bQ])
 ·obtain⟨rfl,rfl⟩:=aE ak
  obtain⟨b,oo,g2,_⟩:=id r1
  exact bR.same h (u:=a.eval x) (by simp[execOp,ho,g2]) ⟨o1,r1⟩ (by simp[SV.cells,bQ])
 ·simp[Prog.exec]at ak
include hT in
theorem aw3 (h:Rel K β ω Z s a w) {t:TypeId} {x:Operand} {dst:Nat} {o:Oper} (ho:o.op= .load t x) {v:SV} {s':St} (he:(bp cfg o.op dst).exec s=some (v,s')):
  bR K s' a dst ((execOp a.eval o).run K.P w) v:=by
 rw[ho]at he
 simp only[bp]at he
 split at he
 ·rename_i i bN
  obtain⟨c1,s1,h1,ak⟩:=av he
  obtain⟨hs1,o1,r1,hno⟩:=ew h h1
  subst hs1
  obtain⟨hs2,y,g1,g2,g3⟩:=anp h (hT.T _ _ bN) r1 ak
  subst hs2
  exact bR.same h (u:=y) (by simp[execOp,ho,g1]) g2 g3
 ·simp[Prog.exec]at he
include hT in
theorem aw4 (h:Rel K β ω Z s a w) {t:TypeId} {x:Operand} {f dst:Nat} {o:Oper} (ho:o.op= .fieldAddr t x f) {v:SV} {s':St} (he:(bp cfg o.op dst).exec s=some (v,s')):
  bR K s' a dst ((execOp a.eval o).run K.P w) v:=by
 rw[ho]at he
 simp only[bp]at he
 obtain⟨c1,s1,h1,ak⟩:=av he
 obtain⟨hs1,o1,r1,hno⟩:=ew h h1
 subst hs1
 obtain⟨c2,s2,h2,aH⟩:=av ak
 obtain⟨rfl,rfl⟩:=aE aH
 obtain⟨hs2,y,g1,g2,g3,g4⟩:=awk hT r1 h2
 subst hs2
 exact bR.same h (u:=y) (by simp[execOp,ho,g1]) ⟨g4,g2⟩ (by simpa[SV.cells]using g3)
include hT in
theorem aw5 (h:Rel K β ω Z s a w) {t:TypeId} {x ix:Operand} {dst:Nat} {o:Oper} (ho:o.op= .indexAddr t x ix) {v:SV} {s':St} (he:(bp cfg o.op dst).exec s=some (v,s')):
  bR K s' a dst ((execOp a.eval o).run K.P w) v:=by
 rw[ho]at he
 simp only[bp]at he
 split at he
 ·rename_i g
  obtain⟨c2,s2,h2,aH⟩:=av he
  obtain⟨hs2,o2,r2,nK⟩:=ew h h2
  subst hs2
  obtain⟨n,s3,h3,bz⟩:=av aH
  obtain⟨hs3,k,rfl⟩:=qw h3
  subst hs3
  obtain⟨c3,s4,h4,cn⟩:=av bz
  obtain⟨rfl,rfl⟩:=aE cn
  have e2:a.eval ix= .int k n:=r2
  unfold acm at h4
  split at h4
  ·rename_i l size bytes len et zero hl bN
   obtain⟨dd,hd,hk,hun⟩:=dx (w:=w) (hT.T _ _ bN)
   have cG:=acO hk
   subst cG
   split at h4
   ·rename_i i hft
    obtain⟨_,s5,h5,h6⟩:=av h4
    obtain⟨hn,gj⟩:=bS h5
    subst gj
    obtain⟨_,s6,h7,h8⟩:=av h6
    obtain⟨⟨hlen,hsz⟩,gm⟩:=bS h7
    subst gm
    obtain⟨rfl,rfl⟩:=aE h8
    obtain⟨q1,q2,q3,q4⟩:=h.laid g _ (hT.G _ _ hl)
    have e1:a.eval (.global g)= .pointer (some ⟨g,0,none⟩):=rfl
    have hlt:n.toNat<l.length:=by omega
    refine bR.same h (u:=.pointer (some ⟨g,n.toNat,none⟩)) ?_ ⟨rfl,g,n.toNat,rfl,q2,⟨_,q4.get (j:=n.toNat) (v:=.int .u64 (l.getD n.toNat 0)) ?_,rfl⟩,trivial⟩ (by simp[SV.cells,bQ])
    ·simp[execOp,ho,e2,e1,Instr.indexAt,asIntOf,hun,run_sizeOf (hT.T _ _ hft),hn,Instr.sureAddr,sN,hsz]
    ·rw[List.getElem?_map,List.getD_eq_getElem?_getD,List.getElem?_eq_getElem hlt];rfl
   ·simp[Prog.exec]at h4
  ·simp[Prog.exec]at h4
 obtain⟨c1,s1,h1,ak⟩:=av he
 obtain⟨hs1,o1,r1,hno⟩:=ew h h1
 subst hs1
 clear he
 obtain⟨c2,s2,h2,aH⟩:=av ak
 obtain⟨hs2,o2,r2,nK⟩:=ew h h2
 subst hs2
 clear ak
 obtain⟨n,s3,h3,bz⟩:=av aH
 obtain⟨hs3,k,rfl⟩:=qw h3
 subst hs3
 clear aH
 obtain⟨c3,s4,h4,cn⟩:=av bz
 obtain⟨rfl,rfl⟩:=aE cn
 have e2:a.eval ix= .int k n:=r2
 obtain⟨dm,y,g1,g2,g3,g4⟩:=awl hT (k:=k) r1 h4
 subst dm
 exact bR.same h (u:=y) (by simp[execOp,ho,e2,g1]) ⟨g4,g2⟩ (by simpa[SV.cells]using g3)
theorem anX {P:Program} {i:TI} {t:TypeId} (ht:ay P t=some i) {ws:Array Value} {cs:List C} (hall:au (fun u c=>ax K β Z s a w c u) ws.toList cs) (hno:∀c∈cs,bQ c) {off:Nat} {v:SV} {s':St}
  (he:(jk i cs off).exec s=some (v,s')):s'=s∧∃y,(part t ws off).run P w= .ok y w∧aY (ax K β Z s a w) y v∧(∀c∈v.cells,bQ c):=by
 obtain⟨rfl,hpos,hle,h⟩:=yQ he
 have hl:=hall.length
 rcases h with⟨hk,rfl⟩|⟨hk,c,hc,hnd,rfl⟩
 ·refine⟨rfl,.agg (ws.extract off (off+i.size)),?_,⟨_,rfl,?_⟩,fun c hc=>hno c (List.mem_of_mem_drop (List.mem_of_mem_take hc))⟩
  ·simp[part,acN ht,hk,run_sizeOf ht]
  ·have:(ws.extract off (off+i.size)).toList=(ws.toList.drop off).take i.size:=by simp[List.extract_eq_take_drop]
   rw[this]
   exact(hall.drop off).take _
 ·obtain⟨u,hu,bu⟩:=hall.get hc
  have hmem:=List.mem_of_getElem? hc
  refine⟨rfl,u,?_,⟨yP bu hnd,bu⟩,by simp only[SV.cells,List.mem_singleton];rintro _ rfl;exact hno _ hmem⟩
  have fK:ws[off]? =some u:=by simpa using hu
  simp[part,acN ht,hk,fK]
include hT in
theorem aw6 (h:Rel K β ω Z s a w) {t:TypeId} {x:Operand} {f dst:Nat} {o:Oper} (ho:o.op= .field t x f) {v:SV} {s':St} (he:(bp cfg o.op dst).exec s=some (v,s')):
  bR K s' a dst ((execOp a.eval o).run K.P w) v:=by
 rw[ho]at he
 simp only[bp]at he
 obtain⟨v1,s1,h1,ak⟩:=av he
 obtain⟨hs1,hv,hno,lH⟩:=fm h h1
 subst hs1
 clear he
 split at ak
 ·rename_i fs z cs bN
  split at ak
  ·rename_i oo ft iA
   split at ak
   ·rename_i i hft
    obtain⟨d,hd,hk,hun⟩:=dx (w:=w) (hT.T _ _ bN)
    obtain⟨fields,rfl,rfl⟩:=yO hk
    rw[List.getElem?_map]at iA
    cases hf:fields.toList[f]? with
    |none=>rw[hf]at iA;cases iA
    |some fd=>
     rw[hf]at iA
     simp only[Option.map_some,Option.some.injEq,Prod.mk.injEq]at iA
     obtain⟨rfl,rfl⟩:=iA
     have hf':fields[f]? =some fd:=by simpa using hf
     obtain⟨ws,e1,hall⟩:=hv
     obtain⟨hs2,y,g1,g2,g3⟩:=anX (P:=K.P) (hT.T _ _ hft) hall hno ak
     subst hs2
     exact bR.same h (u:=y) (by simp[execOp,ho,Instr.field,hun,hf',e1,asAgg,g1]) g2 g3
   ·simp[Prog.exec]at ak
  ·simp[Prog.exec]at ak
 ·simp[Prog.exec]at ak
include hT in
theorem aw7 (h:Rel K β ω Z s a w) {t:TypeId} {x ix:Operand} {dst:Nat} {o:Oper} (ho:o.op= .index t x ix) {v:SV} {s':St} (he:(bp cfg o.op dst).exec s=some (v,s')):
  bR K s' a dst ((execOp a.eval o).run K.P w) v:=by
 rw[ho]at he
 simp only[bp]at he
 obtain⟨v1,s1,h1,ak⟩:=av he
 obtain⟨hs1,hv,hno,lH⟩:=fm h h1
 subst hs1
 clear he
 obtain⟨c2,s2,h2,aH⟩:=av ak
 obtain⟨hs2,o2,r2,nK⟩:=ew h h2
 subst hs2
 clear ak
 obtain⟨n,s3,h3,bz⟩:=av aH
 obtain⟨hs3,k,rfl⟩:=qw h3
 subst hs3
 clear aH
 have e2:a.eval ix= .int k n:=r2
 unfold yw at bz
 split at bz
 ·rename_i str bN
  obtain⟨d,hd,hk,hun⟩:=dx (w:=w) (hT.T _ _ bN)
  have cG:=oT hk
  subst cG
  obtain⟨_,s4,h4,cn⟩:=av bz
  obtain⟨hn,dm⟩:=bS h4
  subst dm
  split at cn
  ·rename_i b hb
   obtain⟨rfl,rfl⟩:=aE cn
   have e1:a.eval x= .string ⟨str.toArray⟩:=hv.2
   refine bR.d h (u:=.int .u8 b.toNat) ?_ rfl
   simp[execOp,ho,Instr.index,e1,e2,asIntOf,hun,hn,awo,hb]
  ·simp[Prog.exec]at cn
 ·rename_i len et z cs bN
  obtain⟨d,hd,hk,hun⟩:=dx (w:=w) (hT.T _ _ bN)
  have cG:=acO hk
  subst cG
  split at bz
  ·rename_i i hft
   obtain⟨_,s4,h4,cn⟩:=av bz
   obtain⟨hn,dm⟩:=bS h4
   subst dm
   obtain⟨ws,e1,hall⟩:=hv
   obtain⟨hs2,y,g1,g2,g3⟩:=anX (P:=K.P) (hT.T _ _ hft) hall hno cn
   subst hs2
   exact bR.same h (u:=y) (by simp[execOp,ho,Instr.index,e1,e2,asIntOf,hun,hn,run_sizeOf (hT.T _ _ hft),g1]) g2 g3
  ·simp[Prog.exec]at bz
 ·simp[Prog.exec]at bz
include hT in
theorem aw8 (h:Rel K β ω Z s a w) {args:Array Operand} {tys:Array TypeId} {dst:Nat} {o:Oper} (ho:o.op= .call { callee:=.builtin .len,args,argTypes:=tys }) {v:SV} {s':St} (he:(bp cfg o.op dst).exec s=some (v,s')):
  bR K s' a dst ((execOp a.eval o).run K.P w) v:=by
 rw[ho]at he
 simp only[bp]at he
 split at he
 ·rename_i x t hx ht
  have hargs:args= #[x]:=by apply Array.toList_inj.1;simpa using hx
  have y4:tys= #[t]:=by apply Array.toList_inj.1;simpa using ht
  subst hargs;subst y4
  have key:∀b:Bool,(∃i,cfg.ti t=some i∧((b=true∧i.kind= .str)∨(b=false∧∃e,i.kind= .slice e)))→(do nD b (←ev x):Prog SV).exec s=some (v,s')→bR K s' a dst ((execOp a.eval o).run K.P w) v:=by
   rintro b ⟨i,bN,anY⟩ he
   obtain⟨v1,s1,h1,ak⟩:=av he
   obtain⟨hs1,hv,hno,lH⟩:=fm h h1
   subst hs1
   obtain⟨hs2,n,rfl,hu⟩:=awz hv ak
   subst hs2
   obtain⟨d,hd,hk,hun⟩:=dx (w:=w) (hT.T _ _ bN)
   refine bR.d h (u:=.int .i64 n) ?_ rfl
   rcases hu with⟨rfl,l,e1,rfl⟩|⟨rfl,ad,cap,e1⟩
   ·have hk':tk d= .str:=anY.elim (fun q=>by rw[hk,q.2]) (fun q=>by cases q.1)
    have cG:=oT hk'
    subst cG
    simp[execOp,ho,resolve,invoke,builtin,Builtin.len_,e1,hun,goInt,yS]
   ·obtain⟨e,hk'⟩:∃e,tk d= .slice e:=anY.elim (fun q=>by cases q.1) (fun⟨_,e,q⟩=>⟨e,by rw[hk,q]⟩)
    have cG:=ku hk'
    subst cG
    simp[execOp,ho,resolve,invoke,builtin,Builtin.len_,e1,hun,goInt]
  split at he
  ·rename_i bN;exact key true ⟨_,bN,.inl ⟨rfl,rfl⟩⟩ he
  ·rename_i bN;exact key false ⟨_,bN,.inr ⟨rfl,_,rfl⟩⟩ he
  ·obtain⟨c,s1,h1,ak⟩:=av he
   obtain⟨hs1,o1,r1,iB⟩:=ew h h1
   rw[hs1]at ak
   obtain⟨hs2,n,rfl,hu,kt,et,hd⟩:=awY hT h r1 ak
   subst hs2
   refine bR.d h (u:=.int .i64 n) ?_ rfl
   rcases hu with⟨e1,rfl⟩|⟨b,es,aT,e1,g1,rfl⟩
   ·simp[execOp,ho,resolve,invoke,builtin,Builtin.len_,e1,run_underlying hd,goInt]
   ·simp[execOp,ho,resolve,invoke,builtin,Builtin.len_,e1,run_underlying hd,goInt,oZ g1]
  ·simp[Prog.exec]at he
 ·simp[Prog.exec]at he
theorem agP (h:Rel K β ω Z s a w):∀(os:List Operand) {vs:List SV} {s':St},(nC os).exec s=some (vs,s')→s'=s∧au (fun u v=>aY (ax K β Z s a w) u v) (os.map a.eval) vs∧(∀v∈vs,(∀c∈v.cells,bQ c)∧v≠ .undef):=by
 intro os
 induction os with
 |nil=>intro vs s' he;obtain⟨rfl,rfl⟩:=aE he;exact⟨rfl,trivial,by simp⟩
 |cons o os ih=>
  intro vs s' he
  simp only[nC]at he
  obtain⟨v,s1,h1,ak⟩:=av he
  obtain⟨hs1,hv,hno,lH⟩:=fm h h1
  rw[hs1]at ak
  obtain⟨vs',s2,h2,aH⟩:=av ak
  obtain⟨hs2,hvs,aw9⟩:=ih h2
  obtain⟨hx,hs3⟩:=aE aH
  rw[hx]
  refine⟨by rw[hs3,hs2],⟨hv,hvs⟩,fun x hx=>?_⟩
  rcases List.mem_cons.1 hx with rfl|hx
  ·exact⟨hno,lH⟩
  ·exact aw9 x hx
theorem anZ (h:Rel K β ω Z s a w) {args:Array Operand} {tys:Array TypeId} {dst:Nat} {o:Oper} {b:Bool} (ho:o.op= .call { callee:=.builtin (if b then .min else .max),args,argTypes:=tys }) {v:SV} {s':St}
  (he:(do yD b (←nC args.toList):Prog SV).exec s=some (v,s')):bR K s' a dst ((execOp a.eval o).run K.P w) v:=by
 obtain⟨vs,s1,h1,ak⟩:=av he
 obtain⟨hs1,hvs,agQ⟩:=agP h _ h1
 subst hs1
 unfold yD at ak
 split at ak
 ·rename_i k x k' y
  obtain⟨rfl,rfl⟩:=aE ak
  match hargs:args.toList,hvs with
  | [p,q],hvs=>
    have e1:a.eval p= .int k x:=hvs.1.2
    have e2:a.eval q= .int k' y:=hvs.2.1.2
    have hA:args= #[p,q]:=by apply Array.toList_inj.1;simpa using hargs
    subst hA
    refine bR.d h (u:=.int k (if b then(if y<x then y else x)else(if y>x then y else x))) ?_ rfl
    cases b
    ·simp[execOp,ho,resolve,invoke,builtin,Builtin.max_,Builtin.max2,e1,e2]
    ·simp[execOp,ho,resolve,invoke,builtin,Builtin.min_,Builtin.min2,e1,e2]
 ·simp[Prog.exec]at ak
theorem axa (h:Rel K β ω Z s a w) {f:FuncId} {first captured:Array Operand} {dst:Nat} {o:Oper} (ho:o.op= .makeFunc (.func f) first captured) {v:SV} {s':St} (he:(bp cfg o.op dst).exec s=some (v,s')):
  bR K s' a dst ((execOp a.eval o).run K.P w) v:=by
 rw[ho]at he
 simp only[bp]at he
 obtain⟨_,s0,h0,dZ⟩:=av he
 obtain⟨axb,hs0⟩:=bS h0
 subst hs0
 clear he
 obtain⟨vs,s1,h1,ak⟩:=av dZ
 obtain⟨hs1,hvs,agQ⟩:=agP h _ h1
 subst hs1
 split at ak
 ·rename_i l hl
  obtain⟨rfl,rfl⟩:=aE ak
  have key:∀(os:List Value) (vs:List SV) (l:List (Key×Nat)),au (fun u v=>aY (ax K β Z s' a w) u v) os vs→vs.mapM (fun v=>match v with| .one (.ptr k o)=>some (k,o)|_=>none)=some l→
    au (fun u p=>∃b,β p.1=some b∧u= .pointer (some ⟨b,p.2,none⟩)) os l:=by
   intro os
   induction os with
   |nil=>
    intro vs l hv hl
    cases vs with
    |nil=>simp at hl;subst hl;trivial
    |cons _ _=>exact hv.elim
   |cons u os ih=>
    intro vs l hv hl
    cases vs with
    |nil=>exact hv.elim
    |cons v vs=>
     rw[List.mapM_cons]at hl
     cases v with
     |one c=>
      cases c with
      |ptr k off=>
       cases hm:vs.mapM (fun v=>match v with| .one (.ptr k o)=>some (k,o)|_=>none)with
       |none=>simp[hm]at hl
       |some l'=>
        simp[hm]at hl
        subst hl
        obtain⟨b,g1,g2⟩:=hv.1.2
        exact⟨⟨b,g1,g2⟩,ih vs l' hv.2 hm⟩
      |_=>simp at hl
     |_=>simp at hl
  have:=key _ _ _ hvs hl
  refine bR.same h (u:=.func (.func f) #[] (captured.map a.eval)) ?_ ⟨rfl,captured.map a.eval,rfl,by simpa using this⟩ (by simp[SV.cells,bQ])
  simp[execOp,ho,Instr.makeFunc,axb]
 ·simp[Prog.exec]at ak
theorem axc (h:Rel K β ω Z s a w) {x:Operand} {n dst:Nat} {o:Oper} (ho:o.op= .extract x n) {v:SV} {s':St} (he:(bp cfg o.op dst).exec s=some (v,s')):
  bR K s' a dst ((execOp a.eval o).run K.P w) v:=by
 rw[ho]at he
 simp only[bp]at he
 obtain⟨v1,s1,h1,ak⟩:=av he
 obtain⟨hs1,hv,hno,lH⟩:=fm h h1
 subst hs1
 clear he
 split at ak
 ·rename_i vs
  obtain⟨us,e1,hall⟩:=hv
  have key:∀(bx:Bool×List C) (v2:SV),vs[n]? =some bx→((bx.1=true∧v2= .agg bx.2)∨(bx.1=false∧∃c,bx.2=[c]∧v2= .one c))→(iV (.tmp dst) x v2).exec s1=some (v,s')→bR K s' a dst ((execOp a.eval o).run K.P w) v:=by
   intro bx v2 cr qu he
   obtain⟨u,hu,hr⟩:=hall.get cr
   have fK:us[n]? =some u:=by simpa using hu
   have oQ:aY (ax K β Z s1 a w) u v2:=by
    unfold cL at hr
    rcases qu with⟨hb,rfl⟩|⟨hb,c,hc,rfl⟩
    ·simp only[hb,if_true]at hr;exact hr
    ·simp only[hb,Bool.false_eq_true,if_false]at hr
     obtain⟨c',g1,g2,g3⟩:=hr
     rw[hc]at g1
     cases g1
     exact⟨g2,g3⟩
   have nK:∀c∈v2.cells,bQ c:=by
    intro c hc
    refine hno c (List.mem_flatMap.2 ⟨bx,List.mem_of_getElem? cr,?_⟩)
    rcases qu with⟨hb,rfl⟩|⟨hb,c',cA,rfl⟩
    ·exact hc
    ·rw[cA];exact hc
   obtain⟨ω',Z',r1,k1,p1⟩:=anm h oQ nK he
   exact⟨u,w,β,ω',Z',by simp[execOp,ho,e1,Instr.extract,fK],r1,p1⟩
  split at ak
  ·rename_i cs cr;exact key _ _ cr (.inl ⟨rfl,rfl⟩) ak
  ·rename_i c cr;exact key _ _ cr (.inr ⟨rfl,c,rfl,rfl⟩) ak
  ·simp[Prog.exec]at ak
 ·simp[Prog.exec]at ak
end
end Go.Vs
