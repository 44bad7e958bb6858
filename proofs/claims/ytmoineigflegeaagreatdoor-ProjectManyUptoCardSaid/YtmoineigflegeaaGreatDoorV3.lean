/- An evaluator of this program's code over plain values, proved sound: part 3. -/
import Derived.Test.YtmoineigflegeaaGreatDoorV2
set_option linter.unusedVariables false
set_option linter.unusedSimpArgs false
set_option linter.unusedSectionVars false
namespace Go.Ve
open Go.Vs
inductive Ty where
 |int (k:IntKind)|bool|str|sl (r:Ty)|pair (h t:Ty)
 |aU (u:Bool) (k v:Ty)
 |set (k:Ty)
 deriving DecidableEq,Repr,Inhabited
@[reducible] def Ty.T:Ty→Type
  | .int _=>Int
  | .bool=>Bool
  | .str=>List UInt8
  | .sl r=>Option (List r.T)
  | .pair h t=>h.T×t.T
  | .aU _ k v=>k.T×v.T
  | .set k=>k.T
def Ty.w:Ty→Nat
 | .pair h t=>h.w+t.w
 | .aU _ k v=>k.w+v.w
 | .set k=>k.w
 |_=>1
def Ty.agg:Ty→Bool
 | .pair _ _=>true
 |_=>false
def Ty.e:Ty→Nat
 | .aU u k v=>match u with|true=>gw (kY k.w k.agg v.w v.agg)|false=>kY k.w k.agg v.w v.agg
 | .set k=>kY k.w k.agg 0 true
 |t=>t.w
def Ty.zero:(t:Ty)→t.T
 | .int _=>(0:Int)
 | .bool=>false
 | .str=>([]:List UInt8)
 | .sl r=>(none:Option (List r.T))
 | .pair h t=>(h.zero,t.zero)
 | .aU _ k v=>(k.zero,v.zero)
 | .set k=>k.zero
def aA:(t:Ty)→t.T→List D
 | .int k,n=>[.int k n]
 | .bool,b=>[.bool b]
 | .str,s=>[.str s]
 | .sl r,o=>match o with
   |none=>[.nil]
   |some xs=>[.sl r.e (xs.map (aA r))]
 | .pair h t,x=>aA h x.1++aA t x.2
 | .aU _ k v,x=>aA k x.1++aA v x.2
 | .set k,x=>aA k x
def ag {α:Type} (l:List α):Int:=l.length
def aR (b:UInt8):Int:=b.toNat
def jc (s:List UInt8):List Int:=s.map aR
def jR (l:List Int):List UInt8:=l.map fun n=>UInt8.ofNat n.toNat
def dQ (k:IntKind) (a b:Int):Int:=k.wrap ((BitVec.ofInt k.bits a &&& BitVec.ofInt k.bits b).toNat)
def orI (k:IntKind) (a b:Int):Int:=k.wrap ((BitVec.ofInt k.bits a ||| BitVec.ofInt k.bits b).toNat)
def azf (k:IntKind) (a b:Int):Int:=k.wrap ((BitVec.ofInt k.bits a ^^^ BitVec.ofInt k.bits b).toNat)
def azg (k:IntKind) (a b:Int):Int:=k.wrap ((BitVec.ofInt k.bits a &&& ~~~(BitVec.ofInt k.bits b)).toNat)
inductive Md where
 |data|own|aD (q:ah) (j hv cv k:Nat)
 deriving DecidableEq
inductive E where
 |i (k:IntKind) (n:Int)|b (x:Bool)|tt|ff|s (x:List UInt8)
 |l (m:Md) (t:Ty) (xs:List t.T)
 |n (m:Md) (t:Ty) (o:Option (List t.T))
 |nil|aK (k:NK)
 |ea (q:ah) (j hv:Nat) (t:Ty) (n off:Nat)
 |da (t:Ty) (x:t.T) (off:Nat)
 |ptr (k:Key) (off:Nat)
 |bW (f:FuncId) (caps:List (Key×Nat))
 |dead
 |it (m:Md) (t:Ty) (xs:List t.T) (seen:List Nat)
 |gone (b:Bool)
instance:Inhabited E:=⟨.dead⟩
inductive aj where
 |one (c:E)|agg (cs:List E)|aJ (vs:List (Bool×List E))|undef
instance:Inhabited aj:=⟨.undef⟩
structure cx where
 hv:Nat:=0
 cv:Nat:=0
 v:aj:=.undef
instance:Inhabited cx:=⟨{}⟩
def lC (m:Md) (t:Ty) (xs:List t.T):C:=
 match m with
 | .data=>.d (.sl t.e (xs.map (aA t)))
 | .own=>.own t.e (xs.map (aA t))
 | .aD q j hv cv k=>.aD q j hv cv t.e k (xs.map (aA t))
def mC (m:Md) (e:Nat) (xs:List (List D)):C:=
 match m with
 | .data=>.d (.sl e xs)
 | .own=>.own e xs
 | .aD q j hv cv k=>.aD q j hv cv e k xs
def azh (t:Ty) (xs:List t.T) (seen:List Nat):List (List D):=[[.sl t.e (xs.map (aA t))],hY seen]
def cE:E→C
 | .i k n=>.d (.int k n)
 | .b x=>.d (.bool x)
 | .tt=>.d (.bool true)
 | .ff=>.d (.bool false)
 | .s x=>.d (.str x)
 | .l m t xs=>lC m t xs
 | .n m t o=>match o with
   |none=>.d .nil
   |some xs=>lC m t xs
 | .nil=>.d .nil
 | .aK k=>.d (.aK k)
 | .ea q j hv t n off=>.ea q j hv t.e n off
 | .da t x off=>.da ((aA t x).drop off)
 | .ptr k off=>.ptr k off
 | .bW f caps=>.bW f caps
 | .dead=>.dead
 | .it m t xs seen=>mC m jF (azh t xs seen)
 | .gone b=>match b with
   |true=>.dead
   |false=>.d .nil
def aq (l:List E):List C:=l.map cE
def dB (l:List (Bool×List E)):List (Bool×List C):=l.map fun p=>(p.1,aq p.2)
def ai:aj→SV
 | .one c=>.one (cE c)
 | .agg cs=>.agg (aq cs)
 | .aJ vs=>.aJ (dB vs)
 | .undef=>.undef
def bJ (x:cx):RV:={ hv:=x.hv,cv:=x.cv,v:=ai x.v }
def aj.cells:aj→List E
 | .one c=>[c]
 | .agg cs=>cs
 | .aJ vs=>vs.flatMap (·.2)
 | .undef=>[]
def iG {α:Type}:List α→Nat→α→List α
 | [],_,_=>[]
 |_ :: r,0,c=>c :: r
 |x :: r,j+1,c=>x :: iG r j c
def zu:List (Bool×List E)→Nat→E→List (Bool×List E)
 | [],_,_=>[]
 |(b,cs) :: r,j,c=>if j<cs.length then(b,iG cs j c) :: r else(b,cs) :: zu r (j - cs.length) c
def aj.setCell (v:aj) (j:Nat) (c:E):aj:=
 match v with
 | .one _=>if j=0 then .one c else v
 | .agg cs=>.agg (iG cs j c)
 | .aJ vs=>.aJ (zu vs j c)
 | .undef=>.undef
def de:Key→Key→Bool
 | .inb a,.inb b=>a==b
 | .loc a,.loc b=>a==b
 | .esc a i,.esc b j=>a==b&&i==j
 |_,_=>false
def eu:ah→ah→Bool
 | .tmp a,.tmp b=>a==b
 | .box a,.box b=>de a b
 | .arg a,.arg b=>a==b
 |_,_=>false
def qO (v:aj) (j:Nat):aj:=
 match v.cells.getD j .dead with
 | .l .own t ys=>v.setCell j (.l .data t ys)
 | .n .own t o=>v.setCell j (.n .data t o)
 | .it .own t xs sn=>v.setCell j (.it .data t xs sn)
 |_=>v
def fF:List (Nat×Nat)→List aj→List aj
 | [],args=>args
 |(i,j) :: r,args=>fF r (iG args i (qO (args.getD i .undef) j))
structure aG where
 m:List (ah×cx)
 args:List aj
 aB:List (Nat×Nat)
 bC:List (ah×Option (List Bool))
def ef (r:ah):List (ah×cx)→cx
 | []=>{}
 |(q,x) :: l=>match eu r q with
  |true=>x
  |false=>ef r l
def qP (r:ah) (x:cx):List (ah×cx)→List (ah×cx)
 | []=>[(r,x)]
 |(q,y) :: l=>match eu r q with
  |true=>(r,x) :: l
  |false=>(q,y) :: qP r x l
def aG.get (s:aG) (r:ah):cx:=
 match r with
 | .arg i=>{ v:=(fF s.aB s.args).getD i .undef }
 |r=>ef r s.m
def aG.put (s:aG) (r:ah) (x:cx):aG:={ s with m:=qP r x s.m,bC:=(r,none) :: s.bC }
def cI:List E→List (Option E)→List E
 | [],_=>[]
 |cs,[]=>cs
 |c :: cs,o :: os=>(match o with|some x=>x|none=>c) :: cI cs os
def aG.wr (s:aG) (k:Key) (os:List (Option E)):aG:=
 let x:=ef (.box k) s.m
 { s with m:=qP (.box k) { hv:=x.hv+1,cv:=x.cv,v:=match x.v with| .agg cs=>.agg (cI cs os)|v=>v } s.m,bC:=(.box k,some (os.map Option.isSome)) :: s.bC }
def kb (b:Bool):E:=match b with|true=>.tt|false=>.ff
def aG.know (s:aG) (r:ah) (b:Bool):aG:=
 match r with
 | .tmp t=>let x:=ef (.tmp t) s.m
   { s with m:=qP (.tmp t) { x with v:=.one (kb b) } s.m,bC:=(r,none) :: s.bC }
 |_=>s
def cl (s:aG):St:=fun r=>bJ (s.get r)
inductive Tr (α:Type):Type 1 where
 |leaf (a:α)
 |fail
 |br (c:Bool) (t e:Tr α)
 |call {ρ:Type} (d:ρ) (o:Option ρ) (k:ρ→Tr α)
 |sum {ρ σ:Type} (o:ρ ⊕ σ) (k:ρ→Tr α) (k':σ→Tr α)
def aI {ρ α:Type} (o:Option ρ) (k:ρ→Option α):Option α:=
 match o with
 |some x=>k x
 |none=>none
def gL {ρ σ α:Type} (o:ρ ⊕ σ) (k:ρ→Option α) (k':σ→Option α):Option α:=
 match o with
 | .inl x=>k x
 | .inr x=>k' x
namespace Tr
def bind {α β:Type}:Tr α→(α→Tr β)→Tr β
 | .leaf a,f=>f a
 | .fail,_=>.fail
 | .br c t e,f=>.br c (t.bind f) (e.bind f)
 | .call d o k,f=>.call d o fun x=>(k x).bind f
 | .sum o k k',f=>.sum o (fun x=>(k x).bind f) (fun x=>(k' x).bind f)
def map {α β:Type} (f:α→β):Tr α→Tr β
 | .leaf a=>.leaf (f a)
 | .fail=>.fail
 | .br c t e=>.br c (t.map f) (e.map f)
 | .call d o k=>.call d o fun x=>(k x).map f
 | .sum o k k'=>.sum o (fun x=>(k x).map f) (fun x=>(k' x).map f)
def run {α:Type}:Tr α→Option α
 | .leaf a=>some a
 | .fail=>none
 | .br c t e=>if c=true then t.run else e.run
 | .call _ o k=>aI o fun x=>(k x).run
 | .sum o k k'=>gL o (fun x=>(k x).run) fun x=>(k' x).run
def all {α:Type}:Tr α→(α→Prop)→Prop
 | .leaf a,Q=>Q a
 | .fail,_=>False
 | .br c t e,Q=>(c=true→t.all Q)∧(c=false→e.all Q)
 | .call _ o k,Q=>∃x,o=some x∧(k x).all Q
 | .sum o k k',Q=>(∀x,o= .inl x→(k x).all Q)∧(∀x,o= .inr x→(k' x).all Q)
def box {α:Type}:Tr α→(α→Prop)→Prop
 | .leaf a,Q=>Q a
 | .fail,_=>True
 | .br c t e,Q=>(c=true→t.box Q)∧(c=false→e.box Q)
 | .call _ o k,Q=>∀x,o=some x→(k x).box Q
 | .sum o k k',Q=>(∀x,o= .inl x→(k x).box Q)∧(∀x,o= .inr x→(k' x).box Q)
def each {α:Type}:Tr α→(α→Prop)→Prop
 | .leaf a,Q=>Q a
 | .fail,_=>True
 | .br _ t e,Q=>t.each Q∧e.each Q
 | .call _ _ k,Q=>∀x,(k x).each Q
 | .sum _ k k',Q=>(∀x,(k x).each Q)∧(∀x,(k' x).each Q)
end Tr
inductive PE (α:Type):Type 1 where
 |ret (a:α)
 |fail
 |br (c:Bool) (t e:PE α)
 |call {ρ:Type} (d:ρ) (o:Option ρ) (k:ρ→PE α)
 |get (r:ah) (k:cx→PE α)
 |put (r:ah) (x:cx) (k:PE α)
 |aB (i j:Nat) (k:PE α)
 |know (r:ah) (b:Bool) (k:PE α)
 |wr (k:Key) (os:List (Option E)) (c:PE α)
def tE (r:ah) (x:cx):Bool:=
 match r,x.v with
 | .arg _,_=>false
 | .box _,.agg _=>true
 | .box _,_=>false
 | .tmp _,_=>true
namespace PE
def bind {α β:Type}:PE α→(α→PE β)→PE β
 | .ret a,f=>f a
 | .fail,_=>.fail
 | .br c t e,f=>.br c (t.bind f) (e.bind f)
 | .call d o k,f=>.call d o fun x=>(k x).bind f
 | .get r k,f=>.get r fun x=>(k x).bind f
 | .put r x k,f=>.put r x (k.bind f)
 | .aB i j k,f=>.aB i j (k.bind f)
 | .know r b k,f=>.know r b (k.bind f)
 | .wr k os c,f=>.wr k os (c.bind f)
instance:Monad PE where
 pure:=PE.ret
 bind:=PE.bind
def both {α:Type}:PE α→aG→Tr (α×aG×List ah×List ah)
 | .ret a,s=>.leaf (a,s,[],[])
 | .fail,_=>.fail
 | .br c t e,s=>.br c (t.both s) (e.both s)
 | .call d o k,s=>.call d o fun x=>(k x).both s
 | .get r k,s=>((k (s.get r)).both s).map fun y=>(y.1,y.2.1,r :: y.2.2.1,y.2.2.2)
 | .put r x k,s=>match tE r x with
   |false=>.fail
   |true=>(k.both (s.put r x)).map fun y=>(y.1,y.2.1,y.2.2.1,r :: y.2.2.2)
 | .know r b k,s=>k.both (s.know r b)
 | .wr k os c,s=>(c.both (s.wr k os)).map fun y=>(y.1,y.2.1,y.2.2.1,.box k :: y.2.2.2)
 | .aB i j k,s=>(k.both { s with aB:=s.aB++[(i,j)],bC:=(.arg i,none) :: s.bC }).map fun y=>(y.1,y.2.1,y.2.2.1,.arg i :: y.2.2.2)
end PE
def iH (r:ah) (x:cx):PE Unit:=.put r x (.ret ())
def ask (c:Bool):PE Unit:=.br c (.ret ()) .fail
def sure (c:Bool):PE Unit:=match c with|true=>.ret ()|false=>.fail
def dh:(t:Ty)→t.T→List E
 | .int k,n=>[.i k n]
 | .bool,b=>[.b b]
 | .str,s=>[.s s]
 | .sl t,o=>[.n .data t o]
 | .pair h t,x=>dh h x.1++dh t x.2
 | .aU _ k v,x=>dh k x.1++dh v x.2
 | .set k,x=>dh k x
def kI:(t:Ty)→List E→Option (t.T×List E)
 | .int k=>fun cs=>match cs with
   | .i k' n :: r=>if k'=k then some (n,r)else none
   |_=>none
 | .bool=>fun cs=>match cs with
   | .b x :: r=>some (x,r)
   | .tt :: r=>some (true,r)
   | .ff :: r=>some (false,r)
   |_=>none
 | .str=>fun cs=>match cs with
   | .s x :: r=>some (x,r)
   |_=>none
 | .sl t=>fun cs=>match cs with
   | .n .data t' o :: r=>if h:t'=t then some (h ▸ o,r)else none
   | .l .data t' xs :: r=>if h:t'=t then some (some (h ▸ xs),r)else none
   | .nil :: r=>some (none,r)
   |_=>none
 | .pair h t=>fun cs=>match kI h cs with
   |some (x,r)=>match kI t r with
    |some (y,r')=>some ((x,y),r')
    |none=>none
   |none=>none
 | .aU _ k v=>fun cs=>match kI k cs with
   |some (x,r)=>match kI v r with
    |some (y,r')=>some ((x,y),r')
    |none=>none
   |none=>none
 | .set k=>fun cs=>kI k cs
def iI (t:Ty) (cs:List E):Option t.T:=
 match kI t cs with
 |some (x,[])=>some x
 |_=>none
def qQ (r:ah) (x:cx) (j:Nat):E→E
 | .l .own t xs=>.l (.aD r j x.hv x.cv 0) t xs
 | .n .own t o=>.n (.aD r j x.hv x.cv 0) t o
 | .it .own t xs sn=>.it (.aD r j x.hv x.cv 0) t xs sn
 |c=>c
def tF (r:ah) (x:cx):Nat→List E→List E
 |_,[]=>[]
 |j,c :: cs=>qQ r x j c :: tF r x (j+1) cs
def zw (r:ah) (x:cx):Nat→List (Bool×List E)→List (Bool×List E)
 |_,[]=>[]
 |j,(b,cs) :: vs=>(b,tF r x j cs) :: zw r x (j+cs.length) vs
def cx.copy (x:cx) (r:ah):aj:=
 match x.v with
 | .one c=>.one (qQ r x 0 c)
 | .agg cs=>.agg (tF r x 0 cs)
 | .aJ vs=>.aJ (zw r x 0 vs)
 | .undef=>.undef
def we:Value→Option E
 | .int k n=>some (.i k n)
 | .bool b=>some (match b with|true=>.tt|false=>.ff)
 | .string s=>some (.s s.data.toList)
 | .slice none 0 0=>some .nil
 | .pointer none=>some (.aK .ptr)
 | .nilFunc=>some (.aK .func)
 | .nilIface=>some (.aK .iface)
 | .map none=>some (.aK .map)
 | .chan none=>some (.aK .chan)
 |_=>none
def zx:List Value→Option (List E)
 | []=>some []
 |v :: r=>match we v,zx r with
  |some d,some ds=>some (d :: ds)
  |_,_=>none
def dy:Operand→PE aj
 | .tmp t=>.get (.tmp t) fun x=>match x.v with
   | .undef=>.fail
   |_=>.ret (x.copy (.tmp t))
 | .const v=>match v with
   | .agg cs=>match zx cs.toList with
     |some ds=>.ret (.agg ds)
     |none=>.fail
   |v=>match we v with
    |some d=>.ret (.one d)
    |none=>.fail
 | .func f=>.ret (.one (.bW f []))
 | .global _=>.fail
def tG:List Operand→PE (List aj)
 | []=>.ret []
 |o :: os=>do let v ←dy o;let vs ←tG os;.ret (v :: vs)
def ahC:aj→PE E
 | .one c=>.ret c
 |_=>.fail
def eg (o:Operand):PE E:=do ahC (←dy o)
def qR:E→PE Int
 | .i _ n=>.ret n
 |_=>.fail
def qS:E→Option Bool
 | .b b=>some b
 | .tt=>some true
 | .ff=>some false
 |_=>none
def cx.at (x:cx) (j:Nat):E:=x.v.cells.getD j .dead
def tH (r:ah) (j:Nat) (x:cx):PE Unit:=
 match x.at j with
 | .l .own t ys=>match r with
   | .arg i=>.aB i j (.ret ())
   |r=>iH r { x with v:=x.v.setCell j (.l .data t ys) }
 | .n .own t o=>match r with
   | .arg _=>.fail
   |r=>.call [] o fun ys=>iH r { x with v:=x.v.setCell j (.l .data t ys) }
 | .l .data _ _=>.ret ()
 | .n .data _ o=>.call [] o fun _=>.ret ()
 |_=>.fail
def nT (r:ah) (j:Nat) (x:cx):PE Unit:=
 match x.at j with
 | .l .own _ _=>iH r { x with v:=x.v.setCell j .dead }
 | .n .own _ o=>.call [] o fun _=>iH r { x with v:=x.v.setCell j .dead }
 |_=>.fail
def resolve:E→PE E
 | .n m t o=>.br o.isSome (.ret (.l m t (o.getD []))) (.ret .nil)
 |c=>.ret c
def azi:E→PE E
 | .n (.aD q j hv cv k) t o=>.br o.isSome (.ret (.l (.aD q j hv cv k) t (o.getD []))) (.ret .nil)
 |c=>.ret c
def apC:E→PE E
 | .n (.aD (.arg i) j hv cv k) t o=>.br o.isSome (.ret (.l (.aD (.arg i) j hv cv k) t (o.getD []))) (.ret .nil)
 |c=>.ret c
def pg (r:ah) (j:Nat) (x:cx) (b:Bool):PE Unit:=
 match x.at j with
 | .n .own t o=>match r with
   | .arg _=>.fail
   |r=>.br (b==o.isSome) (iH r { x with v:=x.v.setCell j (.n .data t o) }) .fail
 | .n .data _ o=>.br (b==o.isSome) (.ret ()) .fail
 |_=>.fail
def mP (r:ah) (j:Nat) (x:cx) (b:Bool):PE Unit:=
 match x.at j with
 | .n .own _ o=>.br (b==o.isSome) (iH r { x with v:=x.v.setCell j (.gone o.isSome) }) .fail
 |_=>.fail
def wh (j:Nat) (x:cx) (b:Bool):PE Unit:=
 match x.at j with
 | .n .own _ o| .n .data _ o=>.br (b==o.isSome) (.ret ()) .fail
 |_=>.fail
def lR (self:Option (ah×Nat)) (r:ah) (j:Nat):Bool:=
 match self with
 |some (q,i)=>eu q r&&i==j
 |none=>false
def zy (self:Option (ah×Nat)) (take:ah→Bool):E→PE E
 | .l (.aD r j hv cv k) t xs=>
   match r.isArg with
   |true=>.ret (.l (.aD r j hv cv k) t xs)
   |false=>.get r fun x=>do
    sure (x.hv==hv&&x.cv==cv)
    match x.at j with
    | .l .own _ _| .n .own _ _=>
      match lR self r j||take r with
      |true=>do nT r j x;.ret (.l .own t xs)
      |false=>do tH r j x;.ret (.l .data t xs)
    | .l .data _ _=>.ret (.l .data t xs)
    | .n .data _ o=>.call [] o fun _=>.ret (.l .data t xs)
    |_=>.fail
 | .n (.aD r j hv cv k) t o=>
   match r.isArg with
   |true=>.ret (.n (.aD r j hv cv k) t o)
   |false=>.get r fun x=>do
    sure (x.hv==hv&&x.cv==cv)
    match x.at j with
    | .n .own _ _=>
      match lR self r j||take r with
      |true=>do mP r j x o.isSome;.ret (.n .own t o)
      |false=>do pg r j x o.isSome;.ret (.n .data t o)
    | .n .data _ _=>do wh j x o.isSome;.ret (.n .data t o)
    |_=>.fail
 | .dead=>.fail
 | .gone _=>.fail
 | .it m t xs sn=>match m with
   | .aD .. =>.fail
   |m=>.ret (.it m t xs sn)
 |c=>.ret c
def zA (self:Option (ah×Nat)) (take:ah→Bool) (c:E):PE E:=zy self take c
def qT (mk:Nat→ah×Nat) (take:ah→Bool):Nat→List E→PE (List E)
 |_,[]=>.ret []
 |i,c :: cs=>do let c' ←zA (some (mk i)) take c;let cs' ←qT mk take (i+1) cs;.ret (c' :: cs')
def zB (mk:Nat→ah×Nat) (take:ah→Bool):Nat→List (Bool×List E)→PE (List (Bool×List E))
 |_,[]=>.ret []
 |i,(b,cs) :: vs=>do let cs' ←qT mk take i cs;let vs' ←zB mk take (i+cs.length) vs;.ret ((b,cs') :: vs')
def pn (r:ah) (take:ah→Bool):aj→PE aj
 | .one c=>do .ret (.one (←zA (some (r,0)) take c))
 | .agg cs=>do .ret (.agg (←qT (fun i=>(r,i)) take 0 cs))
 | .aJ vs=>do .ret (.aJ (←zB (fun i=>(r,i)) take 0 vs))
 | .undef=>.fail
def kJ:E→Bool
 | .i _ _| .b _| .tt| .ff| .s _| .l .data _ _| .n .data _ _| .nil| .aK _=>true
 |_=>false
def jS:E→PE E
 | .l (.aD r j hv cv _) t xs=>.get r fun x=>do
    sure (x.hv==hv&&x.cv==cv)
    tH r j x
    .ret (.l .data t xs)
 | .n (.aD r j hv cv _) t o=>.get r fun x=>do
    sure (x.hv==hv&&x.cv==cv)
    pg r j x o.isSome
    .ret (.n .data t o)
 |c=>match kJ c with
  |true=>.ret c
  |false=>.fail
def nU (c:E):PE E:=do jS (←apC c)
def qU:List E→PE (List E)
 | []=>.ret []
 |c :: cs=>do let x ←nU c;let xs ←qU cs;.ret (x :: xs)
def aj.dM:aj→Option (List E)
 | .one c=>some [c]
 | .agg cs=>some cs
 |_=>none
def tI (t:Ty):E→PE (List t.T)
 | .nil=>.ret []
 | .l .data t' xs=>if h:t'=t then do sure (!aW t.e);.ret (h ▸ xs)else .fail
 | .n .data t' o=>if h:t'=t then do sure (!aW t.e);.ret ((h ▸ o:Option (List t.T)).getD [])else .fail
 | .l (.aD r j hv cv _) t' xs=>.get r fun x=>
   match x.hv==hv&&x.cv==cv&& !aW t.e with
   |true=>match x.at j with
    | .l .own _ _| .l .data _ _=>if h:t'=t then .ret (h ▸ xs)else .fail
    | .n .own _ o| .n .data _ o=>.call [] o fun _=>if h:t'=t then .ret (h ▸ xs)else .fail
    |_=>.fail
   |false=>.fail
 | .n (.aD r j hv cv _) t' o=>.get r fun x=>
   match x.hv==hv&&x.cv==cv&& !aW t.e with
   |true=>do
    wh j x o.isSome
    if h:t'=t then .ret ((h ▸ o:Option (List t.T)).getD [])else .fail
   |false=>.fail
 |_=>.fail
def ahD (t:Ty) (c:E):PE (List t.T):=tI t c
def ej (k:IntKind) (n:Int):aj:=.one (.i k n)
def gM (b:Bool):aj:=.one (.b b)
def zC (op:BinOp) (k:IntKind) (a b:Int):PE aj:=
 match op with
 | .add=>.ret (ej k (k.wrap (a+b)))
 | .sub=>.ret (ej k (k.wrap (a - b)))
 | .mul=>.ret (ej k (k.wrap (a * b)))
 | .quo=>do ask (decide (b≠0));.ret (ej k (k.wrap (a.tdiv b)))
 | .rem=>do ask (decide (b≠0));.ret (ej k (a.tmod b))
 | .and=>.ret (ej k (dQ k a b))
 | .or=>.ret (ej k (orI k a b))
 | .xor=>.ret (ej k (azf k a b))
 | .andNot=>.ret (ej k (azg k a b))
 | .eql=>.ret (gM (a==b))
 | .neq=>.ret (gM (a != b))
 | .lss=>.ret (gM (decide (a<b)))
 | .leq=>.ret (gM (decide (a≤b)))
 | .gtr=>.ret (gM (decide (a>b)))
 | .geq=>.ret (gM (decide (a≥b)))
 |_=>.fail
def ahE (op:BinOp) (a b:List UInt8):PE aj:=
 match op with
 | .add=>do ask (decide (a.length+b.length≤1152921504606846976));.ret (.one (.s (a++b)))
 | .eql=>.ret (gM (decide (a=b)))
 | .neq=>.ret (gM (!decide (a=b)))
 | .lss=>.ret (gM (Op.bytesLess a b))
 | .leq=>.ret (gM (Op.bytesLess a b||decide (a=b)))
 | .gtr=>.ret (gM (!(Op.bytesLess a b||decide (a=b))))
 | .geq=>.ret (gM (!Op.bytesLess a b))
 |_=>.fail
def ahF (cfg:aP) (t:TypeId):Bool:=
 match cfg.ti t with
 |some { kind:=.bool, .. }=>true
 |_=>false
def ahG (cfg:aP) (t:TypeId) (op:BinOp) (x y:E):PE aj:=
 match qS x,qS y with
 |some a,some b=>match ahF cfg t,op with
  |true,.eql=>.ret (gM (a==b))
  |true,.neq=>.ret (gM (!(a==b)))
  |_,_=>.fail
 |_,_=>.fail
def adF:E→Option Bool
 | .l _ t _=>if aW t.e then none else some false
 | .n _ t o=>if aW t.e then none else some (!o.isSome)
 | .nil=>some true
 |_=>none
def adG (cfg:aP) (t:TypeId):Bool:=
 match cfg.ti t with
 |some { kind:=.slice _, .. }=>true
 |_=>false
def ahH (cfg:aP) (t:TypeId) (op:BinOp) (x:E):PE aj:=
 match adG cfg t,op,adF x with
 |true,.eql,some b=>.ret (gM b)
 |true,.neq,some b=>.ret (gM (!b))
 |_,_,_=>.fail
def ahI (cfg:aP) (t:TypeId) (op:BinOp) (x y:E):PE aj:=
 match x,y with
 | .i k a,.i k' b=>
   match op with
   | .shl=>do ask (decide (0≤b));.ret (ej k (k.wrap (a * 2 ^ (min b.toNat k.bits))))
   | .shr=>do ask (decide (0≤b));.ret (ej k (a.fdiv (2 ^ (min b.toNat k.bits))))
   |op=>if k=k' then zC op k a b else .fail
 | .s a,.s b=>ahE op a b
 |x,.nil=>ahH cfg t op x
 |x,y=>ahG cfg t op x y
def wj:List Sc→List E→List E→Option Bool
 | [],[],[]=>some true
 | .int k :: sh,.i k1 a :: xs,.i k2 b :: ys=>if k1=k∧k2=k then(match wj sh xs ys with|some r=>some ((a==b)&&r)|none=>none)else none
 | .str :: sh,.s a :: xs,.s b :: ys=>match wj sh xs ys with|some r=>some (decide (a=b)&&r)|none=>none
 | .bool :: sh,x :: xs,y :: ys=>match qS x,qS y,wj sh xs ys with|some a,some b,some r=>some ((a==b)&&r)|_,_,_=>none
 |_,_,_=>none
def ahJ (cfg:aP) (t:TypeId) (op:BinOp) (xs ys:List E):PE aj:=
 match lk t cfg.eqs with
 |some sh=>match op,wj sh xs ys with
  | .eql,some r=>.ret (gM r)
  | .neq,some r=>.ret (gM (!r))
  |_,_=>.fail
 |none=>.fail
def aS (a b:Nat):Bool:=Nat.ble (a+1) b
def pq (i:TI) (cs:List E) (off:Nat):PE aj:=
 match aS 0 i.size&&Nat.ble (off+i.size) cs.length with
 |true=>match i.kind.agg with
  |true=>.ret (.agg ((cs.drop off).take i.size))
  |false=>match cs[off]? with
   |some .dead=>.fail
   |some (.gone _)=>.fail
   |some c=>.ret (.one c)
   |none=>.fail
 |false=>.fail
def wk (i:TI):E→PE aj
 | .ptr k off=>.get (.box k) fun x=>
   match x.v with
   | .agg cs=>pq i (tF (.box k) x 0 cs) off
   |_=>.fail
 | .ea r j hv _ n off=>.get r fun x=>
   match x.hv==hv with
   |true=>match x.at j with
    | .l .own t ys| .l .data t ys=>do ask (aS n ys.length);pq i (dh t (ys.getD n t.zero)) off
    | .n .own t o| .n .data t o=>do ask (aS n (o.getD []).length);pq i (dh t ((o.getD []).getD n t.zero)) off
    |_=>.fail
   |false=>.fail
 | .da t x off=>pq i ((dh t x).drop off) 0
 |_=>.fail
def ahK (take:ah→Bool) (i:TI) (a:E) (v:aj):PE Unit:=
 match a,v.dM with
 | .ptr k off,some cs=>do
   sure (cs.length==i.size)
   let cs' ←qT (fun n=>(.box k,off+n)) take 0 cs
   .get (.box k) fun x=>
    match x.v with
    | .agg old=>do
      sure (Nat.ble (off+i.size) old.length&&Nat.ble (off+cs'.length) old.length)
      .wr k (List.replicate off none++cs'.map some) (.ret ())
    |_=>.fail
 | .ea r j hv _ n off,some cs=>do
   sure (cs.length==i.size)
   let ds ←qU cs
   .get r fun x=>do
    sure (x.hv==hv&& !r.isArg)
    match x.at j with
    | .l .own t ys=>do
      ask (aS n ys.length)
      sure (Nat.ble (off+i.size) t.w)
      match iI t (splice (dh t (ys.getD n t.zero)) off ds)with
      |some row'=>iH r { x with cv:=x.cv+1,v:=x.v.setCell j (.l .own t (ys.set n row')) }
      |none=>.fail
    | .n .own t o=>do
      ask (aS n (o.getD []).length)
      sure (Nat.ble (off+i.size) t.w)
      match iI t (splice (dh t ((o.getD []).getD n t.zero)) off ds)with
      |some row'=>iH r { x with cv:=x.cv+1,v:=x.v.setCell j (.l .own t ((o.getD []).set n row')) }
      |none=>.fail
    |_=>.fail
 |_,_=>.fail
def ahL (cfg:aP) (t:TypeId) (c:E) (f:Nat):PE E:=
 match cfg.ti t with
 |some { kind:=.struct fs, .. }=>match fs[f]? with
  |some (o,ft)=>match cfg.ti ft with
   |some i=>do
    sure (!(i.size==0))
    match c with
    | .ptr k off=>.ret (.ptr k (off+o))
    | .ea r j hv e n off=>.ret (.ea r j hv e n (off+o))
    | .da t x off=>do sure (Nat.ble (off+o) t.w);.ret (.da t x (off+o))
    |_=>.fail
   |none=>.fail
  |none=>.fail
 |_=>.fail
def ahM (cfg:aP) (t:TypeId) (g:Nat) (n:Int):PE E:=
 match lk g cfg.nB,cfg.ti t with
 |some l,some { kind:=.array len et, .. }=>match cfg.ti et with
  |some i=>do ask (decide (0≤n∧n<len));sure (len==l.length&&i.size==1);.ret (.da (.int .u64) (l.getD n.toNat 0) 0)
  |none=>.fail
 |_,_=>.fail
def ahN (cfg:aP) (t:TypeId) (c:E) (n:Int):PE E:=
 match cfg.ti t with
 |some { kind:=.slice et, .. }=>match cfg.ti et with
  |some i=>match c with
   | .l (.aD r j hv _ k) t xs=>do ask (decide (0≤n∧n<ag xs));sure (i.size==t.e&& !aW i.size);.ret (.ea r j hv t (k+n.toNat) 0)
   | .n (.aD r j hv _ k) t o=>do ask (decide (0≤n∧n<ag (o.getD [])));sure (i.size==t.e&& !aW i.size);.ret (.ea r j hv t (k+n.toNat) 0)
   | .l .data t xs=>do ask (decide (0≤n∧n<ag xs));sure (i.size==t.e&& !aW i.size);.ret (.da t (xs.getD n.toNat t.zero) 0)
   | .n .data t o=>do ask (decide (0≤n∧n<ag (o.getD [])));sure (i.size==t.e&& !aW i.size);.ret (.da t ((o.getD []).getD n.toNat t.zero) 0)
   |_=>.fail
  |none=>.fail
 |some { kind:=.array len et, .. }=>match cfg.ti et with
  |some i=>match c with
   | .ptr k off=>do sure (decide (0≤n∧n<len));.ret (.ptr k (off+n.toNat * i.size))
   |_=>.fail
  |none=>.fail
 |_=>.fail
def adH:List E→Option (List (List UInt8))
 | []=>some []
 | .s x :: r=>match adH r with|some l=>some (x :: l)|none=>none
 |_=>none
def adI (k:IntKind):List E→Option (List Int)
 | []=>some []
 | .i k' x :: r=>match decide (k'=k),adI k r with|true,some l=>some (x :: l)|_,_=>none
 |_=>none
def ahO (i:TI) (cs:List E):Option (Int→aj):=
 match i.kind with
 | .str=>match adH cs with|some l=>some fun n=>.one (.s (l.getD n.toNat []))|none=>none
 | .int k=>match adI k cs with|some l=>some fun n=>.one (.i k (l.getD n.toNat 0))|none=>none
 |_=>none
def ahP (cfg:aP) (t:TypeId) (v:aj) (n:Int):PE aj:=
 match cfg.ti t,v with
 |some { kind:=.str, .. },.one (.s s)=>do
  ask (decide (0≤n))
  ask (aS n.toNat s.length)
  .ret (ej .u8 (aR (s.getD n.toNat 0)))
 |some { kind:=.array len et, .. },.agg cs=>match cfg.ti et with
  |some i=>match ahO i cs with
   |some g=>do sure (Nat.beq i.size 1&&Nat.ble len cs.length);ask (decide (0≤n∧n<len));.ret (g n)
   |none=>do sure (decide (0≤n∧n<len));pq i cs (n.toNat * i.size)
  |none=>.fail
 |_,_=>.fail
def adJ (isStr:Bool) (v:aj):PE aj:=
 match isStr,v with
 |true,.one (.s s)=>.ret (ej .i64 (ag s))
 |false,.one .nil=>.ret (ej .i64 0)
 |false,.one (.l .data t xs)=>do sure (!aW t.e);.ret (ej .i64 (ag xs))
 |false,.one (.l (.aD ..) t xs)=>do sure (!aW t.e);.ret (ej .i64 (ag xs))
 |false,.one (.n .data t o)=>do sure (!aW t.e);.ret (ej .i64 (ag (o.getD [])))
 |false,.one (.n (.aD ..) t o)=>do sure (!aW t.e);.ret (ej .i64 (ag (o.getD [])))
 |_,_=>.fail
def zD (cells:List E):List (Nat×List E)→List E
 | []=>cells
 |(off,cs) :: r=>zD (splice cells off cs) r
def zE (fs:List (Nat×TypeId)) (cfg:aP):List (Nat×Operand)→PE (List (Nat×List E))
 | []=>.ret []
 |(i,o) :: r=>do
  let v ←dy o
  match fs[i]?,v.dM with
  |some (off,t),some cs=>match cfg.ti t with
   |some ti=>do sure (cs.length==ti.size);let rest ←zE fs cfg r;.ret ((off,cs) :: rest)
   |none=>.fail
  |_,_=>.fail
def ofD:D→Option E
 | .int k n=>some (.i k n)
 | .bool b=>some (match b with|true=>.tt|false=>.ff)
 | .str s=>some (.s s)
 | .nil=>some .nil
 | .aK k=>some (.aK k)
 |_=>none
def pz:List D→Option (List E)
 | []=>some []
 |d :: ds=>match ofD d,pz ds with
  |some c,some cs=>some (c :: cs)
  |_,_=>none
def fits (size:Nat) (ps:List (Nat×List E)):Bool:=ps.all fun p=>Nat.ble (p.1+p.2.length) size
def ahQ (cfg:aP) (t:TypeId) (parts:List (Nat×Operand)):PE aj:=
 match cfg.ti t with
 |some { kind:=.struct fs,size,zero:=some z, .. }=>do
  sure (z.length==size&&fs.all fun p=>(cfg.ti p.2).isSome)
  let ps ←zE fs cfg parts
  sure (fits size ps)
  match pz z with
  |some cs=>.ret (.agg (zD cs ps))
  |none=>.fail
 |some { kind:=.array n et,size,zero:=some z, .. }=>match cfg.ti et with
  |some i=>do
   sure (z.length==size)
   let ps ←zE ((List.range n).map fun j=>(j * i.size,et)) cfg parts
   sure (fits size ps)
   match pz z with
   |some cs=>.ret (.agg (zD cs ps))
   |none=>.fail
  |none=>.fail
 |_=>.fail
def qV:List (Option E)→List E
 | []=>[]
 |o :: os=>(match o with|some x=>x|none=>.dead) :: qV os
def fy:List (List E)→List (List (Option E))→List (List E)
 | [],os=>os.map qV
 |b :: bs,o :: os=>cI b o :: fy bs os
 |bs,[]=>bs
structure aV:Type 1 where
 A:Type
 R:Type
 d:R
 di:List aj→List (List E)→Option A
 sh:A→Option R
 two:Bool
 flag:R→Bool
 out:A→R→Bool→aj×List (List (Option E))
 aB:List (Nat×Nat)
 F:fc
 one:two=false→∀y,flag y=true
 ok:∀args boxes x y,di args boxes=some x→sh x=some y→F (args.map ai) (boxes.map aq)=some { v:=ai (out x y (flag y)).1,boxes:=(fy boxes (out x y (flag y)).2).map aq,aB:=aB }
structure c8 where
 N:Nat
 T:List (TypeId×TI)
 R:List (TypeId×Ty)
 az:Nat→FuncId→Option aV
 var:List Nat
 res:List Nat
 eqs:List (TypeId×List Sc):=[]
 dat:List Nat:=[]
 bK:Bool:=false
 un:List Nat:=[]
 nB:List (Nat×List Int):=[]
def c8.c (e:c8):aP:={ un:=e.un,nB:=e.nB,N:=e.N,T:=e.T,Γ:=fun t f=>match e.az t f with|some K=>some K.F|none=>none,var:=e.var,res:=e.res,eqs:=e.eqs,dat:=e.dat,bK:=e.bK }
def pE:Ty→List D→Option (List D)
 | .int k,.int k' n :: r=>if k=k'∧n=0 then some r else none
 | .bool,.bool b :: r=>if b=false then some r else none
 | .str,.str s :: r=>match s with| []=>some r|_=>none
 | .sl _,.nil :: r=>some r
 | .pair h t,ds=>match pE h ds with|some r=>pE t r|none=>none
 |_,_=>none
def qW (t:Ty) (z:List D):Bool:=match pE t z with|some []=>true|_=>false
def adK (t:Ty) (size:Nat):List (Nat×Operand)→List t.T→PE (List t.T)
 | [],rows=>.ret rows
 |(i,o) :: r,rows=>do
  let v ←dy o
  match v.dM with
  |some cs=>do
   sure (cs.length==size&&aS i rows.length)
   let ds ←qU cs
   match iI t ds with
   |some x=>adK t size r (iG rows i x)
   |none=>.fail
  |none=>.fail
def ahR (cfg:c8) (t:TypeId) (len:Nat) (parts:List (Nat×Operand)):PE aj:=
 match cfg.c.ti t with
 |some { kind:=.slice et, .. }=>match cfg.c.ti et,lk et cfg.R with
  |some i,some ty=>match i.zero with
   |some z=>do
    sure (z.length==i.size&&aS 0 i.size&&Nat.ble (len * i.size) 16777216&&i.size==ty.e&& !aW i.size&&qW ty z)
    let rows ←adK ty i.size parts (List.replicate len ty.zero)
    .ret (.one (.l .own ty rows))
   |none=>.fail
  |_,_=>.fail
 |_=>.fail
def ahS (cfg:c8) (t:TypeId) (len cap:Int):PE aj:=
 match cfg.c.ti t with
 |some { kind:=.slice et, .. }=>match cfg.c.ti et,lk et cfg.R with
  |some i,some ty=>match i.zero with
   |some z=>do
    sure (z.length==i.size&&aS 0 i.size&&Nat.ble i.bytes 1024&&i.size==ty.e&& !aW i.size&&qW ty z)
    ask (decide (0≤len∧len≤cap∧cap≤68719476736))
    .ret (.one (.l .own ty (List.replicate len.toNat ty.zero)))
   |none=>.fail
  |_,_=>.fail
 |_=>.fail
def eT {α:Type} (ys:List α):Option (List α):=match ys with
 | []=>none
 |y :: r=>some (y :: r)
def adL (i:TI) (t:Ty) (c:E) (ys:List t.T) (lit:Bool):PE aj:=do
 sure (aS 0 i.size&&aS 0 i.bytes&&Nat.ble i.bytes 1024&&(match i.zero with|some z=>z.length==i.size|none=>false)&&i.size==t.e&& !aW i.size)
 match c with
 | .nil=>do
   ask (decide (ys.length≤68719476736))
   .ret (.one (match lit with
    |true=>(match ys with| []=>.n .own t (eT ys)|y :: r=>.l .own t (y :: r))
    |false=>.n .own t (eT ys)))
 | .l (.aD r j hv cv k) t' xs=>.get r fun x=>do
   sure (x.hv==hv&&x.cv==cv&& !r.isArg)
   match x.at j with
   | .l .own _ zs=>do
     ask (decide (k+xs.length=zs.length))
     ask (decide (xs.length+ys.length≤68719476736))
     nT r j x
     if h:t'=t then .ret (.one (.l .own t ((h ▸ xs)++ys)))else .fail
   | .n .own _ o=>.call [] o fun zs=>do
     ask (decide (k+xs.length=zs.length))
     ask (decide (xs.length+ys.length≤68719476736))
     nT r j x
     if h:t'=t then .ret (.one (.l .own t ((h ▸ xs)++ys)))else .fail
   |_=>.fail
 |_=>.fail
def gN {α:Type} (o:Option (List α)) (ys:List α):Option (List α):=match o with
 |none=>eT ys
 |some xs=>some (xs++ys)
def ahT (i:TI) (t:Ty) (r:ah) (j hv cv k:Nat) (t':Ty) (o:Option (List t'.T)) (ys:List t.T) (lit:Bool):PE aj:=do
 sure (aS 0 i.size&&aS 0 i.bytes&&Nat.ble i.bytes 1024&&(match i.zero with|some z=>z.length==i.size|none=>false)&&i.size==t.e&& !aW i.size)
 .get r fun x=>do
  sure (x.hv==hv&&x.cv==cv&& !r.isArg)
  match x.at j with
  | .n .own _ o'=>do
    ask (decide (k+(o.getD []).length=(o'.getD []).length))
    ask (decide ((o.getD []).length+ys.length≤68719476736))
    mP r j x o.isSome
    if h:t'=t then .ret (.one (match lit,ys with
     |true,y :: q=>.l .own t (((h ▸ o:Option (List t.T)).getD [])++y :: q)
     |_,_=>.n .own t (gN (h ▸ o) ys)))else .fail
  |_=>.fail
def ahU (i:TI) (t:Ty) (c:E) (ys:List t.T) (lit:Bool):PE aj:=
 match c with
 | .n (.aD r j hv cv k) t' o=>ahT i t r j hv cv k t' o ys lit
 |c=>do adL i t (←resolve c) ys lit
def isLit (var:List Nat):E→Bool
 | .l .own _ _=>true
 | .l (.aD (.tmp t) _ _ _ _) _ _=> !(var.contains t)
 |_=>false
def ahV (cfg:aP) (i:TI) (t:Ty) (tid:TypeId) (c:E):PE (List t.T):=
 match cfg.ti tid with
 |some { kind:=.str, .. }=>match c with
  | .s s=>if h:Ty.int .u8=t then do sure (i.size==1);.ret (h ▸ (jc s:List (Ty.int .u8).T))else .fail
  |_=>.fail
 |some { kind:=.slice _, .. }=>do sure (i.size==t.e);ahD t c
 |_=>.fail
def ahW (c:E):PE aj:=
 match c with
 | .nil=>.ret (ej .i64 0)
 | .n _ _ o=>do ask (!o.isSome);.ret (ej .i64 0)
 |_=>.fail
def ahX (i:TI) (t:Ty) (c:E) (n:Int):PE aj:=
 match i.zero with
 |some z=>do
  sure (z.length==i.size&&aS 0 i.size&&aS 0 i.bytes&&Nat.ble i.bytes 1024&&i.size==t.e&& !aW i.size&&qW t z)
  match c with
  | .nil=>do
    ask (decide (0≤n∧n≤68719476736))
    .ret (.one (.n .own t (eT (List.replicate n.toNat t.zero))))
  | .n _ _ o=>do
    ask (!o.isSome&&decide (0≤n∧n≤68719476736))
    .ret (.one (.n .own t (eT (List.replicate n.toNat t.zero))))
  |_=>.fail
 |none=>.fail
def bV {α:Type} (l h:Int) (xs:List α):List α:=(xs.take h.toNat).drop l.toNat
def ahY (v:aj) (lo hi:Option Int):PE aj:=
 match v with
 | .one (.s s)=>
   let h:=hi.getD (ag s)
   let l:=lo.getD 0
   do
   ask (decide (0≤l∧l≤h∧h≤ag s))
   .ret (.one (.s (bV l h s)))
 |_=>.fail
def ahZ (size:Nat) (v:aj) (lo hi:Option Int):PE aj:=
 match v with
 | .one .nil=>do
   ask (decide (lo.getD 0=0∧hi.getD 0=0))
   .ret (.one .nil)
 | .one (.l .data t xs)=>do
   ask (decide (0≤lo.getD 0∧lo.getD 0≤hi.getD (ag xs)∧hi.getD (ag xs)≤ag xs))
   sure (t.e==size&& !aW size)
   .ret (.one (.l .data t (bV (lo.getD 0) (hi.getD (ag xs)) xs)))
 | .one (.n .data t o)=>do
   ask (decide (0≤lo.getD 0∧lo.getD 0≤hi.getD (ag (o.getD []))∧hi.getD (ag (o.getD []))≤ag (o.getD [])))
   sure (t.e==size&& !aW size)
   .ret (.one (.n .data t (o.map (bV (lo.getD 0) (hi.getD (ag (o.getD [])))))))
 | .one (.l (.aD r j hv cv k) t xs)=>do
   ask (decide (0≤lo.getD 0∧lo.getD 0≤hi.getD (ag xs)∧hi.getD (ag xs)≤ag xs))
   sure (t.e==size&& !aW size)
   .ret (.one (.l (.aD r j hv cv (k+(lo.getD 0).toNat)) t (bV (lo.getD 0) (hi.getD (ag xs)) xs)))
 | .one (.n (.aD r j hv cv k) t o)=>do
   ask (decide (0≤lo.getD 0∧lo.getD 0≤hi.getD (ag (o.getD []))∧hi.getD (ag (o.getD []))≤ag (o.getD [])))
   sure (t.e==size&& !aW size)
   .ret (.one (.n (.aD r j hv cv (k+(lo.getD 0).toNat)) t (o.map (bV (lo.getD 0) (hi.getD (ag (o.getD [])))))))
 |_=>.fail
def adM (cfg:aP) (et:TypeId):Bool:=
 match cfg.ti et with
 |some { kind:=.int .u8,size:=1, .. }=>true
 |_=>false
def ah0 (cfg:aP) (src dst:TypeId) (v:aj):PE aj:=
 match cfg.ti src,cfg.ti dst with
 |some _,some { kind:=.int k, .. }=>match v with
  | .one (.i _ n)=>.ret (ej k (k.wrap n))
  |_=>.fail
 |some i,some { kind:=.str, .. }=>match v with
  | .one (.s s)=>.ret (.one (.s s))
  | .one c=>match i.kind with
    | .slice et=>match adM cfg et with
      |true=>do
       let xs ←ahD (.int .u8) c
       .ret (.one (.s (jR xs)))
      |false=>.fail
    |_=>.fail
  |_=>.fail
 |some _,some { kind:=.slice et, .. }=>match v with
  | .one (.s s)=>match adM cfg et with
    |true=>.ret (.one (.l .own (.int .u8) (jc s)))
    |false=>.fail
  |_=>.fail
 |_,_=>.fail
def mQ:Ty→Option (List Sc)
 | .int k=>some [.int k]
 | .bool=>some [.bool]
 | .str=>some [.str]
 | .pair h t=>match mQ h,mQ t with
   |some a,some b=>some (a++b)
   |_,_=>none
 |_=>none
def fX:(k:Ty)→k.T→k.T→Bool
 | .int _,a,b=>(a:Int)==b
 | .bool,a,b=>(a:Bool)==b
 | .str,a,b=>decide ((a:List UInt8)=b)
 | .pair h t,a,b=>fX h a.1 b.1&&fX t a.2 b.2
 |_,_,_=>false
def iJ {V:Type} (k:Ty) (x:k.T):List (k.T×V)→Option V
 | []=>none
 |r :: l=>match fX k x r.1 with
  |true=>some r.2
  |false=>iJ k x l
def mR {V:Type} (k:Ty) (x:k.T) (y:V):List (k.T×V)→List (k.T×V)
 | []=>[(x,y)]
 |r :: l=>match fX k x r.1 with
  |true=>(x,y) :: l
  |false=>r :: mR k x y l
def nV:(k:Ty)→k.T→k.T→Bool
 | .int _,a,b=>decide ((a:Int)<b)
 | .bool,a,b=> !(a:Bool)&&b
 | .str,a,b=>ltB (a:List UInt8) b
 | .pair h t,a,b=>nV h a.1 b.1||(fX h a.1 b.1&&nV t a.2 b.2)
 |_,_,_=>false
def adN {V:Type} (k:Ty) (x:k.T) (y:V):List (k.T×V)→List (k.T×V)
 | []=>[(x,y)]
 |r :: l=>match nV k x r.1 with
  |true=>(x,y) :: r :: l
  |false=>r :: adN k x y l
def ah1 {V:Type} (k:Ty) (x:k.T) (y:V) (l:List (k.T×V)):List (k.T×V):=match(iJ k x l).isSome with
 |true=>mR k x y l
 |false=>adN k x y l
def zF {V:Type} (k:Ty) (x:k.T):List (k.T×V)→Nat
 | []=>0
 |r :: l=>match fX k x r.1 with
  |true=>0
  |false=>zF k x l+1
def wm {V:Type} (k:Ty) (x:k.T) (z:V):List (k.T×V)→List (k.T×V)
 | []=>[(x,z)]
 |r :: l=>match fX k x r.1 with
  |true=>r :: l
  |false=>r :: wm k x z l
def wo {K V:Type} (y:V):Nat→List (K×V)→List (K×V)
 |_,[]=>[]
 |0,r :: l=>(r.1,y) :: l
 |n+1,r :: l=>r :: wo y n l
def wq (k:Ty) (x:k.T):List k.T→Bool
 | []=>false
 |r :: l=>match fX k x r with
  |true=>true
  |false=>wq k x l
def wu (k:Ty) (x:k.T):List k.T→List k.T
 | []=>[x]
 |r :: l=>match fX k x r with
  |true=>x :: l
  |false=>r :: wu k x l
def adO (t:Ty) (r:ah) (j hv:Nat):PE (List t.T):=
 .get r fun x=>(sure (x.hv==hv)).bind fun _=>match x.at j with
  | .l .own t2 ys=>if h:t2=t then .ret (h ▸ ys)else .fail
  | .l .data t2 ys=>if h:t2=t then .ret (h ▸ ys)else .fail
  | .n .own t2 o=>if h:t2=t then .call [] o fun ys=>.ret (h ▸ ys)else .fail
  | .n .data t2 o=>if h:t2=t then .call [] o fun ys=>.ret (h ▸ ys)else .fail
  |_=>.fail
def pF (t:Ty):E→PE (List t.T)
 | .aK .map=>.ret []
 | .l .data t' xs=>if h:t'=t then .ret (h ▸ xs)else .fail
 | .n .data t' o=>if h:t'=t then .call [] o fun xs=>.ret (h ▸ xs)else .fail
 | .l (.aD r j hv _ _) t' _=>if t'=t then adO t r j hv else .fail
 | .n (.aD r j hv _ _) t' o0=>if t'=t then .call [] o0 fun _=>adO t r j hv else .fail
 |_=>.fail
def aj.isAgg:aj→Bool
 | .agg _=>true
 |_=>false
def ah2 (v:Ty) (y:v.T):PE aj:=
 match v.agg with
 |true=>.ret (.agg (dh v y))
 |false=>match dh v y with
  | [c]=>.ret (.one c)
  |_=>.fail
def tJ (sh:List Sc) (ki ei:TI) (k v:Ty) (vw:Nat) (va:Bool):Bool:=
 (match mQ k with|some tK=>decide (tK=sh)|none=>false)&&k.w==ki.size&&k.agg==ki.kind.agg&&vw==ei.size&&va==ei.kind.agg
def tL (k:Ty) (kv:aj):Option k.T:=
 match kv.isAgg==k.agg,kv.dM with
 |true,some cs=>iI k cs
 |_,_=>none
def ah3 (cfg:c8) (t:TypeId) (c:E) (kv:aj) (ok:Bool):PE aj:=
 match gx cfg.c t with
 |some (kt,ki,ei)=>match pZ cfg.c kt,ei.zero,lk t cfg.R with
  |some sh,some z,some (.aU u k v)=>match tL k kv with
   |some x=>do
    sure (tJ sh ki ei k v v.w v.agg&&qW v z&&(v.agg||v.w==1))
    let xs ←pF (.aU u k v) c
    match ok with
    |true=>.ret (.aJ [(v.agg,dh v ((iJ k x xs).getD v.zero)),(false,[.b (iJ k x xs).isSome])])
    |false=>ah2 v ((iJ k x xs).getD v.zero)
   |none=>.fail
  |some sh,some [],some (.set k)=>match tL k kv with
   |some x=>do
    sure (tJ sh ki ei k k 0 true)
    let xs ←pF (.set k) c
    match ok with
    |true=>.ret (.aJ [(true,[]),(false,[.b (wq k x xs)])])
    |false=>.ret (.agg [])
   |none=>.fail
  |_,_,_=>.fail
 |none=>.fail
def adP {α:Type} (t:Ty) (r:ah) (j:Nat) (x:cx) (cond:Option (List t.T→Bool)) (F:List t.T→List t.T) (out:List t.T→α) (ys:List t.T):PE α:=
 match cond with
 |none=>(iH r { x with cv:=x.cv+1,v:=x.v.setCell j (.l .own t (F ys)) }).bind fun _=>.ret (out ys)
 |some c=>(ask (c ys)).bind fun _=>(iH r { x with cv:=x.cv+1,v:=x.v.setCell j (.l .own t (F ys)) }).bind fun _=>.ret (out ys)
def adQ {α:Type} (t:Ty) (r:ah) (j hv:Nat) (cond:Option (List t.T→Bool)) (F:List t.T→List t.T) (out:List t.T→α):PE α:=
 .get r fun x=>(sure (x.hv==hv&& !r.isArg)).bind fun _=>match x.at j with
  | .l .own t2 ys=>if h:t2=t then adP t r j x cond F out (h ▸ ys)else .fail
  | .n .own t2 o=>if h:t2=t then .call [] o fun ys=>adP t r j x cond F out (h ▸ ys)else .fail
  |_=>.fail
def qX {α:Type} (t:Ty) (c:E) (cond:Option (List t.T→Bool)) (F:List t.T→List t.T) (out:List t.T→α):PE α:=
 match c with
 | .l (.aD r j hv _ _) t' _=>if t'=t then adQ t r j hv cond F out else .fail
 | .n (.aD r j hv _ _) t' o0=>if t'=t then .call [] o0 fun _=>adQ t r j hv cond F out else .fail
 |_=>.fail
def ah4 (cfg:c8) (t:TypeId) (c:E) (kv vv:aj):PE Unit:=
 match gx cfg.c t with
 |some (kt,ki,ei)=>match pZ cfg.c kt,lk t cfg.R with
  |some sh,some (.aU u k v)=>match tL k kv,vv.dM with
   |some x,some vc=>do
    sure (tJ sh ki ei k v v.w v.agg&&vv.isAgg==v.agg&&vc.length==v.w)
    let ds ←qU vc
    match iI v ds with
    |some y=>match u with
     |true=>qX (.aU true k v) c none (fun xs=>ah1 k x y xs) fun _=>()
     |false=>qX (.aU false k v) c none (fun xs=>mR k x y xs) fun _=>()
    |none=>.fail
   |_,_=>.fail
  |some sh,some (.set k)=>match tL k kv,vv.dM with
   |some x,some []=>do
    sure (tJ sh ki ei k k 0 true&&vv.isAgg)
    qX (.set k) c none (fun xs=>wu k x xs) fun _=>()
   |_,_=>.fail
  |_,_=>.fail
 |none=>.fail
def ah5 (cfg:c8) (t:TypeId) (c:E) (kv:aj):PE aj:=
 match gx cfg.c t with
 |some (kt,ki,ei)=>match pZ cfg.c kt,ei.zero,lk t cfg.R with
  |some sh,some z,some (.aU false k v)=>match tL k kv with
   |some x=>do
    sure (tJ sh ki ei k v v.w v.agg&&qW v z&&(v.agg||v.w==1))
    qX (.aU false k v) c none (fun xs=>wm k x v.zero xs) fun xs=>.aJ [(v.agg,dh v ((iJ k x xs).getD v.zero)),(false,[.i .i64 (zF k x xs)])]
   |none=>.fail
  |_,_,_=>.fail
 |none=>.fail
def ah6 (cfg:c8) (t:TypeId) (c st:E) (vv:aj):PE Unit:=
 match gx cfg.c t,lk t cfg.R,st,vv.dM with
 |some (_,ki,ei),some (.aU false k v),.i _ n,some vc=>do
  sure (k.w==ki.size&&k.agg==ki.kind.agg&&v.w==ei.size&&v.agg==ei.kind.agg&&vv.isAgg==v.agg&&vc.length==v.w)
  let ds ←qU vc
  match iI v ds with
  |some y=>qX (.aU false k v) c (some fun xs=>decide (0≤n∧n<ag xs)) (fun xs=>wo y n.toNat xs) fun _=>()
  |none=>.fail
 |_,_,_,_=>.fail
def ah7 (cfg:c8) (t:TypeId) (dst:Nat):PE aj:=
 match gx cfg.c t,lk t cfg.R with
 |some (_,ki,ei),some (.aU u k v)=>do
  sure (k.w==ki.size&&k.agg==ki.kind.agg&&v.w==ei.size&&v.agg==ei.kind.agg&&u==cfg.un.contains dst)
  .ret (.one (.l .own (.aU u k v) []))
 |some (_,ki,ei),some (.set k)=>do
  sure (k.w==ki.size&&k.agg==ki.kind.agg&&0==ei.size&&true==ei.kind.agg&& !cfg.un.contains dst)
  .ret (.one (.l .own (.set k) []))
 |_,_=>.fail
def ah8 (cfg:c8) (t:TypeId) (c:E):PE aj:=
 match gx cfg.c t,lk t cfg.R with
 |some (_,ki,ei),some (.aU false k v)=>do
  sure (k.w==ki.size&&k.agg==ki.kind.agg&&v.w==ei.size&&v.agg==ei.kind.agg)
  let d ←nU c
  match d with
  | .l .data t' xs=>if h:t'= .aU false k v then .ret (.one (.it .own (.aU false k v) (h ▸ xs) []))else .fail
  | .n .data t' o=>if h:t'= .aU false k v then .call [] o fun xs=>.ret (.one (.it .own (.aU false k v) (h ▸ xs) []))else .fail
  |_=>.fail
 |_,_=>.fail
def zG (k v:Ty) (r:k.T×v.T):List (Bool×List E):=[(k.agg,dh k r.1),(v.agg,dh v r.2)]
def zH (u:Bool) (k v:Ty):Bool:=pU (Ty.aU u k v).e==k.w&&sx (Ty.aU u k v).e==k.agg&&sy (Ty.aU u k v).e==v.agg
def ah9 (c:E):PE aj:=
 match c with
 | .it (.aD r j hv _ _) _ _ _=>.get r fun x=>do
   sure (x.hv==hv&& !r.isArg)
   match x.at j with
   | .it .own (.aU u k v) xs (i :: _)=>do
     sure (zH u k v)
     ask (aS i (List.length (α:=k.T×v.T) xs))
     .ret (.aJ (zG k v (List.getD (α:=k.T×v.T) xs i (k.zero,v.zero))))
   |_=>.fail
 |_=>.fail
def aia (cfg:c8) (t:TypeId) (c:E):PE aj:=
 match gx cfg.c t,lk t cfg.R with
 |some (_,ki,ei),some (.aU u k v)=>do
  sure (k.w==ki.size&&k.agg==ki.kind.agg&&v.w==ei.size&&v.agg==ei.kind.agg)
  let xs ←pF (.aU u k v) c
  .ret (ej .i64 (ag xs))
 |some (_,ki,ei),some (.set k)=>do
  sure (k.w==ki.size&&k.agg==ki.kind.agg&&0==ei.size&&true==ei.kind.agg)
  let xs ←pF (.set k) c
  .ret (ej .i64 (ag xs))
 |_,_=>.fail
def kK:List E→List Key
 | []=>[]
 | .ptr k _ :: cs=>k :: kK cs
 | .bW _ caps :: cs=>caps.map (·.1)++kK cs
 |_ :: cs=>kK cs
def aib (cfg:aP):E→PE E
 | .l (.aD (.tmp u) j hv cv k) t xs=>match cfg.keep u with
   |true=>.ret (.l (.aD (.tmp u) j hv cv k) t xs)
   |false=>nU (.l (.aD (.tmp u) j hv cv k) t xs)
 | .n (.aD (.tmp u) j hv cv k) t o=>match cfg.keep u with
   |true=>.ret (.n (.aD (.tmp u) j hv cv k) t o)
   |false=>nU (.n (.aD (.tmp u) j hv cv k) t o)
 | .it m t xs sn=>match m with
   | .aD .. =>.fail
   |m=>.ret (.it m t xs sn)
 |c=>.ret c
def adR (cfg:aP) (c:E):PE E:=aib cfg c
def zI (cfg:aP):List E→PE (List E)
 | []=>.ret []
 |c :: cs=>do let c' ←adR cfg c;let r ←zI cfg cs;.ret (c' :: r)
def wv (cfg:aP):aj→PE aj
 | .one c=>do .ret (.one (←adR cfg c))
 | .agg cs=>do .ret (.agg (←zI cfg cs))
 |_=>.fail
def adS (cfg:aP):List aj→PE (List aj)
 | []=>.ret []
 |v :: vs=>do let v' ←wv cfg v;let r ←adS cfg vs;.ret (v' :: r)
def wz (ks:List Key):E→PE E
 | .l (.aD r j hv cv _) t xs=>.get r fun x=>do
   sure (x.hv==hv&&x.cv==cv)
   match x.at j with
   | .l .own _ _=>do
     sure (ks.all fun k=> !eu r (.box k))
     .ret (.l .own t xs)
   | .n .own _ o=>.call [] o fun _=>do
     sure (ks.all fun k=> !eu r (.box k))
     .ret (.l .own t xs)
   | .l .data _ _=>.ret (.l .data t xs)
   | .n .data _ o=>.call [] o fun _=>.ret (.l .data t xs)
   |_=>.fail
 | .n (.aD r j hv cv _) t o=>.get r fun x=>do
   sure (x.hv==hv&&x.cv==cv)
   match x.at j with
   | .n .own _ _=>do
     wh j x o.isSome
     sure (ks.all fun k=> !eu r (.box k))
     .ret (.n .own t o)
   | .n .data _ _=>do
     wh j x o.isSome
     .ret (.n .data t o)
   |_=>.fail
 | .ptr k off=>.ret (.ptr (.inb (idx k ks)) off)
 | .bW f caps=>.ret (.bW f (caps.map fun p=>(.inb (idx p.1 ks),p.2)))
 |c=>match kJ c with
  |true=>.ret c
  |false=>.fail
def zJ (ks:List Key):List E→PE (List E)
 | []=>.ret []
 |c :: cs=>do let c' ←wz ks c;let r ←zJ ks cs;.ret (c' :: r)
def wA (ks:List Key):aj→PE aj
 | .one c=>do .ret (.one (←wz ks c))
 | .agg cs=>do .ret (.agg (←zJ ks cs))
 |_=>.fail
def adT (ks:List Key):List aj→PE (List aj)
 | []=>.ret []
 |v :: vs=>do let v' ←wA ks v;let r ←adT ks vs;.ret (v' :: r)
def nW:E→Bool
 | .i _ _| .b _| .tt| .ff| .s _| .l .data _ _| .n .data _ _| .l .own _ _| .n .own _ _| .nil| .aK _=>true
 |_=>false
def iK (ks:List Key):E→Bool
 | .ptr k _=>ks.any (de k)
 | .dead=>true
 |c=>nW c
def eL (ks:List Key):E→E
 | .ptr k off=>.ptr (.inb (idx k ks)) off
 |c=>c
def adU:Option E→Bool
 |some .dead=>true
 |some c=>nW c
 |none=>true
def mS (kk:List Key):List Key→PE (List (List E))
 | []=>.ret []
 |k :: ks=>.get (.box k) fun x=>match x.v with
  | .agg cs=>do sure (cs.all (iK kk));let r ←mS kk ks;.ret (cs.map (eL kk) :: r)
  |_=>.fail
def adV:List Key→PE (List Key)
 | []=>.ret []
 |k :: ks=>.get (.box k) fun x=>match x.v with
  | .agg cs=>do let r ←adV ks;.ret (kK cs++r)
  |_=>.fail
def zK:List E→List (Option E)→Bool
 | [.ptr _ _],[]=>true
 | [.ptr _ _],none :: _=>true
 |_,_=>false
def zL (kk:List Key):List Key→List (List (Option E))→PE Unit
 | [],_=>.ret ()
 |k :: ks,o :: os=>.get (.box k) fun x=>match x.v with
  | .agg cs=>do
    sure (cs.all (iK kk)&&o.all adU)
    match zK cs o with
    |true=>zL kk ks os
    |false=>.wr k o (zL kk ks os)
  |_=>.fail
 |_,_=>.fail
def adW (t:Nat):Nat→List (List E)→PE Unit
 |_,[]=>.ret ()
 |i,b :: bs=>.get (.box (.esc t i)) fun x=>match x.v with
  | .undef=>do sure (b.all nW);iH (.box (.esc t i)) { hv:=x.hv+1,cv:=x.cv,v:=.agg b };adW t (i+1) bs
  |_=>.fail
def aic (args:List aj) (l:List (Nat×Nat)):Bool:=
 l.all fun p=>kJ ((args.getD p.1 .undef).cells.getD p.2 .dead)
def adX (ks:List Key) (t:Nat):E→PE E
 | .ptr (.inb i) off=>.ret (.ptr (af1 ks t (.inb i)) off)
 | .bW f caps=>do sure caps.isEmpty;.ret (.bW f [])
 |c=>match nW c with
  |true=>.ret c
  |false=>.fail
def wB (ks:List Key) (t:Nat):List E→PE (List E)
 | []=>.ret []
 |c :: cs=>do let c' ←adX ks t c;let r ←wB ks t cs;.ret (c' :: r)
def zM (ks:List Key) (t:Nat):List (Bool×List E)→PE (List (Bool×List E))
 | []=>.ret []
 |(b,cs) :: vs=>do let cs' ←wB ks t cs;let r ←zM ks t vs;.ret ((b,cs') :: r)
def qY (ks:List Key) (t:Nat):aj→PE aj
 | .one c=>do .ret (.one (←adX ks t c))
 | .agg cs=>do .ret (.agg (←wB ks t cs))
 | .aJ vs=>do .ret (.aJ (←zM ks t vs))
 | .undef=>.fail
def tM (K:aV) (ks:List Key) (c9:List aj) (t:Nat) (x:K.A) (y:K.R) (b:Bool):PE aj:=do
 sure (Nat.ble ks.length (K.out x y b).2.length&&aic c9 K.aB)
 zL ks ks ((K.out x y b).2.take ks.length)
 adW t 0 (((K.out x y b).2.drop ks.length).map qV)
 qY ks t (K.out x y b).1
def aid (cfg:c8) (f:FuncId) (af2:List aj) (t:Nat):PE aj:=
 match cfg.az t f with
 |none=>.fail
 |some K=>do
  let args ←adS cfg.c af2
  let more ←adV (dedup (kK (args.flatMap aj.cells)))
  let ks:=dedup (kK (args.flatMap aj.cells)++more)
  let c9 ←adT ks args
  let bs ←mS ks ks
  match K.di c9 bs with
  |none=>.fail
  |some x=>.call K.d (K.sh x) fun y=>match K.two with
   |false=>tM K ks c9 t x y true
   |true=>.br (K.flag y) (tM K ks c9 t x y true) (tM K ks c9 t x y false)
def apE (o:Operand):PE (FuncId×List aj):=
 match o with
 | .func f=>.ret (f,[])
 |o=>do
  match ←eg o with
  | .bW f caps=>.ret (f,caps.map fun p=>.one (.ptr p.1 p.2))
  |_=>.fail
def zN (cfg:aP) (c:E) (r:ah):Bool:=
 match r with
 | .tmp u=> !cfg.var.contains u||(match c with| .ptr (.loc t) _=>cfg.res.contains t|_=>false)
 | .box (.loc _)=>(match c with| .ptr (.loc t) _=>cfg.res.contains t|_=>false)
 |_=>false
def zO (self:ah×Nat) (u:Operand):E→PE E
 | .l (.aD r j hv cv k) t xs=>match lq u r with
   |true=>zA (some self) (lq u) (.l (.aD r j hv cv k) t xs)
   |false=>.ret (.l (.aD r j hv cv k) t xs)
 | .n (.aD r j hv cv k) t o=>match lq u r with
   |true=>zA (some self) (lq u) (.n (.aD r j hv cv k) t o)
   |false=>.ret (.n (.aD r j hv cv k) t o)
 | .it m t xs sn=>match m with
   | .aD .. =>.fail
   |m=>.ret (.it m t xs sn)
 |c=>.ret c
def wC (r:ah) (u:Operand):Nat→List E→PE (List E)
 |_,[]=>.ret []
 |i,c :: cs=>do let c' ←zO (r,i) u c;let cs' ←wC r u (i+1) cs;.ret (c' :: cs')
def zP (r:ah) (u:Operand):Nat→List (Bool×List E)→PE (List (Bool×List E))
 |_,[]=>.ret []
 |i,(b,cs) :: vs=>do let cs' ←wC r u i cs;let vs' ←zP r u (i+cs.length) vs;.ret ((b,cs') :: vs')
def nX (r:ah) (u:Operand):aj→PE aj
 | .one c=>do .ret (.one (←zO (r,0) u c))
 | .agg cs=>do .ret (.agg (←wC r u 0 cs))
 | .aJ vs=>do .ret (.aJ (←zP r u 0 vs))
 | .undef=>.fail
def wD:Option Operand→PE (Option Int)
 |none=>.ret none
 |some o=>do .ret (some (←qR (←eg o)))
def jd (a b:Int):Int:=if b<a then b else a
def ju (a b:Int):Int:=if b>a then b else a
def adY (af3:Bool):List aj→PE aj
 | [.one (.i k a),.one (.i _ b)]=>.ret (ej k (match af3 with|true=>jd a b|false=>ju a b))
 |_=>.fail
def apF:aj→Option (Key×Nat)
 | .one (.ptr k o)=>some (k,o)
 |_=>none
def zQ:List aj→Option (List (Key×Nat))
 | []=>some []
 |v :: r=>match apF v,zQ r with
  |some p,some l=>some (p :: l)
  |_,_=>none
def know (o:Operand) (b:Bool):PE Unit:=
 match o with
 | .tmp t=>.know (.tmp t) b (.ret ())
 |_=>.ret ()
def dz (cfg:c8) (op:Op) (dst:Nat):PE aj:=
 match op with
 | .move x=>do
   let v ←dy x
   match Vs.isVar cfg.c x with
   |true=>.ret v
   |false=>nX (.tmp dst) x v
 | .assign x=>do
   let v ←dy x
   pn (.tmp dst) (amU cfg.c dst) v
 | .pick c a b=>do
   match ←eg c with
   | .tt=>dy a
   | .ff=>dy b
   | .b x=>.br x (do know c true;dy a) (do know c false;dy b)
   |_=>.fail
 | .alloc t=>match cfg.c.ti t with
   |some { size,zero:=some z, .. }=>do
    sure (z.length==size)
    .get (.box (.loc dst)) fun x=>match x.v with
     | .undef=>match pz z with
       |some cs=>do iH (.box (.loc dst)) { hv:=x.hv+1,cv:=x.cv,v:=.agg cs };.ret (.one (.ptr (.loc dst) 0))
       |none=>.fail
     |_=>.fail
   |_=>.fail
 | .box _ x=>do
   let v ←dy x
   match v.dM with
   |some cs=>do
    let cs' ←qT (fun n=>(.box (.loc dst),n)) (zN cfg.c (.ptr (.loc dst) 0)) 0 cs
    .get (.box (.loc dst)) fun x=>match x.v with
     | .undef=>do iH (.box (.loc dst)) { hv:=x.hv+1,cv:=x.cv,v:=.agg cs' };.ret (.one (.ptr (.loc dst) 0))
     |_=>.fail
   |none=>.fail
 | .build t ps=>ahQ cfg.c t ps.toList
 | .buildSlice t len ps=>ahR cfg t len ps.toList
 | .load t a=>match cfg.c.ti t with
   |some i=>do wk i (←eg a)
   |none=>.fail
 | .nilCheck x=>do
   match ←eg x with
   | .ptr k o=>.ret (.one (.ptr k o))
   | .ea r j hv e i o=>.ret (.one (.ea r j hv e i o))
   | .da t x o=>.ret (.one (.da t x o))
   |_=>.fail
 | .binOp op t x y _=>do
   match ←dy x,←dy y with
   | .one a,.one b=>ahI cfg.c t op a b
   | .agg xs,.agg ys=>ahJ cfg.c t op xs ys
   |_,_=>.fail
 | .unOp op _ x=>do
   match op,←eg x with
   | .neg,.i k n=>.ret (ej k (k.wrap (0 - n)))
   | .xor,.i k n=>zC .xor k (if k.signed then -1 else k.max) n
   | .not,.b b=>.ret (gM (!b))
   | .not,.tt=>.ret (.one .ff)
   | .not,.ff=>.ret (.one .tt)
   |_,_=>.fail
 | .convert s t x=>do ah0 cfg.c s t (←dy x)
 | .makeFunc (.func f) first captured=>do
   sure (first.toList.isEmpty)
   let vs ←tG captured.toList
   match zQ vs with
   |some l=>.ret (.one (.bW f l))
   |none=>.fail
 | .makeSlice t l c=>do
   let n ←qR (←eg l)
   let m ←qR (←eg c)
   ahS cfg t n m
 | .slice t x lo hi none=>match cfg.c.ti t with
   |some { kind:=.str, .. }=>do
    let v ←dy x
    let l ←wD lo
    let h ←wD hi
    ahY v l h
   |some { kind:=.slice et, .. }=>match cfg.c.ti et with
    |some i=>do
     let v ←dy x
     let l ←wD lo
     let h ←wD hi
     ahZ i.size v l h
    |none=>.fail
   |_=>.fail
 | .fieldAddr t x f=>do .ret (.one (←ahL cfg.c t (←eg x) f))
 | .field t x f=>do
   match cfg.c.ti t,←dy x with
   |some { kind:=.struct fs, .. },.agg cs=>match fs[f]? with
    |some (o,ft)=>match cfg.c.ti ft with
     |some i=>pq i cs o
     |none=>.fail
    |none=>.fail
   |_,_=>.fail
 | .indexAddr t x ix=>match x with
   | .global g=>do
     let n ←qR (←eg ix)
     .ret (.one (←ahM cfg.c t g n))
   |x=>do
    let c ←eg x
    let n ←qR (←eg ix)
    .ret (.one (←ahN cfg.c t c n))
 | .index t x ix=>do
   let v ←dy x
   let n ←qR (←eg ix)
   ahP cfg.c t v n
 | .extract x n=>do
   match ←dy x with
   | .aJ vs=>match vs[n]? with
     |some (true,cs)=>nX (.tmp dst) x (.agg cs)
     |some (false,[c])=>nX (.tmp dst) x (.one c)
     |_=>.fail
   |_=>.fail
 | .call { callee:=.builtin .len,args,argTypes }=>match args.toList,argTypes.toList with
   | [x],[t]=>match cfg.c.ti t with
     |some { kind:=.str, .. }=>do adJ true (←dy x)
     |some { kind:=.slice _, .. }=>do adJ false (←dy x)
     |some { kind:=.map _ _, .. }=>do aia cfg t (←eg x)
     |_=>.fail
   |_,_=>.fail
 | .range t x=>do ah8 cfg t (←eg x)
 | .entry x=>do ah9 (←eg x)
 | .makeMap t none=>ah7 cfg t dst
 | .lookup t x ix ok=>do
   let c ←eg x
   let v ←dy ix
   ah3 cfg t c v ok
 | .mapEntry t m k=>do
   let c ←eg m
   let v ←dy k
   ah5 cfg t c v
 | .call { callee:=.builtin .append,args,argTypes }=>match args.toList,argTypes.toList with
   | [x,y],[t,t2]=>match cfg.c.ti t with
     |some { kind:=.slice et, .. }=>match cfg.c.ti et,lk et cfg.R with
      |some i,some ty=>match cfg.c.ti t2 with
       |some { kind:=.int .i64, .. }=>do
        let c ←eg x
        let n ←qR (←eg y)
        ahX i ty c n
       |_=>do
        let c ←eg x
        let c2 ←eg y
        let ys ←ahV cfg.c i ty t2 c2
        ahU i ty c ys (isLit cfg.c.var c2)
      |_,_=>.fail
     |_=>.fail
   |_,_=>.fail
 | .call { callee:=.builtin .cap,args,argTypes }=>match args.toList,argTypes.toList with
   | [x],[t]=>match cfg.c.ti t with
     |some { kind:=.slice _, .. }=>do ahW (←eg x)
     |_=>.fail
   |_,_=>.fail
 | .call { callee:=.builtin .min,args, .. }=>do adY true (←tG args.toList)
 | .call { callee:=.builtin .max,args, .. }=>do adY false (←tG args.toList)
 | .call { callee:=.value o,args, .. }=>do
   let (f,caps) ←apE o
   let vs ←tG args.toList
   aid cfg f (vs++caps) dst
 |_=>.fail
def wE (cfg:c8) (t:Nat) (v:aj):PE Unit:=
 .get (.tmp t) fun x=>do
  sure (aS t cfg.N)
  iH (.tmp t) { hv:=x.hv+1,cv:=x.cv,v }
def kL (cfg:c8) (o:Oper):PE Unit:=
 match o.op,o.dst with
 | .store t a x,none=>match cfg.c.ti t with
   |some i=>do
    let c ←eg a
    let v ←dy x
    ahK (zN cfg.c c) i c v
   |none=>.fail
 | .mapUpdate t m k x,none| .insert t m k x,none=>do
   let c ←eg m
   let vk ←dy k
   let vx ←dy x
   ah4 cfg t c vk vx
 | .entryStore t m st x,none=>do
   let c ←eg m
   let s ←eg st
   let vx ←dy x
   ah6 cfg t c s vx
 |op,some d=>do wE cfg d (←dz cfg op d)
 |_,none=>.fail
def adZ (cfg:c8) (ops:Array Oper) (o:Oper):PE Unit:=
 match o.guard with
 |none=>kL cfg o
 |some (j,want)=>do
  let mT:PE Unit:=match o.dst with
   |some d=>wE cfg d (.aJ [])
   |none=>.ret ()
  match(ops[j]?).bind (·.dst)with
  |some t=>.get (.tmp t) fun x=>match x.v with
   | .one .tt=>match want with
     |true=>kL cfg o
     |false=>mT
   | .one .ff=>match want with
     |true=>mT
     |false=>kL cfg o
   | .one (.b b)=>match want with
     |true=>.br b (.know (.tmp t) true (kL cfg o)) (.know (.tmp t) false mT)
     |false=>.br b (.know (.tmp t) true mT) (.know (.tmp t) false (kL cfg o))
   | .aJ []=>mT
   |_=>.fail
  |none=>.fail
def nY (cfg:c8) (ops:Array Oper):List Oper→aG→Tr (aG×List (List ah×List ah))
 | [],s=>.leaf (s,[])
 |o :: r,s=>((adZ cfg ops o).both s).bind fun x=>(nY cfg ops r x.2.1).bind fun y=>.leaf (y.1,(x.2.2.1,x.2.2.2) :: y.2)
end Go.Ve
namespace Go.Ve
open Go.Vs
namespace Tr
theorem qZ {α β:Type} (t:Tr α) (f:α→Tr β) (Q:β→Prop):(t.bind f).box Q↔t.box fun a=>(f a).box Q:=by
 induction t with
 |leaf a=>rfl
 |fail=>exact Iff.rfl
 |br c t e cS cT=>simp only[bind,box,cS,cT]
 |call d o k ih=>simp only[bind,box,ih]
 |sum o k k' ih cM=>simp only[bind,box,ih,cM]
theorem nZ {α β:Type} (t:Tr α) (f:α→β) (Q:β→Prop):(t.map f).box Q↔t.box fun a=>Q (f a):=by
 induction t with
 |leaf a=>rfl
 |fail=>exact Iff.rfl
 |br c t e cS cT=>simp only[map,box,cS,cT]
 |call d o k ih=>simp only[map,box,ih]
 |sum o k k' ih cM=>simp only[map,box,ih,cM]
theorem kM {α:Type} {t:Tr α} {Q Q':α→Prop} (h:∀a,Q a→Q' a) (ht:t.box Q):t.box Q':=by
 induction t with
 |leaf a=>exact h _ ht
 |fail=>trivial
 |br c t e cS cT=>exact⟨fun hc=>cS (ht.1 hc),fun hc=>cT (ht.2 hc)⟩
 |call d o k ih=>exact fun x hx=>ih x (ht x hx)
 |sum o k k' ih cM=>exact⟨fun x hx=>ih x (ht.1 x hx),fun x hx=>cM x (ht.2 x hx)⟩
theorem gO {α β:Type} (t:Tr α) (f:α→Tr β) (Q:β→Prop):(t.bind f).each Q↔t.each fun a=>(f a).each Q:=by
 induction t with
 |leaf a=>rfl
 |fail=>exact Iff.rfl
 |br c t e cS cT=>simp only[bind,each,cS,cT]
 |call d o k ih=>simp only[bind,each,ih]
 |sum o k k' ih cM=>simp only[bind,each,ih,cM]
theorem iL {α β:Type} (t:Tr α) (f:α→β) (Q:β→Prop):(t.map f).each Q↔t.each fun a=>Q (f a):=by
 induction t with
 |leaf a=>rfl
 |fail=>exact Iff.rfl
 |br c t e cS cT=>simp only[map,each,cS,cT]
 |call d o k ih=>simp only[map,each,ih]
 |sum o k k' ih cM=>simp only[map,each,ih,cM]
theorem eH {α:Type} {t:Tr α} {Q Q':α→Prop} (h:∀a,Q a→Q' a) (ht:t.each Q):t.each Q':=by
 induction t with
 |leaf a=>exact h _ ht
 |fail=>trivial
 |br c t e cS cT=>exact⟨cS ht.1,cT ht.2⟩
 |call d o k ih=>exact fun x=>ih x (ht x)
 |sum o k k' ih cM=>exact⟨fun x=>ih x (ht.1 x),fun x=>cM x (ht.2 x)⟩
theorem wF {α:Type} (t:Tr α):t.each fun _=>True:=by
 induction t with
 |leaf a=>trivial
 |fail=>trivial
 |br c t e cS cT=>exact⟨cS,cT⟩
 |call d o k ih=>exact ih
 |sum o k k' ih cM=>exact⟨ih,cM⟩
theorem ri {α:Type} {t:Tr α} {Q:α→Prop} (ht:t.each Q):t.box Q:=by
 induction t with
 |leaf a=>exact ht
 |fail=>trivial
 |br c t e cS cT=>exact⟨fun _=>cS ht.1,fun _=>cT ht.2⟩
 |call d o k ih=>exact fun x _=>ih x (ht x)
 |sum o k k' ih cM=>exact⟨fun x _=>ih x (ht.1 x),fun x _=>cM x (ht.2 x)⟩
theorem n9 {α:Type} {t:Tr α} {Q Q':α→Prop} (h:t.all Q) (h':t.box Q'):t.all fun a=>Q a∧Q' a:=by
 induction t with
 |leaf a=>exact⟨h,h'⟩
 |fail=>exact h
 |br c t e cS cT=>exact⟨fun hc=>cS (h.1 hc) (h'.1 hc),fun hc=>cT (h.2 hc) (h'.2 hc)⟩
 |call d o k ih=>obtain⟨x,hx,g⟩:=h;exact⟨x,hx,ih x g (h' x hx)⟩
 |sum o k k' ih cM=>exact⟨fun x hx=>ih x (h.1 x hx) (h'.1 x hx),fun x hx=>cM x (h.2 x hx) (h'.2 x hx)⟩
theorem apG {α:Type} {t:Tr α} {Q Q':α→Prop} (h1:t.box Q) (h2:t.box Q'):t.box fun a=>Q a∧Q' a:=by
 induction t with
 |leaf a=>exact⟨h1,h2⟩
 |fail=>trivial
 |br c t e cS cT=>exact⟨fun hc=>cS (h1.1 hc) (h2.1 hc),fun hc=>cT (h1.2 hc) (h2.2 hc)⟩
 |call d o k ih=>exact fun x hx=>ih x (h1 x hx) (h2 x hx)
 |sum o k k' ih cM=>exact⟨fun x hx=>ih x (h1.1 x hx) (h2.1 x hx),fun x hx=>cM x (h1.2 x hx) (h2.2 x hx)⟩
theorem pG {α:Type} (t:Tr α) (Q:α→Prop):t.all Q↔ ∃a,t.run=some a∧Q a:=by
 induction t with
 |leaf a=>simp[all,run]
 |fail=>simp[all,run]
 |br c t e cS cT=>cases c<;>simp[all,run,cS,cT]
 |call d o k ih=>cases o<;>simp[all,run,aI,ih]
 |sum o k k' ih cM=>cases o<;>simp[all,run,gL,ih,cM]
theorem aHU {α:Type} {t:Tr α} {Q:α→Prop} {a:α} (h:t.run=some a) (h':t.box Q):Q a:=by
 have:=n9 ((pG t fun b=>b=a).2 ⟨a,h,rfl⟩) h'
 obtain⟨b,_,rfl,g⟩:=(pG t _).1 this
 exact g
theorem run_bind {α β:Type} (t:Tr α) (f:α→Tr β):(t.bind f).run=t.run.bind fun a=>(f a).run:=by
 induction t with
 |leaf a=>rfl
 |fail=>rfl
 |br c t e cS cT=>cases c<;>simp[bind,run,cS,cT]
 |call d o k ih=>cases o<;>simp[bind,run,aI,ih]
 |sum o k k' ih cM=>cases o<;>simp[bind,run,gL,ih,cM]
theorem run_map {α β:Type} (t:Tr α) (f:α→β):(t.map f).run=t.run.map f:=by
 induction t with
 |leaf a=>rfl
 |fail=>rfl
 |br c t e cS cT=>cases c<;>simp[map,run,cS,cT]
 |call d o k ih=>cases o<;>simp[map,run,aI,ih]
 |sum o k k' ih cM=>cases o<;>simp[map,run,gL,ih,cM]
end Tr
theorem oa {α:Type}:∀(l:List α) (j:Nat) (c:α),iG l j c=l.set j c
 | [],j,c=>by simp[iG]
 |x :: r,0,c=>rfl
 |x :: r,j+1,c=>by simp[iG,oa r j c]
theorem apH (cs:List E) (j:Nat) (c:E):aq (iG cs j c)=(aq cs).set j (cE c):=by
 rw[oa];simp[aq,List.map_set]
@[simp] theorem kN (cs:List E):(aq cs).length=cs.length:=by simp[aq]
@[simp] theorem ad3 (l m:List E):aq (l++m)=aq l++aq m:=by simp[aq]
theorem apI:∀(vs:List (Bool×List E)),(dB vs).flatMap (·.2)=aq (vs.flatMap (·.2))
 | []=>rfl
 |(b,cs) :: r=>by
  have:=apI r
  simp only[dB,List.map_cons,List.flatMap_cons,ad3]at this ⊢
  rw[this]
theorem zR (v:aj):(ai v).cells=aq v.cells:=by
 cases v with
 |aJ vs=>exact apI vs
 |_=>rfl
theorem getD_map {α β:Type} (f:α→β) (l:List α) (j:Nat) (d:α):(l.map f).getD j (f d)=f (l.getD j d):=by
 simp only[List.getD_eq_getElem?_getD,List.getElem?_map]
 cases l[j]? <;>rfl
theorem gP (x:cx) (j:Nat):(bJ x).at j=cE (x.at j):=by
 show(ai x.v).cells.getD j .dead=_
 rw[zR]
 exact getD_map cE _ j .dead
theorem apJ:∀(vs:List (Bool×List E)) (j:Nat) (c:E),dB (zu vs j c)=nA (dB vs) j (cE c)
 | [],j,c=>rfl
 |(b,cs) :: r,j,c=>by
  have ih:=apJ r (j - cs.length) c
  simp only[zu,dB,List.map_cons,nA,kN]at ih ⊢
  split<;>simp[apH,ih]
theorem setCell_eq (v:aj) (j:Nat) (c:E):ai (v.setCell j c)=(ai v).setCell j (cE c):=by
 cases v with
 |one x=>
  show ai (if j=0 then .one c else .one x)=if j=0 then .one (cE c)else .one (cE x)
  split<;>rfl
 |agg cs=>simp only[aj.setCell,ai,SV.setCell,apH]
 |aJ vs=>simp only[aj.setCell,ai,SV.setCell,apJ]
 |undef=>rfl
theorem apK (v:SV) (j:Nat) (h:j<v.cells.length):v.setCell j (v.cells.getD j .dead)=v:=by
 cases v with
 |one x=>
  simp only[SV.cells,List.length_singleton]at h
  have:j=0:=by omega
  subst this;rfl
 |agg cs=>
  simp only[SV.cells]at h ⊢
  simp only[SV.setCell,SV.agg.injEq]
  rw[List.getD_eq_getElem?_getD,List.getElem?_eq_getElem h];simp
 |aJ vs=>
  simp only[SV.cells]at h ⊢
  simp only[SV.setCell,SV.aJ.injEq]
  induction vs generalizing j with
  |nil=>rfl
  |cons p r ih=>
   obtain⟨b,cs⟩:=p
   simp only[List.flatMap_cons,List.length_append]at h
   simp only[nA,List.flatMap_cons]
   split
   ·rename_i hj
    rw[List.getD_eq_getElem?_getD,List.getElem?_append_left hj,List.getElem?_eq_getElem hj]
    simp
   ·rename_i hj
    have:=ih (j - cs.length) (by omega)
    rw[List.getD_eq_getElem?_getD,List.getElem?_append_right (by omega),←List.getD_eq_getElem?_getD,this]
 |undef=>simp[SV.cells]at h
theorem aHV (m:Md) (t:Ty):cE (.n m t none)= .d .nil:=rfl
theorem aHW (m:Md) (t:Ty) (xs:List t.T):cE (.n m t (some xs))=cE (.l m t xs):=rfl
theorem aie (m:Md) (t:Ty) (o:Option (List t.T)) (h:o.isSome=true):cE (.n m t o)=cE (.l m t (o.getD [])):=by
 cases o with
 |none=>cases h
 |some xs=>rfl
theorem apL (r:ah) (x:cx) (j:Nat) (c:E):cE (qQ r x j c)=j8 r (bJ x) j (cE c):=by
 cases c with
 |l m t xs=>cases m<;>rfl
 |n m t o=>cases m<;>cases o<;>rfl
 |it m t xs sn=>cases m<;>rfl
 |gone b=>cases b<;>rfl
 |_=>rfl
theorem ad4 (r:ah) (x:cx):∀(j:Nat) (cs:List E),aq (tF r x j cs)=fe r (bJ x) j (aq cs)
 |j,[]=>rfl
 |j,c :: cs=>by
  have:=ad4 r x (j+1) cs
  simp only[aq,List.map_cons]at this ⊢
  simp only[tF,List.map_cons,fe,apL,this]
theorem apM (r:ah) (x:cx):∀(j:Nat) (vs:List (Bool×List E)),dB (zw r x j vs)=pV r (bJ x) j (dB vs)
 |j,[]=>rfl
 |j,(b,cs) :: vs=>by
  have:=apM r x (j+cs.length) vs
  simp only[dB,List.map_cons]at this ⊢
  simp only[zw,List.map_cons,pV,ad4,this,kN]
theorem copy_eq (x:cx) (r:ah):ai (x.copy r)=(bJ x).copy r:=by
 obtain⟨hv,cv,v⟩:=x
 cases v with
 |one c=>exact congrArg SV.one (apL r _ 0 c)
 |agg cs=>exact congrArg SV.agg (ad4 r _ 0 cs)
 |aJ vs=>exact congrArg SV.aJ (apM r _ 0 vs)
 |undef=>rfl
theorem apN {v:Value} {e:E} (h:we v=some e):∃d,reflect v=some d∧cE e= .d d:=by
 unfold we at h
 split at h<;>first|(cases h;exact⟨_,rfl,rfl⟩)|(rename_i b;cases h;cases b<;>exact⟨_,rfl,rfl⟩)|(cases h;done)
theorem apO:∀{vs:List Value} {es:List E},zx vs=some es→∃ds,iU vs=some ds∧aq es=ds.map .d
 | [],es,h=>by cases h;exact⟨[],rfl,rfl⟩
 |v :: r,es,h=>by
  unfold zx at h
  split at h
  ·rename_i d ds h1 h2
   cases h
   obtain⟨x,e1,e2⟩:=apN h1
   obtain⟨xs,e3,e4⟩:=apO h2
   exact⟨x :: xs,by simp[iU,e1,e3],by simp only[aq,List.map_cons]at e4 ⊢;rw[e2,e4]⟩
  ·cases h
theorem gQ:∀(t:Ty) (x:t.T),aq (dh t x)=(aA t x).map .d
 | .int k,n=>rfl
 | .bool,b=>rfl
 | .str,s=>rfl
 | .sl t,o=>by cases o<;>rfl
 | .pair h t,x=>by
   have h1:=gQ h x.1
   have h2:=gQ t x.2
   simp only[dh,ad3,h1,h2,aA,List.map_append]
 | .set h,x=>by simpa[dh,aA]using gQ h x
 | .aU _ h t,x=>by
   have h1:=gQ h x.1
   have h2:=gQ t x.2
   simp only[dh,ad3,h1,h2,aA,List.map_append]
theorem eY:∀(t:Ty) (x:t.T),(aA t x).length=t.w
 | .int k,n=>rfl
 | .bool,b=>rfl
 | .str,s=>rfl
 | .sl t,o=>by cases o<;>rfl
 | .pair h t,x=>by simp[aA,Ty.w,eY h x.1,eY t x.2]
 | .set h,x=>by simpa[aA,Ty.w]using eY h x
 | .aU _ h t,x=>by simp[aA,Ty.w,eY h x.1,eY t x.2]
theorem aHX (t:Ty) (x:t.T):(dh t x).length=t.w:=by
 have:=congrArg List.length (gQ t x)
 simpa[eY]using this
theorem azj (u:Bool) (k v:Ty):aW (Ty.aU u k v).e=true:=by
 cases u
 ·exact Nat.ble_eq_true_of_le (Nat.le_add_right 4294967296 _)
 ·exact Nat.ble_eq_true_of_le (Nat.le_trans (Nat.le_add_right 4294967296 _) (Nat.le_add_right _ _))
theorem aHY {t:Ty} (h:aW t.e=false):t.e=t.w:=by
 cases t with
 |aU u k v=>rw[azj]at h;cases h
 |set k=>
  simp only[Ty.e,aW,kY]at h
  exact absurd (Nat.ble_eq_true_of_le (Nat.le_add_right 4294967296 _)) (by rw[h];simp)
 |_=>rfl
theorem aHZ (k:Ty):aW (Ty.set k).e=true:=Nat.ble_eq_true_of_le (Nat.le_add_right 4294967296 _)
theorem wG:∀(t:Ty) (cs r:List E) (x:t.T),kI t cs=some (x,r)→∃a,cs=a++r∧aq a=(aA t x).map .d
 | .int k,cs,r,x,h=>by
   unfold kI at h
   split at h
   ·split at h
    ·rename_i hk;cases h;subst hk;exact⟨[.i _ _],rfl,rfl⟩
    ·cases h
   ·cases h
 | .bool,cs,r,x,h=>by
   unfold kI at h
   split at h<;>cases h
   ·exact⟨[.b _],rfl,rfl⟩
   ·exact⟨[.tt],rfl,rfl⟩
   ·exact⟨[.ff],rfl,rfl⟩
 | .str,cs,r,x,h=>by
   unfold kI at h
   split at h<;>cases h
   exact⟨[.s _],rfl,rfl⟩
 | .sl t,cs,r,x,h=>by
   unfold kI at h
   split at h
   ·split at h
    ·rename_i o _ ht;subst ht;cases h;exact⟨[.n .data _ o],rfl,by cases o<;>rfl⟩
    ·cases h
   ·split at h
    ·rename_i ht;subst ht;cases h;exact⟨[.l .data _ _],rfl,rfl⟩
    ·cases h
   ·cases h;exact⟨[.nil],rfl,rfl⟩
   ·cases h
 | .pair h t,cs,r,x,hh=>by
   unfold kI at hh
   split at hh
   ·rename_i y r1 h1
    split at hh
    ·rename_i z r2 h2
     cases hh
     obtain⟨a,rfl,e2⟩:=wG h _ _ _ h1
     obtain⟨b,rfl,f2⟩:=wG t _ _ _ h2
     exact⟨a++b,by simp,by simp[e2,f2,aA]⟩
    ·cases hh
   ·cases hh
 | .set k,cs,r,x,h=>wG k cs r x h
 | .aU _ h t,cs,r,x,hh=>by
   unfold kI at hh
   split at hh
   ·rename_i y r1 h1
    split at hh
    ·rename_i z r2 h2
     cases hh
     obtain⟨a,rfl,e2⟩:=wG h _ _ _ h1
     obtain⟨b,rfl,f2⟩:=wG t _ _ _ h2
     exact⟨a++b,by simp,by simp[e2,f2,aA]⟩
    ·cases hh
   ·cases hh
theorem ad5 {t:Ty} {cs:List E} {x:t.T} (h:iI t cs=some x):aq cs=(aA t x).map .d:=by
 unfold iI at h
 split at h
 ·rename_i y hy
  cases h
  obtain⟨a,rfl,e⟩:=wG t _ _ _ hy
  simpa using e
 ·cases h
theorem fQ (a b:Key):de a b=true↔a=b:=by
 cases a<;>cases b<;>simp[de]
theorem kO (a b:ah):eu a b=true↔a=b:=by
 cases a<;>cases b<;>simp[eu,fQ]
theorem rj (r:ah) (x:cx) (q:ah):∀(l:List (ah×cx)),ef q (qP r x l)=if q=r then x else ef q l
 | []=>by
   simp only[qP,ef]
   by_cases h:q=r
   ·rw[(kO q r).2 h,if_pos h]
   ·rw[if_neg h]
    cases hb:eu q r with
    |true=>exact absurd ((kO q r).1 hb) h
    |false=>rfl
 |(p,y) :: l=>by
  have ih:=rj r x q l
  simp only[qP]
  cases hrp:eu r p with
  |true=>
   have:=(kO r p).1 hrp
   subst this
   simp only[ef]
   by_cases h:q=r
   ·rw[(kO q r).2 h,if_pos h]
   ·rw[if_neg h]
    cases hb:eu q r with
    |true=>exact absurd ((kO q r).1 hb) h
    |false=>rfl
  |false=>
   simp only[ef]
   rw[ih]
   cases hqp:eu q p with
   |true=>
    have:=(kO q p).1 hqp
    subst this
    have hne:q≠r:=by rintro rfl;rw[(kO q q).2 rfl]at hrp;cases hrp
    simp[hne]
   |false=>rfl
theorem wH (s:aG) {r:ah} (x:cx) (hr:r.isArg=false) (q:ah):(s.put r x).get q=if q=r then x else s.get q:=by
 cases q with
 |arg i=>
  have:ah.arg i≠r:=by rintro rfl;cases hr
  rw[if_neg this];rfl
 |tmp t=>exact rj r x _ s.m
 |box k=>exact rj r x _ s.m
theorem wI (s:aG) {r:ah} (x:cx) (hr:r.isArg=false):cl (s.put r x)=(cl s).set r (bJ x):=by
 funext q
 simp only[cl,wH s x hr q,St.set]
 split<;>rfl
theorem azl (s:aG) {t:Nat} {c b:Bool} (h:(s.get (.tmp t)).v= .one (.b c)) (hc:c=b):cl (s.know (.tmp t) b)=cl s:=by
 funext q
 have hg:(s.know (.tmp t) b).get q=if q= .tmp t then{ (s.get (.tmp t))with v:=.one (kb b) }else s.get q:=by
  cases q with
  |arg i=>rw[if_neg (by simp)];rfl
  |tmp u=>exact rj (.tmp t) _ (.tmp u) s.m
  |box k=>exact rj (.tmp t) _ (.box k) s.m
 simp only[cl,hg]
 split
 ·rename_i hq
  subst hq hc
  have:s.get (.tmp t)={ (s.get (.tmp t))with v:=.one (.b c) }:=by rw[←h]
  rw[this]
  cases c<;>rfl
 ·rfl
theorem zS (s:aG) (k:Key) (os:List (Option E)) (q:ah) {cs:List E} (h:(s.get (.box k)).v= .agg cs):(s.wr k os).get q=if q= .box k then{ hv:=(s.get (.box k)).hv+1,cv:=(s.get (.box k)).cv,v:=.agg (cI cs os) }else s.get q:=by
 have h':(ef (.box k) s.m).v= .agg cs:=h
 cases q with
 |arg i=>rw[if_neg (by simp)];rfl
 |tmp u=>
  have:=rj (.box k) { hv:=(ef (.box k) s.m).hv+1,cv:=(ef (.box k) s.m).cv,v:=match(ef (.box k) s.m).v with| .agg cs=>.agg (cI cs os)|v=>v } (.tmp u) s.m
  rw[if_neg (by simp)]at this ⊢
  exact this
 |box u=>
  show ef (.box u) (qP (.box k) { hv:=(ef (.box k) s.m).hv+1,cv:=(ef (.box k) s.m).cv,v:=match(ef (.box k) s.m).v with| .agg cs=>.agg (cI cs os)|v=>v } s.m)=_
  rw[rj]
  split
  ·rw[h'];rfl
  ·rfl
theorem azm (s:aG) (k:Key) (os:List (Option E)) {cs:List E} (h:(s.get (.box k)).v= .agg cs):cl (s.wr k os)=(cl s).set (.box k) { hv:=(s.get (.box k)).hv+1,cv:=(s.get (.box k)).cv,v:=.agg (aq (cI cs os)) }:=by
 funext q
 simp only[cl,zS s k os q h,St.set]
 split<;>rfl
theorem apP:∀(old:List E) (off:Nat) (cs:List E),off+cs.length≤old.length→cI old (List.replicate off none++cs.map some)=splice old off cs
 |old,0,cs,h=>by
  have:∀(old cs:List E),cs.length≤old.length→cI old (cs.map some)=cs++old.drop cs.length:=by
   intro old cs
   induction cs generalizing old with
   |nil=>intro _;cases old<;>simp[cI]
   |cons c cs ih=>
    intro h
    cases old with
    |nil=>simp at h
    |cons o old=>simp only[List.map_cons,cI,List.cons_append,List.length_cons,List.drop_succ_cons,ih old (by simpa using h)]
  simpa[splice]using this old cs (by simpa using h)
 | [],off+1,cs,h=>by simp at h
 |o :: old,off+1,cs,h=>by
  have ih:=apP old off cs (by simp only[List.length_cons]at h;omega)
  simp only[List.replicate_succ,List.cons_append,cI,ih]
  simp only[splice,List.take_succ_cons,List.cons_append]
  rw[show off+1+cs.length=(off+cs.length)+1 by omega,List.drop_succ_cons]
def af {α β:Type} (s:aG) (p:PE α) (f:α→β) (q:Prog β):Prop:=
 (p.both s).box fun x=>∃fr fw,q.both (cl s)=some (f x.1,cl x.2.1,fr,fw)∧(∀r∈fr,r∈x.2.2.1)∧∀r∈fw,r∈x.2.2.2
theorem gF {α β:Type} (p:PE α) (k:α→PE β):∀s,(p.bind k).both s=(p.both s).bind fun x=>((k x.1).both x.2.1).map fun y=>(y.1,y.2.1,x.2.2.1++y.2.2.1,x.2.2.2++y.2.2.2):=by
 have hmap:∀{γ δ ε:Type} (t:Tr γ) (f:γ→δ) (g:δ→Tr ε),(t.map f).bind g=t.bind fun a=>g (f a):=by
  intro γ δ ε t f g
  induction t with
  |leaf a=>rfl
  |fail=>rfl
  |br c t e cS cT=>simp only[Tr.map,Tr.bind,cS,cT]
  |call d o k ih=>simp only[Tr.map,Tr.bind,ih]
  |sum o k k' ih cM=>simp only[Tr.map,Tr.bind,ih,cM]
 have hmb:∀{γ δ ε:Type} (t:Tr γ) (f:γ→Tr δ) (g:δ→ε),(t.bind f).map g=t.bind fun a=>(f a).map g:=by
  intro γ δ ε t f g
  induction t with
  |leaf a=>rfl
  |fail=>rfl
  |br c t e cS cT=>simp only[Tr.map,Tr.bind,cS,cT]
  |call d o k ih=>simp only[Tr.map,Tr.bind,ih]
  |sum o k k' ih cM=>simp only[Tr.map,Tr.bind,ih,cM]
 have hmm:∀{γ δ ε:Type} (t:Tr γ) (f:γ→δ) (g:δ→ε),(t.map f).map g=t.map fun a=>g (f a):=by
  intro γ δ ε t f g
  induction t with
  |leaf a=>rfl
  |fail=>rfl
  |br c t e cS cT=>simp only[Tr.map,cS,cT]
  |call d o k ih=>simp only[Tr.map,ih]
  |sum o k k' ih cM=>simp only[Tr.map,ih,cM]
 have hid:∀{γ:Type} (t:Tr γ),t.map (fun a=>a)=t:=by
  intro γ t
  induction t with
  |leaf a=>rfl
  |fail=>rfl
  |br c t e cS cT=>simp only[Tr.map,cS,cT]
  |call d o k ih=>simp only[Tr.map,ih]
  |sum o k k' ih cM=>simp only[Tr.map,ih,cM]
 induction p with
 |ret a=>intro s;simp only[PE.bind,PE.both,Tr.bind,List.nil_append];exact(hid _).symm
 |fail=>intro s;rfl
 |br c p q ihp ihq=>intro s;simp only[PE.bind,PE.both,Tr.bind,ihp,ihq]
 |call d o k ih=>intro s;simp only[PE.bind,PE.both,Tr.bind,ih]
 |get r k ih=>intro s;simp only[PE.bind,PE.both,ih,hmap,hmb,hmm,List.cons_append]
 |put r x k ih=>intro s;simp only[PE.bind,PE.both];cases tE r x<;>simp only[ih,hmap,hmb,hmm,List.cons_append,Tr.bind]
 |aB i j k ih=>intro s;simp only[PE.bind,PE.both,ih,hmap,hmb,hmm,List.cons_append]
 |know r b k ih=>intro s;simp only[PE.bind,PE.both,ih]
 |wr q os k ih=>intro s;simp only[PE.bind,PE.both,ih,hmap,hmb,hmm,List.cons_append]
theorem aih {α β:Type} (p:Prog α) (k:α→Prog β):∀s,(p.bind k).both s=match p.both s with
  |some (a,s',f,g)=>match(k a).both s' with
   |some (b,s'',f',g')=>some (b,s'',f++f',g++g')
   |none=>none
  |none=>none:=by
 induction p with
 |ret a=>intro s;simp only[Prog.bind,Prog.both,List.nil_append];cases(k a).both s<;>rfl
 |fail=>intro s;rfl
 |get r k' ih=>
  intro s
  simp only[Prog.bind,Prog.both,ih]
  cases(k' (s r)).both s with
  |none=>rfl
  |some x=>simp only;cases(k x.1).both x.2.1<;>rfl
 |put r x p ih=>
  intro s
  simp only[Prog.bind,Prog.both,ih]
  cases p.both (s.set r x)with
  |none=>rfl
  |some x=>simp only;cases(k x.1).both x.2.1<;>rfl
section
variable {α β γ δ:Type} {s:aG}
theorem af.ret {a:α} {f:α→β} {b:β} (h:b=f a):af s (.ret a) f (.ret b):=by subst h;exact⟨[],[],rfl,by simp,by simp⟩
theorem af.fail {f:α→β} {q:Prog β}:af s .fail f q:=trivial
theorem af.apQ {p:PE α} {f:α→β} {q:Prog β} {k:α→PE γ} {g:γ→δ} {k':β→Prog δ} {R:α→aG→Prop} (h:af s p f q) (hR:(p.both s).box fun x=>R x.1 x.2.1) (hk:∀a s',R a s'→af s' (k a) g (k' (f a))):af s (p.bind k) g (q.bind k'):=by
 unfold af at h hk ⊢
 rw[gF,Tr.qZ]
 refine Tr.kM ?_ (Tr.apG h hR)
 rintro ⟨a,s',f1,g1⟩ ⟨⟨fr,fw,hx,i1,i2⟩,hr⟩
 rw[Tr.nZ]
 refine Tr.kM ?_ (hk a s' hr)
 rintro ⟨b,s'',f2,g2⟩ ⟨fr',fw',hy,i3,i4⟩
 simp only at hx hy i1 i2 i3 i4 ⊢
 refine⟨fr++fr',fw++fw',?_,?_,?_⟩
 ·rw[aih,hx]
  simp only[hy]
 ·intro r hr
  rcases List.mem_append.1 hr with h|h
  ·exact List.mem_append_left _ (i1 r h)
  ·exact List.mem_append_right _ (i3 r h)
 ·intro r hr
  rcases List.mem_append.1 hr with h|h
  ·exact List.mem_append_left _ (i2 r h)
  ·exact List.mem_append_right _ (i4 r h)
theorem af.bind {p:PE α} {f:α→β} {q:Prog β} {k:α→PE γ} {g:γ→δ} {k':β→Prog δ} (h:af s p f q) (hk:∀a s',af s' (k a) g (k' (f a))):af s (p.bind k) g (q.bind k'):=
 af.apQ (R:=fun _ _=>True) h (Tr.ri (Tr.wF _)) fun a s' _=>hk a s'
theorem af.get {r:ah} {k:cx→PE α} {f:α→β} {k':RV→Prog β} (h:af s (k (s.get r)) f (k' (bJ (s.get r)))):af s (.get r k) f (.get r k'):=by
 unfold af at h ⊢
 simp only[PE.both,Tr.nZ]
 refine Tr.kM ?_ h
 rintro ⟨a,s',f1,g1⟩ ⟨fr,fw,hx,i1,i2⟩
 simp only at hx i1 i2 ⊢
 refine⟨r :: fr,fw,?_,fun q hq=>?_,i2⟩
 ·simp only[Prog.both]
  show(match(k' (bJ (s.get r))).both (cl s)with|some (a,s',f,g)=>some (a,s',r :: f,g)|none=>none)=_
  rw[hx]
 ·rcases List.mem_cons.1 hq with h|h
  ·exact h ▸ List.mem_cons_self
  ·exact List.mem_cons_of_mem _ (i1 q h)
theorem af.look {r:ah} {k:cx→PE α} {f:α→β} {q:Prog β} (h:af s (k (s.get r)) f q):af s (.get r k) f q:=by
 unfold af at h ⊢
 simp only[PE.both,Tr.nZ]
 refine Tr.kM ?_ h
 rintro ⟨a,s',f1,g1⟩ ⟨fr,fw,hx,i1,i2⟩
 exact⟨fr,fw,hx,fun q hq=>List.mem_cons_of_mem _ (i1 q hq),i2⟩
theorem af.put {r:ah} {x:cx} {y:RV} {p:PE α} {f:α→β} {q:Prog β} (hr:r.isArg=false) (hy:y=bJ x) (h:af (s.put r x) p f q):af s (.put r x p) f (.put r y q):=by
 subst hy
 unfold af at h ⊢
 simp only[PE.both]
 cases tE r x with
 |false=>trivial
 |true=>
 simp only
 rw[Tr.nZ]
 refine Tr.kM ?_ h
 rintro ⟨a,s',f1,g1⟩ ⟨fr,fw,hx,i1,i2⟩
 simp only at hx i1 i2 ⊢
 refine⟨fr,r :: fw,?_,i1,fun q hq=>?_⟩
 ·simp only[Prog.both]
  rw[←wI s x hr,hx]
 ·rcases List.mem_cons.1 hq with h|h
  ·exact h ▸ List.mem_cons_self
  ·exact List.mem_cons_of_mem _ (i2 q h)
theorem af.apR {r:ah} {x:cx} {p:PE α} {f:α→β} {q:Prog β} (hr:r.isArg=false) (hx:bJ x=bJ (s.get r)) (h:af (s.put r x) p f q):af s (.put r x p) f q:=by
 have e:cl (s.put r x)=cl s:=by
  rw[wI s x hr,hx]
  funext y
  by_cases hy:y=r
  ·subst hy;simp[St.set,cl]
  ·simp[St.set,hy]
 unfold af at h ⊢
 simp only[PE.both]
 cases tE r x with
 |false=>trivial
 |true=>
 simp only
 rw[Tr.nZ]
 refine Tr.kM ?_ h
 rintro ⟨a,s',f1,g1⟩ ⟨fr,fw,hx,i1,i2⟩
 rw[e]at hx
 exact⟨fr,fw,hx,i1,fun q hq=>List.mem_cons_of_mem _ (i2 q hq)⟩
theorem af.wr {k:Key} {os:List (Option E)} {y:RV} {p:PE α} {f:α→β} {q:Prog β} {cs:List E} (h:(s.get (.box k)).v= .agg cs) (hy:y={ hv:=(s.get (.box k)).hv+1,cv:=(s.get (.box k)).cv,v:=.agg (aq (cI cs os)) }) (hp:af (s.wr k os) p f q):af s (.wr k os p) f (.put (.box k) y q):=by
 subst hy
 unfold af at hp ⊢
 simp only[PE.both,Tr.nZ]
 refine Tr.kM ?_ hp
 rintro ⟨a,s',f1,g1⟩ ⟨fr,fw,hx,i1,i2⟩
 simp only at hx i1 i2 ⊢
 refine⟨fr,.box k :: fw,?_,i1,fun q hq=>?_⟩
 ·simp only[Prog.both]
  rw[←azm s k os h,hx]
 ·rcases List.mem_cons.1 hq with h|h
  ·exact h ▸ List.mem_cons_self
  ·exact List.mem_cons_of_mem _ (i2 q h)
theorem af.ad7 {i:Nat} {x:cx} {p:PE α} {f:α→β} {q:Prog β}:af s (.put (.arg i) x p) f q:=trivial
theorem af.br {c:Bool} {p p':PE α} {f:α→β} {q:Prog β} (h:c=true→af s p f q) (h':c=false→af s p' f q):af s (.br c p p') f q:=⟨h,h'⟩
theorem af.call {ρ:Type} {d:ρ} {o:Option ρ} {k:ρ→PE α} {f:α→β} {q:Prog β} (h:∀x,o=some x→af s (k x) f q):af s (.call d o k) f q:=h
theorem af.know {t:Nat} {b c:Bool} {p:PE α} {f:α→β} {q:Prog β} (h:(s.get (.tmp t)).v= .one (.b c)) (hc:c=b) (hp:af (s.know (.tmp t) b) p f q):af s (.know (.tmp t) b p) f q:=by
 unfold af at hp ⊢
 rw[azl s h hc]at hp
 exact hp
theorem af.ask {c:Bool} {k:Unit→PE α} {f:α→β} {q:Prog β} (h:c=true→af s (k ()) f q):af s ((Ve.ask c).bind k) f q:=⟨h,fun _=>trivial⟩
theorem af.sure {c:Bool} {k:Unit→PE α} {f:α→β} {q:Prog β} (h:c=true→af s (k ()) f q):af s ((Ve.sure c).bind k) f q:=by
 cases c with
 |true=>exact h rfl
 |false=>trivial
theorem af.comp {p:PE α} {f:α→β} {q:Prog β} {g:β→γ} (h:af s p f q):af s p (fun a=>g (f a)) (q.bind fun b=>.ret (g b)):=by
 unfold af at h ⊢
 refine Tr.kM ?_ h
 rintro ⟨a,s',f1,g1⟩ ⟨fr,fw,hx,i1,i2⟩
 simp only at hx ⊢
 exact⟨fr,fw,by rw[aih,hx];simp[Prog.both],i1,i2⟩
theorem af.rm {p:PE α} {f:α→β} {q q':Prog β} (h:af s p f q') (e:q=q'):af s p f q:=by rw[e];exact h
theorem bt {α:Type} {p:Prop} [Decidable p] (h:p) (k:Unit→Prog α):(need p).bind k=k ():=by simp[need,h,Prog.bind]
theorem aH0 {p:Prop} [Decidable p] (h:p):need p= .ret ():=by simp[need,h]
end
theorem bind_eq {α β:Type} (p:Prog α) (f:α→Prog β):(p >>= f)=p.bind f:=rfl
theorem aL {α β:Type} (p:PE α) (k:α→PE β):(p >>= k)=p.bind k:=rfl
theorem apS {α β:Type} (x:α) (k:α→PE β):(PE.ret x).bind k=k x:=rfl
theorem dV (o:Operand) (s:aG):af s (dy o) ai (ev o):=by
 cases o with
 |tmp t=>
  simp only[dy,ev]
  refine af.get ?_
  have hc:=copy_eq (s.get (.tmp t)) (.tmp t)
  cases hv:(s.get (.tmp t)).v with
  |undef=>exact af.fail
  |_=>simp only[bJ,hv,ai]at hc ⊢;exact af.ret hc.symm
 |const v=>
  by_cases zc:∃cs,v= .agg cs
  ·obtain⟨cs,rfl⟩:=zc
   simp only[dy,ev]
   cases hr:zx cs.toList with
   |none=>exact af.fail
   |some es=>obtain⟨ds,h1,h2⟩:=apO hr;simp only[h1];exact af.ret (by simp only[ai,h2])
  ·have e1:dy (.const v)=match we v with|some d=>PE.ret (aj.one d)|none=>.fail:=by cases v<;>first|rfl|exact absurd ⟨_,rfl⟩ zc
   have e2:ev (.const v)=match reflect v with|some d=>Prog.ret (SV.one (.d d))|none=>.fail:=by cases v<;>first|rfl|exact absurd ⟨_,rfl⟩ zc
   rw[e1,e2]
   cases hr:we v with
   |none=>exact af.fail
   |some e=>obtain⟨d,h1,h2⟩:=apN hr;simp only[h1];exact af.ret (by simp only[ai,h2])
 |func f=>exact af.ret rfl
 |global g=>exact af.fail
theorem zT:∀(os:List Operand) (s:aG),af s (tG os) (List.map ai) (nC os)
 | [],s=>af.ret rfl
 |o :: os,s=>by
  simp only[tG,nC,aL,bind_eq]
  exact af.bind (dV o s) fun v s1=>af.bind (zT os s1) fun vs s2=>af.ret rfl
theorem azp (v:aj) (s:aG):af s (ahC v) cE (ym (ai v)):=by
 cases v<;>first|exact af.ret rfl|exact af.fail
theorem ek (o:Operand) (s:aG):af s (eg o) cE (dw o):=by
 simp only[eg,dw,aL,bind_eq]
 exact af.bind (dV o s) fun v s1=>azp v s1
theorem pH (c:E) (s:aG):af s (qR c) (fun n=>n) (kZ (cE c)):=by
 cases c<;>first|exact af.ret rfl|exact af.fail
theorem azq (s:aG) (i j:Nat) {t:Ty} {ys:List t.T} (h:(s.get (.arg i)).at j= .l .own t ys):
  cl { s with aB:=s.aB++[(i,j)],bC:=(.arg i,none) :: s.bC }=(cl s).set (.arg i) { (bJ (s.get (.arg i)))with v:=(bJ (s.get (.arg i))).v.setCell j (.d (.sl t.e (ys.map (aA t)))) }:=by
 have azr:∀(l:List (Nat×Nat)) (args:List aj),fF (l++[(i,j)]) args=iG (fF l args) i (qO ((fF l args).getD i .undef) j):=by
  intro l
  induction l with
  |nil=>intro args;rfl
  |cons p l ih=>intro args;obtain⟨a,b⟩:=p;simp only[List.cons_append,fF];exact ih _
 generalize hA:fF s.aB s.args=A at *
 have eP:∀q,(s.get (.arg q)).v=A.getD q .undef:=fun q=>by rw[←hA];rfl
 have bB:(A.getD i .undef).cells.getD j .dead= .l .own t ys:=by rw[←eP];exact h
 have tn:qO (A.getD i .undef) j=(A.getD i .undef).setCell j (.l .data t ys):=by
  unfold qO;rw[bB]
 funext q
 cases q with
 |tmp t=>rw[jE _ _ (by simp)];rfl
 |box k=>rw[jE _ _ (by simp)];rfl
 |arg q=>
  show bJ { v:=(fF (s.aB++[(i,j)]) s.args).getD q .undef }=_
  rw[azr,hA]
  have hi:i<A.length:=by
   by_cases hi:i<A.length
   ·exact hi
   ·have e:A.getD i .undef= .undef:=by rw[List.getD_eq_getElem?_getD,List.getElem?_eq_none (by omega)];rfl
    rw[e]at bB
    simp[aj.cells]at bB
  rw[oa]
  by_cases hq:q=i
  ·subst hq
   rw[jD]
   simp only[bJ,List.getD_eq_getElem?_getD,List.getElem?_set_self hi,Option.getD_some]
   rw[←List.getD_eq_getElem?_getD,tn,setCell_eq,eP]
   rfl
  ·rw[jE _ _ (by simpa using hq)]
   simp only[List.getD_eq_getElem?_getD,List.getElem?_set_ne (Ne.symm hq)]
   show bJ _=bJ (s.get (.arg q))
   congr 1
   show _=({ v:=(fF s.aB s.args).getD q .undef }:cx)
   rw[hA,List.getD_eq_getElem?_getD]
theorem apT (r:ah) (j:Nat) (s:aG):af s (tH r j (s.get r)) (fun _=>()) (ld r j (bJ (s.get r))):=by
 unfold tH ld
 rw[gP]
 cases hc:(s.get r).at j with
 |l m t xs=>
  cases m with
  |data=>exact af.ret rfl
  |aD=>exact af.fail
  |own=>
   cases r with
   |arg i=>
    unfold af
    refine⟨[],[.arg i],?_,by simp,by simp⟩
    show(cY (.arg i) _).both (cl s)=some ((),cl { s with aB:=s.aB++[(i,j)],bC:=(.arg i,none) :: s.bC },[],[.arg i])
    rw[azq s i j hc]
    rfl
   |_=>exact af.put rfl (by simp only[bJ,setCell_eq];rfl) (af.ret rfl)
 |n m t o=>
  cases m with
  |data=>refine af.call fun x hx=>?_;subst hx;exact af.ret rfl
  |aD=>exact af.fail
  |own=>
   cases r with
   |arg i=>exact af.fail
   |_=>
    refine af.call fun ys hx=>?_
    subst hx
    exact af.put rfl (by simp only[bJ,setCell_eq];rfl) (af.ret rfl)
 |_=>exact af.fail
theorem apU (r:ah) (j:Nat) (s:aG):af s (nT r j (s.get r)) (fun _=>()) (mg r j (bJ (s.get r))):=by
 unfold nT mg
 rw[gP]
 cases hc:(s.get r).at j with
 |l m t xs=>
  cases m with
  |own=>
   cases r with
   |arg i=>exact af.ad7
   |_=>exact af.put rfl (by simp only[bJ,setCell_eq];rfl) (af.ret rfl)
  |_=>exact af.fail
 |n m t o=>
  cases m with
  |own=>
   refine af.call fun ys hx=>?_
   subst hx
   cases r with
   |arg i=>exact af.ad7
   |_=>exact af.put rfl (by simp only[bJ,setCell_eq];rfl) (af.ret rfl)
  |_=>exact af.fail
 |_=>exact af.fail
theorem apV {x:cx} {j:Nat} {c:E} (h:cE (x.at j)=cE c) (hd:cE c≠ .dead):bJ { x with v:=x.v.setCell j c }=bJ x:=by
 have h2:(ai x.v).cells.getD j .dead=cE c:=by rw[←h];exact gP x j
 have hj:j<(ai x.v).cells.length:=by
  rcases Nat.lt_or_ge j (ai x.v).cells.length with hj|hj
  ·exact hj
  ·rw[List.getD_eq_getElem?_getD,List.getElem?_eq_none hj]at h2
   exact absurd h2.symm hd
 show({ hv:=x.hv,cv:=x.cv,v:=ai (x.v.setCell j c) }:RV)={ hv:=x.hv,cv:=x.cv,v:=ai x.v }
 rw[setCell_eq,←h2,apK _ _ hj]
theorem isSome_none {α:Type} {o:Option α} (h:(false==o.isSome)=true):o=none:=by cases o<;>first|rfl|cases h
theorem isSome_some {α:Type} {o:Option α} (h:(true==o.isSome)=true):∃x,o=some x:=by
 cases o with
 |none=>cases h
 |some x=>exact⟨x,rfl⟩
theorem apW (r:ah) (j:Nat) (s:aG):af s (pg r j (s.get r) true) (fun _=>()) (ld r j (bJ (s.get r))):=by
 unfold pg ld
 rw[gP]
 cases hc:(s.get r).at j with
 |n m t o=>
  cases m with
  |data=>refine af.br (fun h=>?_) fun _=>af.fail;obtain⟨x,rfl⟩:=isSome_some h;exact af.ret rfl
  |aD=>exact af.fail
  |own=>
   cases r with
   |arg i=>exact af.fail
   |_=>
    refine af.br (fun h=>?_) fun _=>af.fail
    obtain⟨x,rfl⟩:=isSome_some h
    exact af.put rfl (by simp only[bJ,setCell_eq];rfl) (af.ret rfl)
 |_=>exact af.fail
theorem apX (r:ah) (j:Nat) (s:aG):af s (pg r j (s.get r) false) (fun _=>()) (Prog.ret ()):=by
 unfold pg
 cases hc:(s.get r).at j with
 |n m t o=>
  cases m with
  |data=>exact af.br (fun _=>af.ret rfl) fun _=>af.fail
  |aD=>exact af.fail
  |own=>
   cases r with
   |arg i=>exact af.fail
   |_=>
    refine af.br (fun h=>?_) fun _=>af.fail
    have:=isSome_none h
    subst this
    exact af.apR rfl (apV (by rw[hc];rfl) (by simp[cE])) (af.ret rfl)
 |_=>exact af.fail
theorem apY (r:ah) (j:Nat) (s:aG):af s (mP r j (s.get r) true) (fun _=>()) (mg r j (bJ (s.get r))):=by
 unfold mP mg
 rw[gP]
 cases hc:(s.get r).at j with
 |n m t o=>
  cases m with
  |own=>
   refine af.br (fun h=>?_) fun _=>af.fail
   obtain⟨x,rfl⟩:=isSome_some h
   cases r with
   |arg i=>exact af.ad7
   |_=>exact af.put rfl (by simp only[bJ,setCell_eq];rfl) (af.ret rfl)
  |_=>exact af.fail
 |_=>exact af.fail
theorem apZ (r:ah) (j:Nat) (s:aG):af s (mP r j (s.get r) false) (fun _=>()) (Prog.ret ()):=by
 unfold mP
 cases hc:(s.get r).at j with
 |n m t o=>
  cases m with
  |own=>
   refine af.br (fun h=>?_) fun _=>af.fail
   have:=isSome_none h
   subst this
   cases r with
   |arg i=>exact af.ad7
   |_=>exact af.apR rfl (apV (by rw[hc];rfl) (by simp[cE])) (af.ret rfl)
  |_=>exact af.fail
 |_=>exact af.fail
theorem rq {α β:Type} {j:Nat} {x:cx} {b:Bool} {s:aG} {k:Unit→PE α} {f:α→β} {q:Prog β} (h:(∃t o,(x.at j= .n .own t o∨x.at j= .n .data t o)∧b=o.isSome)→af s (k ()) f q):af s ((wh j x b).bind k) f q:=by
 have key:∀(t:Ty) (o:Option (List t.T)),(x.at j= .n .own t o∨x.at j= .n .data t o)→af s ((PE.br (b==o.isSome) (.ret ()) .fail).bind k) f q:=by
  intro t o hx
  exact af.br (fun hb=>h ⟨t,o,hx,by simpa using hb⟩) fun _=>trivial
 unfold wh
 cases hc:x.at j with
 |n m t o=>
  cases m with
  |aD=>exact af.fail
  |own=>exact key t o (.inl hc)
  |data=>exact key t o (.inr hc)
 |_=>exact af.fail
theorem azs {α β:Type} {c:E} {s:aG} {k:E→PE α} {f:α→β} {q:Prog β} (h:∀c',cE c'=cE c→af s (k c') f q):af s ((apC c).bind k) f q:=by
 cases c with
 |n m t o=>
  cases m with
  |aD r j hv cv i=>
   cases r with
   |arg a=>
    refine af.br (fun ho=>?_) fun ho=>?_
    ·exact h _ (aie _ t o ho).symm
    ·have:o=none:=by cases o<;>first|rfl|cases ho
     subst this
     exact h .nil rfl
   |_=>exact h _ rfl
  |_=>exact h _ rfl
 |_=>exact h _ rfl
theorem azt {α β:Type} {c:E} {s:aG} {k:E→PE α} {f:α→β} {q:Prog β} (h:∀c',cE c'=cE c→(∀m t o,c'≠ .n m t o)→af s (k c') f q):af s ((resolve c).bind k) f q:=by
 cases c with
 |n m t o=>
  refine af.br (fun ho=>?_) fun ho=>?_
  ·exact h _ (aie m t o ho).symm (by intro m t o h;cases h)
  ·have:o=none:=by cases o<;>first|rfl|cases ho
   subst this
   exact h .nil rfl (by intro m t o h;cases h)
 |_=>exact h _ rfl (by intro m t o h;cases h)
theorem aH1 {α β:Type} {c:E} {s:aG} {k:E→PE α} {f:α→β} {q:Prog β} (h:∀c',cE c'=cE c→(∀r j hv cv i t o,c'≠ .n (.aD r j hv cv i) t o)→af s (k c') f q):af s ((azi c).bind k) f q:=by
 cases c with
 |n m t o=>
  cases m with
  |aD r j hv cv i=>
   refine af.br (fun ho=>?_) fun ho=>?_
   ·exact h _ (aie _ t o ho).symm (by intro r j hv cv i t o h;cases h)
   ·have:o=none:=by cases o<;>first|rfl|cases ho
    subst this
    exact h .nil rfl (by intro r j hv cv i t o h;cases h)
  |_=>exact h _ rfl (by intro r j hv cv i t o h;cases h)
 |_=>exact h _ rfl (by intro r j hv cv i t o h;cases h)
end Go.Ve
namespace Go.Ve
open Go.Vs
theorem ad8 (self:Option (ah×Nat)) (r:ah) (j:Nat) (b:Bool):(lR self r j||b)=true↔(self=some (r,j)∨b=true):=by
 cases self with
 |none=>simp[lR]
 |some p=>obtain⟨q,i⟩:=p;simp[lR,kO]
theorem azu {α β:Type} {r:ah} {j:Nat} {s:aG} {t:Ty} (h:(s.get r).at j= .n .own t none) {k:Unit→PE α} {f:α→β} {q:Prog β}:af s ((nT r j (s.get r)).bind k) f q:=by
 unfold nT
 rw[h]
 exact af.call fun x hx=>by cases hx
theorem azv {α β:Type} {r:ah} {j:Nat} {s:aG} {t:Ty} (h:(s.get r).at j= .n .own t none) {k:Unit→PE α} {f:α→β} {q:Prog β}:af s ((tH r j (s.get r)).bind k) f q:=by
 unfold tH
 rw[h]
 cases r with
 |arg i=>exact af.fail
 |_=>exact af.call fun x hx=>by cases hx
theorem azw (self:Option (ah×Nat)) (take:ah→Bool) (c:E) (s:aG):af s (zy self take c) cE (j9 self take (cE c)):=by
 cases c with
 |l m t xs=>
  cases m with
  |aD r j hv cv k=>
   simp only[zy,j9,cE,lC]
   cases hr:r.isArg with
   |true=>simp only[if_true];exact af.ret rfl
   |false=>
    simp only[Bool.false_eq_true,if_false]
    refine af.get ?_
    simp only[aL,bind_eq]
    refine af.sure fun hs=>?_
    simp only[Bool.and_eq_true,beq_iff_eq]at hs
    rw[bt (p:=(bJ (s.get r)).hv=hv∧(bJ (s.get r)).cv=cv) hs]
    rw[gP]
    have body:∀(e0:Nat) (ys0:List (List D)),af s (match lR self r j||take r with
       |true=>(nT r j (s.get r)).bind fun _=>PE.ret (E.l .own t xs)
       |false=>(tH r j (s.get r)).bind fun _=>PE.ret (E.l .data t xs)) cE
      (if self=some (r,j)∨take r=true then(mg r j (bJ (s.get r))).bind fun _=>Prog.ret (C.own t.e (xs.map (aA t)))
        else(ld r j (bJ (s.get r))).bind fun _=>Prog.ret (C.d (D.sl t.e (xs.map (aA t))))):=by
     intro _ _
     cases hb:lR self r j||take r with
     |true=>
      rw[if_pos ((ad8 self r j (take r)).1 hb)]
      exact af.bind (apU r j s) fun _ _=>af.ret rfl
     |false=>
      rw[if_neg (fun h=>by rw[(ad8 self r j (take r)).2 h]at hb;cases hb)]
      exact af.bind (apT r j s) fun _ _=>af.ret rfl
    cases ha:(s.get r).at j with
    |l m' t' ys=>
     cases m' with
     |own=>exact body 0 []
     |data=>exact af.ret rfl
     |aD=>exact af.fail
    |n m' t' o=>
     cases m' with
     |own=>
      cases o with
      |none=>
       simp only
       cases hb:lR self r j||take r with
       |true=>exact azu ha
       |false=>exact azv ha
      |some ys=>exact body 0 []
     |data=>exact af.call fun x hx=>by subst hx;exact af.ret rfl
     |aD=>exact af.fail
    |_=>exact af.fail
  |_=>exact af.ret rfl
 |n m t o=>
  cases m with
  |aD r j hv cv k=>
   cases o with
   |none=>
    simp only[zy]
    cases hr:r.isArg with
    |true=>exact af.ret rfl
    |false=>
     refine af.look ?_
     simp only[aL]
     refine af.sure fun hs=>?_
     cases ha:(s.get r).at j with
     |n m' t' o'=>
      cases m' with
      |own=>
       simp only
       cases hb:lR self r j||take r with
       |true=>exact af.bind (k':=fun _=>Prog.ret (C.d .nil)) (q:=Prog.ret ()) (f:=fun _=>()) (k:=fun _=>PE.ret (E.n .own t none)) (apZ r j s) fun _ _=>af.ret rfl
       |false=>exact af.bind (k':=fun _=>Prog.ret (C.d .nil)) (q:=Prog.ret ()) (f:=fun _=>()) (k:=fun _=>PE.ret (E.n .data t none)) (apX r j s) fun _ _=>af.ret rfl
      |data=>exact rq fun _=>af.ret rfl
      |aD=>exact af.fail
     |_=>exact af.fail
   |some xs=>
    simp only[zy,j9,cE,lC]
    cases hr:r.isArg with
    |true=>simp only[if_true];exact af.ret rfl
    |false=>
     simp only[Bool.false_eq_true,if_false]
     refine af.get ?_
     simp only[aL,bind_eq]
     refine af.sure fun hs=>?_
     simp only[Bool.and_eq_true,beq_iff_eq]at hs
     rw[bt (p:=(bJ (s.get r)).hv=hv∧(bJ (s.get r)).cv=cv) hs]
     rw[gP]
     have body:af s (match lR self r j||take r with
        |true=>(mP r j (s.get r) true).bind fun _=>PE.ret (E.n .own t (some xs))
        |false=>(pg r j (s.get r) true).bind fun _=>PE.ret (E.n .data t (some xs))) cE
       (if self=some (r,j)∨take r=true then(mg r j (bJ (s.get r))).bind fun _=>Prog.ret (C.own t.e (xs.map (aA t)))
         else(ld r j (bJ (s.get r))).bind fun _=>Prog.ret (C.d (D.sl t.e (xs.map (aA t))))):=by
      cases hb:lR self r j||take r with
      |true=>
       rw[if_pos ((ad8 self r j (take r)).1 hb)]
       exact af.bind (apY r j s) fun _ _=>af.ret rfl
      |false=>
       rw[if_neg (fun h=>by rw[(ad8 self r j (take r)).2 h]at hb;cases hb)]
       exact af.bind (apW r j s) fun _ _=>af.ret rfl
     cases ha:(s.get r).at j with
     |n m' t' o'=>
      cases m' with
      |own=>
       cases o' with
       |none=>
        simp only
        have no:∀(x:cx),x.at j= .n .own t' none→∀{k:Unit→PE E} {q:Prog C},af s ((mP r j x true).bind k) cE q∧af s ((pg r j x true).bind k) cE q:=by
         intro x hx k q
         constructor
         ·unfold mP;rw[hx];exact af.br (fun h=>by cases h) fun _=>trivial
         ·unfold pg;rw[hx];cases r with
          |arg i=>exact af.fail
          |_=>exact af.br (fun h=>by cases h) fun _=>trivial
        cases hb:lR self r j||take r with
        |true=>exact(no _ ha).1
        |false=>exact(no _ ha).2
       |some ys=>exact body
      |data=>
       refine rq fun⟨t2,o2,h1,h2⟩=>?_
       rw[ha]at h1
       cases o' with
       |none=>(rcases h1 with h1|h1<;>cases h1);cases h2
       |some ys=>exact af.ret rfl
      |aD=>exact af.fail
     |_=>exact af.fail
  |_=>cases o<;>exact af.ret rfl
 |dead=>exact af.fail
 |gone b=>exact af.fail
 |it m t xs sn=>cases m<;>first|exact af.ret rfl|exact af.fail
 |_=>exact af.ret rfl
theorem zU (self:Option (ah×Nat)) (take:ah→Bool) (c:E) (s:aG):af s (zA self take c) cE (j9 self take (cE c)):=by
 exact azw self take c s
theorem zV (mk:Nat→ah×Nat) (take:ah→Bool):∀(cs:List E) (i:Nat) (s:aG),af s (qT mk take i cs) aq (lf mk take i (aq cs))
 | [],i,s=>af.ret rfl
 |c :: cs,i,s=>by
  show af s (qT mk take i (c :: cs)) aq (lf mk take i (cE c :: aq cs))
  simp only[qT,lf,aL,bind_eq]
  exact af.bind (zU _ take c s) fun c' s1=>af.bind (zV mk take cs (i+1) s1) fun cs' s2=>af.ret rfl
theorem ap0 (mk:Nat→ah×Nat) (take:ah→Bool):∀(vs:List (Bool×List E)) (i:Nat) (s:aG),af s (zB mk take i vs) dB (sA mk take i (dB vs))
 | [],i,s=>af.ret rfl
 |(b,cs) :: vs,i,s=>by
  show af s (zB mk take i ((b,cs) :: vs)) dB (sA mk take i ((b,aq cs) :: dB vs))
  simp only[zB,sA,aL,bind_eq,kN]
  exact af.bind (zV mk take cs i s) fun c' s1=>af.bind (ap0 mk take vs _ s1) fun cs' s2=>af.ret rfl
theorem ap1 (r:ah) (take:ah→Bool) (v:aj) (s:aG):af s (pn r take v) ai (jG r take (ai v)):=by
 cases v with
 |one c=>
  show af s (pn r take (.one c)) ai (jG r take (.one (cE c)))
  simp only[pn,jG,aL,bind_eq]
  exact af.bind (zU _ take c s) fun c' s1=>af.ret rfl
 |agg cs=>
  show af s (pn r take (.agg cs)) ai (jG r take (.agg (aq cs)))
  simp only[pn,jG,aL,bind_eq]
  exact af.bind (zV _ take cs 0 s) fun c' s1=>af.ret rfl
 |aJ vs=>
  show af s (pn r take (.aJ vs)) ai (jG r take (.aJ (dB vs)))
  simp only[pn,jG,aL,bind_eq]
  exact af.bind (ap0 _ take vs 0 s) fun c' s1=>af.ret rfl
 |undef=>exact af.fail
theorem aii {c:E} (h:kJ c=true):∃d,cE c= .d d:=by
 cases c with
 |l m t xs=>cases m<;>first|exact⟨_,rfl⟩|cases h
 |n m t o=>cases m<;>cases o<;>first|exact⟨_,rfl⟩|cases h
 |_=>first|exact⟨_,rfl⟩|cases h
def wJ:C→D
 | .d x=>x
 |_=>.nil
def mU (c:E):D:=wJ (cE c)
theorem azx (c:E) (s:aG):af s (jS c) mU (jH (cE c)):=by
 have dat:∀{c:E},kJ c=true→jS c=PE.ret c→af s (jS c) mU (jH (cE c)):=by
  intro c hd he
  rw[he]
  obtain⟨d,h⟩:=aii hd
  refine af.rm (af.ret rfl) ?_
  unfold mU
  rw[h]
  rfl
 cases c with
 |l m t xs=>
  cases m with
  |aD r j hv cv k=>
   simp only[jS,jH,cE,lC]
   refine af.get ?_
   simp only[aL,bind_eq]
   refine af.sure fun hs=>?_
   simp only[Bool.and_eq_true,beq_iff_eq]at hs
   rw[bt (p:=(bJ (s.get r)).hv=hv∧(bJ (s.get r)).cv=cv) hs]
   exact af.bind (apT r j s) fun _ _=>af.ret rfl
  |data=>exact dat rfl rfl
  |own=>exact af.fail
 |n m t o=>
  cases m with
  |aD r j hv cv k=>
   cases o with
   |none=>
    simp only[jS]
    refine af.look ?_
    simp only[aL]
    refine af.sure fun hs=>?_
    exact af.bind (k':=fun _=>Prog.ret D.nil) (q:=Prog.ret ()) (f:=fun _=>()) (k:=fun _=>PE.ret (E.n .data t none)) (apX r j s) fun _ _=>af.ret rfl
   |some xs=>
    simp only[jS,jH,cE,lC]
    refine af.get ?_
    simp only[aL,bind_eq]
    refine af.sure fun hs=>?_
    simp only[Bool.and_eq_true,beq_iff_eq]at hs
    rw[bt (p:=(bJ (s.get r)).hv=hv∧(bJ (s.get r)).cv=cv) hs]
    exact af.bind (apW r j s) fun _ _=>af.ret rfl
  |data=>exact dat rfl rfl
  |own=>exact af.fail
 |i=>exact dat rfl rfl
 |b=>exact dat rfl rfl
 |tt=>exact dat rfl rfl
 |ff=>exact dat rfl rfl
 |s=>exact dat rfl rfl
 |nil=>exact dat rfl rfl
 |aK=>exact dat rfl rfl
 |_=>exact af.fail
theorem wK (c:E) (s:aG):af s (nU c) mU (jH (cE c)):=by
 unfold nU
 simp only[aL]
 refine azs fun c' h1=>?_
 rw[←h1]
 exact azx c' s
theorem zW:∀(cs:List E) (s:aG),af s (qU cs) (List.map mU) (lg (aq cs))
 | [],s=>af.ret rfl
 |c :: cs,s=>by
  show af s (qU (c :: cs)) _ (lg (cE c :: aq cs))
  simp only[qU,lg,aL,bind_eq]
  exact af.bind (wK c s) fun c' s1=>af.bind (zW cs s1) fun cs' s2=>af.ret rfl
theorem ad9 {t:Ty} {cs:List E} {x:t.T} (h:iI t cs=some x):(cs.map mU)=aA t x:=by
 have:=ad5 h
 have h2:=congrArg (List.map wJ) this
 simp only[aq,List.map_map]at h2
 have e:(wJ ∘ C.d)=id:=by funext d;rfl
 rw[e,List.map_id]at h2
 exact h2
theorem ru (v:aj):(ai v).dM=v.dM.map aq:=by cases v<;>rfl
theorem aH2 {t t':Ty} (h:t'=t) (xs:List t'.T):(h ▸ xs:List t.T).map (aA t)=xs.map (aA t'):=by subst h;rfl
theorem aH3 {t t':Ty} (h:t'=t) (o:Option (List t'.T)):((h ▸ o:Option (List t.T)).getD []).map (aA t)=(o.getD []).map (aA t'):=by subst h;rfl
theorem azy (t:Ty) (c:E) (s:aG):af s (tI t c) (List.map (aA t)) (elems t.e (cE c)):=by
 cases c with
 |nil=>exact af.ret rfl
 |l m t' xs=>
  cases m with
  |own=>exact af.fail
  |data=>
   simp only[tI,elems,cE,lC,bind_eq]
   split
   ·rename_i h
    subst h
    simp only[aL]
    refine af.sure fun hm=>?_
    rw[bt (by simpa using hm)]
    exact af.ret rfl
   ·exact af.fail
  |aD r j hv cv k=>
   simp only[tI,elems,cE,lC]
   refine af.get ?_
   simp only[bind_eq]
   cases hs:(s.get r).hv==hv&&(s.get r).cv==cv&& !aW t.e with
   |false=>exact af.fail
   |true=>
    simp only[Bool.and_eq_true,beq_iff_eq,Bool.not_eq_true']at hs
    obtain⟨hs,hm⟩:=hs
    have fin:alive (bJ (s.get r)) j=true→af s (if h:t'=t then PE.ret (h ▸ xs)else .fail) (List.map (aA t)) ((need ((bJ (s.get r)).hv=hv∧(bJ (s.get r)).cv=cv∧alive (bJ (s.get r)) j=true∧t'.e=t.e∧aW t'.e=false)).bind fun _=>Prog.ret (xs.map (aA t'))):=by
     intro hal
     split
     ·rename_i h
      subst h
      rw[bt ⟨hs.1,hs.2,hal,rfl,hm⟩]
      exact af.ret rfl
     ·exact af.fail
    cases ha:(s.get r).at j with
    |l m' t2 ys=>
     cases m' with
     |aD=>exact af.fail
     |_=>exact fin (by unfold alive;rw[gP,ha];rfl)
    |n m' t2 o=>
     cases m' with
     |aD=>exact af.fail
     |_=>exact af.call fun x hx=>by subst hx;exact fin (by unfold alive;rw[gP,ha];rfl)
    |_=>exact af.fail
 |n m t' o=>
  cases m with
  |aD r j hv cv k=>
   cases o with
   |none=>
    simp only[tI]
    refine af.look ?_
    cases hs:(s.get r).hv==hv&&(s.get r).cv==cv&& !aW t.e with
    |false=>exact af.fail
    |true=>
     simp only[aL]
     refine rq fun _=>?_
     split
     ·rename_i h
      subst h
      exact af.ret rfl
     ·exact af.fail
   |some xs=>
    simp only[tI,elems,cE,lC]
    refine af.get ?_
    simp only[bind_eq]
    cases hs:(s.get r).hv==hv&&(s.get r).cv==cv&& !aW t.e with
    |false=>exact af.fail
    |true=>
     simp only[Bool.and_eq_true,beq_iff_eq,Bool.not_eq_true']at hs
     obtain⟨hs,hm⟩:=hs
     simp only[aL]
     refine rq fun⟨t2,o2,h1,h2⟩=>?_
     obtain⟨ys,rfl⟩:=isSome_some (o:=o2) (by rw[←h2];rfl)
     have hal:alive (bJ (s.get r)) j=true:=by unfold alive;rw[gP];rcases h1 with h1|h1<;>rw[h1]<;>rfl
     split
     ·rename_i h
      subst h
      rw[bt ⟨hs.1,hs.2,hal,rfl,hm⟩]
      exact af.ret rfl
     ·exact af.fail
  |own=>exact af.fail
  |data=>
   simp only[tI]
   split
   ·rename_i h
    subst h
    simp only[aL]
    refine af.sure fun hm=>?_
    cases o with
    |none=>exact af.ret rfl
    |some xs=>
     show af s _ _ ((need (t'.e=t'.e∧aW t'.e=false)).bind fun _=>.ret (xs.map (aA t')))
     rw[bt ⟨rfl,by simpa using hm⟩]
     exact af.ret rfl
   ·exact af.fail
 |_=>exact af.fail
theorem ap2 (t:Ty) (c:E) (s:aG):af s (ahD t c) (List.map (aA t)) (elems t.e (cE c)):=by
 exact azy t c s
theorem ap3 (op:BinOp) (k:IntKind) (a b:Int) (s:aG):af s (zC op k a b) ai (pW op k a b):=by
 cases op with
 |quo=>
  simp only[zC,pW,aL,bind_eq]
  exact af.ask fun h=>by rw[bt (of_decide_eq_true h)];exact af.ret rfl
 |rem=>
  simp only[zC,pW,aL,bind_eq]
  exact af.ask fun h=>by rw[bt (of_decide_eq_true h)];exact af.ret rfl
 |_=>first|exact af.ret rfl|exact af.fail
theorem azz (op:BinOp) (a b:List UInt8) (s:aG):af s (ahE op a b) ai (yo op a b):=by
 cases op with
 |add=>
  simp only[ahE,yo,aL,bind_eq]
  exact af.ask fun h=>by rw[bt (by have:=of_decide_eq_true h;omega)];exact af.ret rfl
 |_=>first|exact af.ret rfl|exact af.fail
theorem zX {c:E} {b:Bool} (h:qS c=some b):cE c= .d (.bool b):=by
 cases c<;>first|(cases h;rfl)|(cases h;done)
theorem azA (cfg:aP) (t:TypeId) (op:BinOp) (x y:E) (s:aG):af s (ahG cfg t op x y) ai (oH cfg t op (cE x) (cE y)):=by
 unfold ahG
 cases hx:qS x with
 |none=>exact af.fail
 |some a=>
  cases hy:qS y with
  |none=>exact af.fail
  |some b=>
   simp only
   rw[zX hx,zX hy]
   simp only[oH]
   cases hb:ahF cfg t with
   |false=>exact af.fail
   |true=>
    obtain⟨sz,pI,z,bN⟩:∃sz pI z,cfg.ti t=some ⟨sz,pI,.bool,z⟩:=by
     unfold ahF at hb
     split at hb
     ·rename_i sz pI z h;exact⟨sz,pI,z,h⟩
     ·cases hb
    rw[bN]
    cases op<;>first|exact af.ret rfl|exact af.fail
theorem azB {c:E} {b:Bool} (h:adF c=some b):sB (cE c)=some b:=by
 cases c with
 |l m t xs=>cases m<;>exact h
 |n m t o=>
  cases o with
  |none=>
   simp only[adF]at h
   split at h
   ·cases h
   ·exact h
  |some xs=>cases m<;>exact h
 |nil=>exact h
 |_=>cases h
theorem azC (cfg:aP) (t:TypeId) (op:BinOp) (x:E) (s:aG):af s (ahH cfg t op x) ai (oH cfg t op (cE x) (cE .nil)):=by
 unfold ahH
 cases hn:adF x with
 |none=>cases adG cfg t<;>cases op<;>exact af.fail
 |some b=>
  have h1:=azB hn
  have e:oH cfg t op (cE x) (cE .nil)=acj cfg t op (cE x):=by
   show oH cfg t op (cE x) (.d .nil)=_
   cases hc:cE x with
   |d y=>cases y<;>rfl
   |_=>rfl
  rw[e]
  unfold acj
  cases hb:adG cfg t with
  |false=>exact af.fail
  |true=>
   obtain⟨sz,pI,et,z,bN⟩:∃sz pI et z,cfg.ti t=some ⟨sz,pI,.slice et,z⟩:=by
    unfold adG at hb
    split at hb
    ·rename_i sz pI et z h;exact⟨sz,pI,et,z,h⟩
    ·cases hb
   rw[bN,h1]
   cases op<;>first|exact af.ret rfl|exact af.fail
theorem azD (cfg:aP) (t:TypeId) (op:BinOp) (x y:E) (s:aG):af s (ahI cfg t op x y) ai (oH cfg t op (cE x) (cE y)):=by
 unfold ahI
 split
 ·rename_i k a k' b
  simp only[oH,cE]
  split
  ·simp only[aL,bind_eq]
   exact af.ask fun h=>by rw[bt (of_decide_eq_true h)];exact af.ret rfl
  ·simp only[aL,bind_eq]
   exact af.ask fun h=>by rw[bt (of_decide_eq_true h)];exact af.ret rfl
  ·rename_i h1 h2
   split
   ·rename_i h;subst h
    refine af.rm (ap3 _ _ _ _ s) ?_
    cases op<;>first|rfl|exact(h1 rfl).elim|exact(h2 rfl).elim
   ·exact af.fail
 ·exact azz _ _ _ s
 ·exact azC _ _ _ _ s
 ·exact azA cfg t op _ _ s
theorem zY:∀{sh:List Sc} {xs ys:List E} {r:Bool},wj sh xs ys=some r→∃ds es,fH (aq xs)=some ds∧fH (aq ys)=some es∧r=cw ds es∧bD sh ds=true∧bD sh es=true
 |sh,xs,ys,r,h=>by
  unfold wj at h
  split at h
  ·cases h;exact⟨[],[],rfl,rfl,rfl,rfl,rfl⟩
  ·rename_i k tK k1 a xs' k2 b ys'
   split at h
   ·rename_i hk
    obtain⟨rfl,rfl⟩:=hk
    split at h
    ·rename_i r' hr
     cases h
     obtain⟨ds,es,h1,h2,h3,h4,h5⟩:=zY hr
     exact⟨.int k2 a :: ds,.int k2 b :: es,by simp only[aq,List.map_cons,cE,fH]at h1 ⊢;rw[h1],by simp only[aq,List.map_cons,cE,fH]at h2 ⊢;rw[h2],by simp only[cw,gT,h3],by simp[bD,h4],by simp[bD,h5]⟩
    ·cases h
   ·cases h
  ·rename_i tK a xs' b ys'
   split at h
   ·rename_i r' hr
    cases h
    obtain⟨ds,es,h1,h2,h3,h4,h5⟩:=zY hr
    exact⟨.str a :: ds,.str b :: es,by simp only[aq,List.map_cons,cE,fH]at h1 ⊢;rw[h1],by simp only[aq,List.map_cons,cE,fH]at h2 ⊢;rw[h2],by simp only[cw,gT,h3],by simp[bD,h4],by simp[bD,h5]⟩
   ·cases h
  ·rename_i tK x xs' y ys'
   split at h
   ·rename_i a b r' hx hy hr
    cases h
    obtain⟨ds,es,h1,h2,h3,h4,h5⟩:=zY hr
    exact⟨.bool a :: ds,.bool b :: es,by simp only[aq,List.map_cons]at h1 ⊢;rw[zX hx];simp only[fH,h1],by simp only[aq,List.map_cons]at h2 ⊢;rw[zX hy];simp only[fH,h2],by simp only[cw,gT,h3],by simp[bD,h4],by simp[bD,h5]⟩
   ·cases h
  ·cases h
theorem azE (cfg:aP) (t:TypeId) (op:BinOp) (xs ys:List E) (s:aG):af s (ahJ cfg t op xs ys) ai (ack cfg t op (aq xs) (aq ys)):=by
 unfold ahJ ack
 cases lk t cfg.eqs with
 |none=>exact af.fail
 |some sh=>
  simp only
  split
  ·rename_i r h2
   obtain⟨ds,es,g1,g2,g3,g4,g5⟩:=zY h2
   rw[g1,g2,g3]
   simp only[g4,g5,Bool.and_self,if_true]
   exact af.ret rfl
  ·rename_i r h2
   obtain⟨ds,es,g1,g2,g3,g4,g5⟩:=zY h2
   rw[g1,g2,g3]
   simp only[g4,g5,Bool.and_self,if_true]
   exact af.ret rfl
  ·exact af.fail
theorem gY (a b:Nat):aS a b=true↔a<b:=by simp[aS,Nat.ble_eq];omega
theorem azF (cs:List E) (a b:Nat):aq ((cs.drop a).take b)=((aq cs).drop a).take b:=by simp[aq,List.map_take,List.map_drop]
theorem azG {c:E} (h:c≠ .dead) (hg:∀b,c≠ .gone b):cE c≠ .dead:=by
 cases c with
 |gone b=>exact absurd rfl (hg b)
 |l m t xs=>cases m<;>simp[cE,lC]
 |n m t o=>cases m<;>cases o<;>simp[cE,lC]
 |dead=>exact absurd rfl h
 |it m t xs sn=>cases m<;>simp[cE,mC]
 |_=>simp[cE]
theorem zZ (i:TI) (cs:List E) (off:Nat) (s:aG):af s (pq i cs off) ai (jk i (aq cs) off):=by
 unfold pq jk
 simp only[bind_eq]
 split
 ·rename_i h
  simp only[Bool.and_eq_true,gY,Nat.ble_eq]at h
  rw[bt (by simpa using h)]
  split
  ·rename_i ha
   rw[if_pos ha]
   exact af.ret (by simp only[ai,azF])
  ·rename_i ha
   rw[if_neg (by simp[ha])]
   have hg:(aq cs)[off]? =(cs[off]?).map cE:=by simp[aq]
   rw[hg]
   cases hc:cs[off]? with
   |none=>exact af.fail
   |some c=>
    simp only[Option.map_some]
    by_cases hd:c= .dead
    ·subst hd;exact af.fail
    ·by_cases hg:∃b,c= .gone b
     ·obtain⟨b,rfl⟩:=hg;exact af.fail
     have hg:∀b,c≠ .gone b:=fun b hb=>hg ⟨b,hb⟩
     have h1:=azG hd hg
     have e1:(match(some c:Option E)with|some .dead=>PE.fail|some (.gone _)=>PE.fail|some c=>PE.ret (aj.one c)|none=>.fail)=PE.ret (.one c):=by
      split
      ·rename_i heq;cases heq;exact absurd rfl hd
      ·rename_i b heq;cases heq;exact absurd rfl (hg b)
      ·rename_i heq;cases heq;rfl
      ·rename_i heq;cases heq
     have e2:∀x:C,x≠ .dead→(match(some x:Option C)with|some .dead=>Prog.fail|some c=>Prog.ret (SV.one c)|none=>.fail)=Prog.ret (.one x):=by
      intro x hx
      cases x<;>first|rfl|exact absurd rfl hx
     exact af.rm (by show af s (match(some c:Option E)with|some .dead=>PE.fail|some (.gone _)=>PE.fail|some c=>PE.ret (aj.one c)|none=>.fail) ai (Prog.ret (.one (cE c)));rw[e1];exact af.ret rfl) (e2 _ h1)
 ·exact af.fail
theorem aea {α:Type} (l:List α) (n:Nat) (d:α) (h:n<l.length):l[n]? =some (l.getD n d):=by
 rw[List.getD_eq_getElem?_getD,List.getElem?_eq_getElem h];rfl
theorem ap4 (i:TI) (a:E) (s:aG):af s (wk i a) ai (oI i (cE a)):=by
 cases a with
 |ptr k off=>
  simp only[wk,oI,cE]
  refine af.get ?_
  cases hv:(s.get (.box k)).v with
  |agg cs=>
   simp only[bJ,hv,ai]
   refine af.rm (zZ i _ off s) ?_
   rw[ad4]
   simp only[bJ,hv,ai]
  |_=>simp only[bJ,hv,ai];exact af.fail
 |ea r j hv t n off=>
  simp only[wk,oI,cE]
  refine af.get ?_
  simp only[bind_eq]
  cases hs:(s.get r).hv==hv with
  |false=>exact af.fail
  |true=>
   simp only[beq_iff_eq]at hs
   rw[bt (p:=(bJ (s.get r)).hv=hv) hs]
   rw[gP]
   have fin:∀(t:Ty) (ys:List t.T),af s ((do ask (aS n ys.length);pq i (dh t (ys.getD n t.zero)) off:PE aj)) ai (match(ys.map (aA t))[n]? with|some ds=>jk i (ds.map .d) off|none=>.fail):=by
    intro t ys
    simp only[aL]
    refine af.ask fun h=>?_
    rw[gY]at h
    rw[List.getElem?_map,aea ys n t.zero h]
    simp only[Option.map_some]
    rw[←gQ]
    exact zZ i _ off s
   cases ha:(s.get r).at j with
   |l m t ys=>
    cases m with
    |aD=>exact af.fail
    |_=>exact fin t ys
   |n m t o=>
    cases m with
    |aD=>exact af.fail
    |_=>
     cases o with
     |none=>simp only[aL];exact af.ask fun h=>by simp[gY]at h
     |some ys=>exact fin t ys
   |_=>exact af.fail
 |da t x off=>
  simp only[wk,oI,cE]
  refine af.rm (zZ i _ 0 s) ?_
  congr 1
  have:=congrArg (List.drop off) (gQ t x)
  simp only[aq,←List.map_drop]at this
  exact this.symm
 |l m t xs=>cases m<;>exact af.fail
 |n m t o=>cases m<;>cases o<;>exact af.fail
 |_=>exact af.fail
theorem ap5 {α β:Type} (f:α→β) (l:List α) (off:Nat) (m:List α):(splice l off m).map f=splice (l.map f) off (m.map f):=by simp[splice,List.map_take,List.map_drop]
theorem ap6 (l:List E) (off:Nat) (m:List E):aq (splice l off m)=splice (aq l) off (aq m):=ap5 cE l off m
theorem azH (take ap7:ah→Bool) (htk:take=ap7) (i:TI) (a:E) (v:aj) (s:aG):af s (ahK take i a v) (fun _=>()) (yp ap7 i (cE a) (ai v)):=by
 subst htk
 unfold ahK yp
 rw[ru]
 cases hv:v.dM with
 |none=>
  simp only[Option.map_none]
  cases a<;>exact af.fail
 |some cs=>
  simp only[Option.map_some]
  cases a with
  |ptr k off=>
   simp only[cE,aL,bind_eq,kN]
   refine af.sure fun h=>?_
   rw[bt (by simpa using h)]
   refine af.bind (zV _ take cs 0 s) fun cs' s1=>af.get ?_
   cases hb:(s1.get (.box k)).v with
   |agg old=>
    simp only[bJ,hb,ai,kN]
    refine af.sure fun h2=>?_
    simp only[Bool.and_eq_true,Nat.ble_eq]at h2
    rw[bt h2.1]
    refine af.wr hb ?_ (af.ret rfl)
    rw[apP _ _ _ h2.2,ap6]
   |_=>simp only[bJ,hb,ai];exact af.fail
  |ea r j hv t0 n off=>
   simp only[cE,aL,bind_eq,kN]
   refine af.sure fun h=>?_
   have hlen:cs.length=i.size:=by simpa using h
   rw[bt hlen]
   refine af.bind (zW cs s) fun ds s1=>af.get ?_
   refine af.sure fun h2=>?_
   simp only[Bool.and_eq_true,beq_iff_eq,Bool.not_eq_true']at h2
   rw[bt (p:=(bJ (s1.get r)).hv=hv∧r.isArg=false) h2]
   rw[gP]
   have fin:∀(t:Ty) (ys:List t.T),af s1 ((ask (aS n ys.length)).bind fun _=>(sure (Nat.ble (off+i.size) t.w)).bind fun _=>match iI t (splice (dh t (ys.getD n t.zero)) off ds)with
      |some row'=>iH r { (s1.get r)with cv:=(s1.get r).cv+1,v:=(s1.get r).v.setCell j (.l .own t (ys.set n row')) }
      |none=>.fail) (fun _=>()) (match(ys.map (aA t))[n]? with
     |some row=>(need (off+i.size≤row.length)).bind fun _=>cY r { (bJ (s1.get r))with cv:=(bJ (s1.get r)).cv+1,v:=(bJ (s1.get r)).v.setCell j (.own t.e ((ys.map (aA t)).set n (splice row off (ds.map mU)))) }
     |none=>.fail):=by
    intro t ys
    refine af.ask fun h=>?_
    rw[gY]at h
    refine af.sure fun h3=>?_
    rw[List.getElem?_map,aea ys n t.zero h]
    simp only[Option.map_some]
    rw[bt (by rw[eY];simpa[Nat.ble_eq]using h3)]
    cases hrow:iI t (splice (dh t (ys.getD n t.zero)) off ds)with
    |none=>exact af.fail
    |some row'=>
     refine af.put h2.2 ?_ (af.ret rfl)
     simp only[bJ,setCell_eq,cE,lC]
     congr 3
     rw[List.map_set]
     congr 1
     rw[←ad9 hrow,ap5]
     congr 1
     have:=congrArg (List.map wJ) (gQ t (ys.getD n t.zero))
     simp only[aq,List.map_map]at this
     have e:(wJ ∘ C.d)=id:=by funext d;rfl
     rw[e,List.map_id]at this
     exact this.symm
   cases ha:(s1.get r).at j with
   |l m t ys=>
    cases m with
    |own=>exact fin t ys
    |_=>exact af.fail
   |n m t o=>
    cases m with
    |own=>
     cases o with
     |none=>exact af.ask fun h=>by simp[gY]at h
     |some ys=>exact fin t ys
    |_=>exact af.fail
   |_=>exact af.fail
  |l m t xs=>cases m<;>exact af.fail
  |n m t o=>cases m<;>cases o<;>exact af.fail
  |_=>exact af.fail
theorem azJ (cfg:aP) (t:TypeId) (c:E) (f:Nat) (s:aG):af s (ahL cfg t c f) cE (yq cfg t (cE c) f):=by
 unfold ahL yq
 split
 ·rename_i h0
  simp only[h0,aL,bind_eq]
  split
  ·rename_i h1
   simp only[h1]
   split
   ·rename_i h2
    simp only[h2]
    refine af.sure fun h=>?_
    rw[bt (by simpa using h)]
    cases c with
    |ptr k off=>exact af.ret rfl
    |ea r j hv t n off=>exact af.ret rfl
    |da t x off=>
     simp only[cE]
     refine af.sure fun h=>?_
     rw[bt (by rw[List.length_drop,eY];have:=Nat.ble_eq.mp h;omega)]
     exact af.ret (by simp only[cE,List.drop_drop])
    |l m t xs=>cases m<;>exact af.fail
    |n m t o=>cases m<;>cases o<;>exact af.fail
    |_=>exact af.fail
   ·exact af.fail
  ·exact af.fail
 ·exact af.fail
theorem ap8 {a b:Nat} (h:(a==b&& !aW a)=true):a=b∧aW b=false:=by
 simp only[Bool.and_eq_true,beq_iff_eq,Bool.not_eq_true']at h
 exact⟨h.1,by rw[←h.1];exact h.2⟩
theorem aeb {a b:Nat} (h:(b==a&& !aW a)=true):b=a∧aW b=false:=by
 simp only[Bool.and_eq_true,beq_iff_eq,Bool.not_eq_true']at h
 exact⟨h.1,by rw[h.1];exact h.2⟩
theorem azK (cfg:aP) (t:TypeId) (g:Nat) (n:Int) (s:aG):af s (ahM cfg t g n) cE (acm cfg t g n):=by
 unfold ahM acm
 split
 ·rename_i hl ht
  simp only[hl,ht]
  split
  ·rename_i hi
   simp only[hi,aL,bind_eq]
   refine af.ask fun h1=>?_
   refine af.sure fun h2=>?_
   simp only[Bool.and_eq_true,beq_iff_eq]at h2
   rw[bt (of_decide_eq_true h1),bt h2]
   exact af.ret rfl
  ·exact af.fail
 ·exact af.fail
theorem aij (cfg:aP) (t:TypeId) (c:E) (n:Int) (s:aG):af s (ahN cfg t c n) cE (yu cfg t (cE c) n):=by
 unfold ahN yu
 split
 ·rename_i h0
  simp only[h0,aL,bind_eq]
  split
  ·rename_i i hi
   simp only[hi]
   have aD:∀(r:ah) (j hv cv k:Nat) (t:Ty) (xs:List t.T),decide (0≤n∧n<xs.length)=true→af s ((sure (i.size==t.e&& !aW i.size)).bind fun _=>PE.ret (E.ea r j hv t (k+n.toNat) 0)) cE
     ((need (0≤n∧n<(xs.map (aA t)).length)).bind fun _=>(need (i.size=t.e∧aW t.e=false)).bind fun _=>Prog.ret (C.ea r j hv t.e (k+n.toNat) 0)):=by
    intro r j hv cv k t xs h
    rw[bt (by simpa using of_decide_eq_true h)]
    exact af.sure fun h2=>by rw[bt (ap8 h2)];exact af.ret rfl
   have dat:∀(t:Ty) (xs:List t.T),decide (0≤n∧n<xs.length)=true→af s ((sure (i.size==t.e&& !aW i.size)).bind fun _=>PE.ret (E.da t (xs.getD n.toNat t.zero) 0)) cE
     ((need (0≤n∧n<(xs.map (aA t)).length)).bind fun _=>(need (i.size=t.e∧aW t.e=false)).bind fun _=>match(xs.map (aA t))[n.toNat]? with|some ds=>Prog.ret (C.da ds)|none=>.fail):=by
    intro t xs h
    have h1:=of_decide_eq_true h
    rw[bt (by simpa using h1)]
    refine af.sure fun h2=>?_
    rw[bt (ap8 h2),List.getElem?_map,aea xs n.toNat t.zero (by omega)]
    exact af.ret rfl
   cases c with
   |l m t xs=>
    cases m with
    |own=>exact af.fail
    |aD r j hv cv k=>exact af.ask fun h=>aD r j hv cv k t xs h
    |data=>exact af.ask fun h=>dat t xs h
   |n m t o=>
    cases m with
    |own=>cases o<;>exact af.fail
    |aD r j hv cv k=>
     refine af.ask fun h=>?_
     cases o with
     |none=>have:=of_decide_eq_true h;simp[ag]at this;omega
     |some xs=>exact aD r j hv cv k t xs h
    |data=>
     refine af.ask fun h=>?_
     cases o with
     |none=>have:=of_decide_eq_true h;simp[ag]at this;omega
     |some xs=>exact dat t xs h
   |_=>exact af.fail
  ·exact af.fail
 ·rename_i h0
  simp only[h0,aL,bind_eq]
  split
  ·rename_i hi
   simp only[hi]
   cases c with
   |ptr k off=>exact af.sure fun h=>by simp only[cE];rw[bt (of_decide_eq_true h)];exact af.ret rfl
   |l m t xs=>cases m<;>exact af.fail
   |n m t o=>cases m<;>cases o<;>exact af.fail
   |_=>exact af.fail
  ·exact af.fail
 ·exact af.fail
theorem ap9:∀{cs:List E} {l:List (List UInt8)},adH cs=some l→∀k:Nat,cs[k]? =(l[k]?).map E.s
 | [],l,h,k=>by cases h;rfl
 |c :: cs,l,h,k=>by
  cases c<;>simp only[adH]at h<;>first|(cases h;done)|skip
  split at h
  ·rename_i x l' h'
   cases h
   cases k with
   |zero=>rfl
   |succ k=>simpa using ap9 h' k
  ·cases h
theorem aqa {kd:IntKind}:∀{cs:List E} {l:List Int},adI kd cs=some l→∀k:Nat,cs[k]? =(l[k]?).map (E.i kd)
 | [],l,h,k=>by cases h;rfl
 |c :: cs,l,h,k=>by
  cases c<;>simp only[adI]at h<;>first|(cases h;done)|skip
  split at h
  ·rename_i x l' hk h'
   cases h
   have hk:=of_decide_eq_true hk
   subst hk
   cases k with
   |zero=>rfl
   |succ k=>simpa using aqa h' k
  ·cases h
theorem azL {i:TI} {cs:List E} {g:Int→aj} (h:ahO i cs=some g) {n:Int} {m:Nat} (h1:n.toNat<m) (h2:m≤cs.length) (hs:i.size=1):jk i (aq cs) (n.toNat * i.size)= .ret (ai (g n)):=by
 unfold jk
 have e:n.toNat * i.size=n.toNat:=by rw[hs];omega
 rw[e]
 have hlen:(aq cs).length=cs.length:=by simp[aq]
 simp only[bind_eq]
 rw[bt (by rw[hs,hlen];omega)]
 have hg:(aq cs)[n.toNat]? =(cs[n.toNat]?).map cE:=by simp[aq]
 unfold ahO at h
 split at h
 ·rename_i hk
  split at h
  ·rename_i l hl
   cases h
   have eP:=ap9 hl n.toNat
   have hc:cs[n.toNat]? =some cs[n.toNat]:=List.getElem?_eq_getElem (by omega)
   cases hx:l[n.toNat]? with
   |none=>rw[hx,hc]at eP;cases eP
   |some x=>
    rw[hx]at eP
    rw[if_neg (by rw[hk];simp[TK.agg]),hg,eP]
    simp only[Option.map_some,cE]
    rw[List.getD_eq_getElem?_getD,hx]
    rfl
  ·cases h
 ·rename_i kd hk
  split at h
  ·rename_i l hl
   cases h
   have eP:=aqa hl n.toNat
   have hc:cs[n.toNat]? =some cs[n.toNat]:=List.getElem?_eq_getElem (by omega)
   cases hx:l[n.toNat]? with
   |none=>rw[hx,hc]at eP;cases eP
   |some x=>
    rw[hx]at eP
    rw[if_neg (by rw[hk];simp[TK.agg]),hg,eP]
    simp only[Option.map_some,cE]
    rw[List.getD_eq_getElem?_getD,hx]
    rfl
  ·cases h
 ·cases h
theorem azM (cfg:aP) (t:TypeId) (v:aj) (n:Int) (s:aG):af s (ahP cfg t v n) ai (yw cfg t (ai v) n):=by
 unfold ahP
 split
 ·rename_i h
  simp only[yw,ai,cE,h,aL,bind_eq]
  refine af.ask fun h1=>af.ask fun h2=>?_
  rw[bt (of_decide_eq_true h1)]
  rw[gY]at h2
  rw[aea _ _ 0 h2]
  exact af.ret rfl
 ·rename_i h
  simp only[yw,ai,h,aL,bind_eq]
  split
  ·rename_i hi
   simp only[hi]
   split
   ·rename_i g hg
    refine af.sure fun h1=>af.ask fun h2=>?_
    have h2:=of_decide_eq_true h2
    rw[bt h2]
    rw[Bool.and_eq_true]at h1
    rw[azL hg (by omega) (Nat.le_of_ble_eq_true h1.2) (Nat.eq_of_beq_eq_true h1.1)]
    exact af.ret rfl
   ·refine af.sure fun h1=>?_
    rw[bt (of_decide_eq_true h1)]
    exact zZ _ _ _ s
  ·exact af.fail
 ·exact af.fail
theorem aqb (b:Bool) (v:aj) (s:aG):af s (adJ b v) ai (nD b (ai v)):=by
 unfold adJ
 have key:∀(t:Ty) (n:Int) (q:Prog SV),(aW t.e=false→af s (PE.ret (ej .i64 n)) ai q)→af s (do sure (!aW t.e);.ret (ej .i64 n)) ai q:=by
  intro t n q h
  simp only[aL]
  exact af.sure fun hm=>h (by simpa using hm)
 split
 ·exact af.ret rfl
 ·exact af.ret rfl
 ·refine key _ _ _ fun hm=>?_
  simp only[nD,ai,cE,lC,bind_eq]
  rw[bt hm]
  exact af.ret (by simp[ez,ej,ai,cE,ag])
 ·refine key _ _ _ fun hm=>?_
  simp only[nD,ai,cE,lC,bind_eq]
  rw[bt hm]
  exact af.ret (by simp[ez,ej,ai,cE,ag])
 ·rename_i o
  refine key _ _ _ fun hm=>?_
  cases o with
  |none=>exact af.ret rfl
  |some xs=>
   simp only[nD,ai,cE,lC,bind_eq]
   rw[bt hm]
   exact af.ret (by simp[ez,ej,ai,cE,ag])
 ·rename_i o
  refine key _ _ _ fun hm=>?_
  cases o with
  |none=>exact af.ret rfl
  |some xs=>
   simp only[nD,ai,cE,lC,bind_eq]
   rw[bt hm]
   exact af.ret (by simp[ez,ej,ai,cE,ag])
 ·exact af.fail
theorem aik:∀(ps:List (Nat×List E)) (cells:List E),aq (zD cells ps)=fill (aq cells) (ps.map fun p=>(p.1,aq p.2))
 | [],cells=>rfl
 |(off,cs) :: r,cells=>by simp only[zD,List.map_cons,fill];rw[aik r,ap6]
theorem ail (fs:List (Nat×TypeId)) (cfg:aP):∀(ps:List (Nat×Operand)) (s:aG),af s (zE fs cfg ps) (List.map fun p=>(p.1,aq p.2)) (partsOf fs cfg ps)
 | [],s=>af.ret rfl
 |(i,o) :: r,s=>by
  simp only[zE,partsOf,aL,bind_eq]
  refine af.bind (dV o s) fun v s1=>?_
  rw[ru]
  cases fs[i]? with
  |none=>exact af.fail
  |some p=>
   cases v.dM with
   |none=>exact af.fail
   |some cs=>
    obtain⟨off,t⟩:=p
    simp only[Option.map_some]
    cases cfg.ti t with
    |none=>exact af.fail
    |some ti=>
     simp only[kN]
     refine af.sure fun h=>?_
     rw[bt (by simpa using h)]
     exact af.bind (ail fs cfg r s1) fun rest s2=>af.ret rfl
theorem azN {d:D} {c:E} (h:ofD d=some c):cE c= .d d:=by
 cases d with
 |bool b=>cases h;cases b<;>rfl
 |sl=>cases h
 |_=>cases h;rfl
theorem aec:∀{ds:List D} {cs:List E},pz ds=some cs→aq cs=ds.map .d
 | [],cs,h=>by cases h;rfl
 |d :: ds,cs,h=>by
  unfold pz at h
  split at h
  ·rename_i c cs' h1 h2
   cases h
   have:=aec h2
   simp only[aq,List.map_cons]at this ⊢
   rw[azN h1,this]
  ·cases h
theorem aqc {size:Nat} {ps:List (Nat×List E)} (h:fits size ps=true):∀p∈(ps.map fun p=>(p.1,aq p.2)),p.1+p.2.length≤size:=by
 intro p hp
 obtain⟨q,hq,rfl⟩:=List.mem_map.1 hp
 have:=List.all_eq_true.1 h q hq
 simpa[Nat.ble_eq]using this
theorem azO (cfg:aP) (t:TypeId) (ps:List (Nat×Operand)) (s:aG):af s (ahQ cfg t ps) ai (acn cfg t ps):=by
 unfold ahQ acn
 split
 ·rename_i size bytes fs z h
  simp only[h,aL,bind_eq]
  refine af.sure fun h1=>?_
  simp only[Bool.and_eq_true,beq_iff_eq,List.all_eq_true]at h1
  rw[bt h1]
  refine af.bind (ail fs cfg ps s) fun ps' s1=>af.sure fun h2=>?_
  rw[bt (aqc h2)]
  cases hz:pz z with
  |none=>exact af.fail
  |some cs=>exact af.ret (by simp only[ai,aik,aec hz])
 ·rename_i n et size bytes z h
  simp only[h,aL,bind_eq]
  split
  ·rename_i hi
   simp only[hi]
   refine af.sure fun h1=>?_
   simp only[beq_iff_eq]at h1
   rw[bt h1]
   refine af.bind (ail _ cfg ps s) fun ps' s1=>af.sure fun h2=>?_
   rw[bt (aqc h2)]
   cases hz:pz z with
   |none=>exact af.fail
   |some cs=>exact af.ret (by simp only[ai,aik,aec hz])
  ·exact af.fail
 ·exact af.fail
theorem aim:∀(t:Ty) (z r:List D),pE t z=some r→z=aA t t.zero++r
 | .int k,z,r,h=>by
   unfold pE at h
   split at h<;>first|(cases h;done)|skip
   all_goals (rename_i heq;cases heq)
   split at h
   ·rename_i h1;obtain⟨rfl,rfl⟩:=h1;cases h;rfl
   ·cases h
 | .bool,z,r,h=>by
   unfold pE at h
   split at h<;>first|(cases h;done)|skip
   all_goals (rename_i heq;cases heq)
   split at h
   ·rename_i h1;subst h1;cases h;rfl
   ·cases h
 | .str,z,r,h=>by
   unfold pE at h
   split at h<;>first|(cases h;done)|skip
   all_goals (rename_i heq;cases heq)
   split at h
   ·cases h;rfl
   ·cases h
 | .sl t,z,r,h=>by
   unfold pE at h
   split at h<;>first|(cases h;done)|skip
   all_goals (rename_i heq;cases heq)
   cases h;rfl
 | .pair a b,z,r,h=>by
   unfold pE at h
   split at h
   ·rename_i r1 h1
    have e1:=aim a _ _ h1
    have e2:=aim b _ _ h
    rw[e1,e2]
    simp[aA,Ty.zero]
   ·cases h
 | .set _,z,r,h=>by cases h
 | .aU _ _ _,z,r,h=>by cases h
theorem aac {t:Ty} {z:List D} (h:qW t z=true):z=aA t t.zero:=by
 unfold qW at h
 split at h
 ·rename_i h1
  have:=aim t _ _ h1
  simpa using this
 ·cases h
theorem aqd (t:Ty) (size:Nat):∀(ps:List (Nat×Operand)) (rows:List t.T) (s:aG),af s (adK t size ps rows) (List.map (aA t)) (rowsOf size ps (rows.map (aA t)))
 | [],rows,s=>af.ret rfl
 |(i,o) :: r,rows,s=>by
  simp only[adK,rowsOf,aL,bind_eq]
  refine af.bind (dV o s) fun v s1=>?_
  rw[ru]
  cases v.dM with
  |none=>exact af.fail
  |some cs=>
   simp only[Option.map_some,kN]
   refine af.sure fun h=>?_
   simp only[Bool.and_eq_true,beq_iff_eq,gY]at h
   rw[bt (by simpa using h)]
   refine af.bind (zW cs s1) fun ds s2=>?_
   cases hrow:iI t ds with
   |none=>exact af.fail
   |some x=>
    have:=aqd t size r (iG rows i x) s2
    rw[oa,List.map_set,←ad9 hrow,←oa]at this
    exact this
theorem azP (cfg:c8) (t:TypeId) (len:Nat) (ps:List (Nat×Operand)) (s:aG):af s (ahR cfg t len ps) ai (aco cfg.c t len ps):=by
 unfold ahR aco
 split
 ·rename_i et _ h0
  simp only[h0]
  cases cfg.c.ti et with
  |none=>exact af.fail
  |some i=>
   cases lk et cfg.R with
   |none=>exact af.fail
   |some ty=>
    simp only[aL,bind_eq]
    cases i.zero with
    |none=>exact af.fail
    |some z=>
     simp only
     refine af.sure fun h=>?_
     simp only[Bool.and_eq_true,beq_iff_eq,gY,Nat.ble_eq,Bool.not_eq_true']at h
     obtain⟨⟨⟨⟨⟨h1,h2⟩,h3⟩,h4⟩,hm⟩,h5⟩:=h
     rw[bt ⟨h1,h2,h3,hm⟩]
     have e:=aac h5
     have:List.replicate len z=(List.replicate len ty.zero).map (aA ty):=by rw[List.map_replicate,e]
     rw[this]
     exact af.bind (aqd ty i.size ps _ s) fun rows s1=>af.ret (by simp only[ai,cE,lC,h4])
 ·exact af.fail
theorem azQ (cfg:c8) (t:TypeId) (len cap:Int) (s:aG):af s (ahS cfg t len cap) ai (acp cfg.c t len cap):=by
 unfold ahS acp
 split
 ·rename_i et _ h0
  simp only[h0]
  cases cfg.c.ti et with
  |none=>exact af.fail
  |some i=>
   cases lk et cfg.R with
   |none=>exact af.fail
   |some ty=>
    simp only[aL,bind_eq]
    cases i.zero with
    |none=>exact af.fail
    |some z=>
     simp only
     refine af.sure fun h=>af.ask fun hh=>?_
     simp only[Bool.and_eq_true,beq_iff_eq,gY,Nat.ble_eq,Bool.not_eq_true']at h
     obtain⟨⟨⟨⟨⟨h1,h2⟩,h3⟩,h4⟩,hm⟩,h5⟩:=h
     rw[bt ⟨h1,h2,h3,hm⟩,bt (by simpa using of_decide_eq_true hh)]
     have e:=aac h5
     exact af.ret (by simp only[ai,cE,lC,h4,List.map_replicate,e])
 ·exact af.fail
theorem azR (i:TI) (t:Ty) (c:E) (ys:List t.T) (lit:Bool) (s:aG) (hc:∀m t o,c≠ .n m t o):af s (adL i t c ys lit) ai (pX i (cE c) (ys.map (aA t))):=by
 unfold adL pX
 simp only[aL,bind_eq]
 refine af.sure fun h=>?_
 simp only[Bool.and_eq_true,gY,Nat.ble_eq,beq_iff_eq,Bool.not_eq_true']at h
 obtain⟨⟨⟨⟨⟨h1,h2⟩,h3⟩,h4⟩,h5⟩,hm⟩:=h
 rw[bt ⟨h1,h2,h3,by revert h4;cases i.zero<;>simp,hm⟩]
 cases c with
 |nil=>
  simp only[cE]
  refine af.ask fun hl=>?_
  rw[bt (by simpa using of_decide_eq_true hl)]
  cases lit with
  |true=>
   cases ys with
   |nil=>exact af.ret rfl
   |cons y r=>exact af.ret (by simp only[ai,cE,lC,h5])
  |false=>
   cases ys with
   |nil=>exact af.ret rfl
   |cons y r=>exact af.ret (by simp only[ai,cE,eT,lC,h5])
 |n m t o=>exact absurd rfl (hc m t o)
 |l m t' xs=>
  cases m with
  |own=>exact af.fail
  |data=>exact af.fail
  |aD r j hv cv k=>
   simp only[cE,lC]
   refine af.get ?_
   refine af.sure fun hs=>?_
   simp only[Bool.and_eq_true,beq_iff_eq,Bool.not_eq_true']at hs
   obtain⟨⟨g1,g2⟩,g3⟩:=hs
   have key:∀(zs:List (List D)) (zl:Nat),zs.length=zl→af s ((ask (decide (k+xs.length=zl))).bind fun _=>(ask (decide (xs.length+ys.length≤68719476736))).bind fun _=>(nT r j (s.get r)).bind fun _=>if h:t'=t then PE.ret (aj.one (.l .own t ((h ▸ xs)++ys)))else .fail) ai
     ((need ((bJ (s.get r)).hv=hv∧(bJ (s.get r)).cv=cv∧t'.e=i.size∧r.isArg=false)).bind fun _=>(need (k+(xs.map (aA t')).length=zs.length)).bind fun _=>(need ((xs.map (aA t')).length+(ys.map (aA t)).length≤2 ^ 36)).bind fun _=>(mg r j (bJ (s.get r))).bind fun _=>Prog.ret (SV.one (.own t'.e (xs.map (aA t')++ys.map (aA t))))):=by
    intro zs zl hz
    by_cases ht:t'=t
    ·subst ht
     refine af.ask fun a1=>af.ask fun a2=>?_
     rw[bt ⟨g1,g2,h5.symm,g3⟩,bt (by rw[hz];simpa using of_decide_eq_true a1),bt (by simpa using of_decide_eq_true a2)]
     refine af.bind (apU r j s) fun _ s1=>?_
     simp only[dite_true]
     exact af.ret (by simp only[ai,cE,lC,List.map_append])
    ·refine af.ask fun a1=>af.ask fun a2=>?_
     simp only[ht,dite_false]
     unfold af
     rw[gF,Tr.qZ]
     generalize (nT r j (s.get r)).both s=tr
     induction tr with
     |leaf a=>trivial
     |fail=>trivial
     |br c t e cS cT=>exact⟨fun _=>cS,fun _=>cT⟩
     |call d o k ih=>exact fun x _=>ih x
     |sum o k k' ih cM=>exact⟨fun x _=>ih x,fun x _=>cM x⟩
   rw[gP]
   cases ha:(s.get r).at j with
   |l m t2 zs=>
    cases m with
    |own=>exact key (zs.map (aA t2)) _ (by simp)
    |_=>exact af.fail
   |n m t2 o=>
    cases m with
    |own=>exact af.call fun zs hz=>by subst hz;exact key (zs.map (aA t2)) _ (by simp)
    |_=>exact af.fail
   |_=>exact af.fail
 |_=>exact af.fail
theorem aqe (t:Ty) (w:Nat) (hw:w=t.e) (ys:List t.T):(SV.one (cE (.n .own t (eT ys))))=if ys.map (aA t)=[]then SV.one (.d .nil)else SV.one (.own w (ys.map (aA t))):=by
 subst hw
 cases ys with
 |nil=>rfl
 |cons y r=>simp only[eT,cE,lC,List.map_cons,reduceCtorEq,if_false]
theorem azS (i:TI) (t:Ty) (r:ah) (j hv cv k:Nat) (t':Ty) (o:Option (List t'.T)) (ys:List t.T) (lit:Bool) (s:aG):af s (ahT i t r j hv cv k t' o ys lit) ai (pX i (cE (.n (.aD r j hv cv k) t' o)) (ys.map (aA t))):=by
 unfold ahT pX
 simp only[aL,bind_eq]
 refine af.sure fun h=>?_
 simp only[Bool.and_eq_true,gY,Nat.ble_eq,beq_iff_eq,Bool.not_eq_true']at h
 obtain⟨⟨⟨⟨⟨h1,h2⟩,h3⟩,h4⟩,h5⟩,hm⟩:=h
 rw[bt ⟨h1,h2,h3,by revert h4;cases i.zero<;>simp,hm⟩]
 cases o with
 |none=>
  simp only[cE]
  refine af.look ?_
  refine af.sure fun hs=>?_
  cases ha:(s.get r).at j with
  |n m' t2 o'=>
   cases m' with
   |own=>
    refine af.ask fun _=>af.ask fun a2=>?_
    simp only[Option.getD_none,List.length_nil,Nat.zero_add,decide_eq_true_eq]at a2
    rw[bt (by simpa using a2)]
    refine af.bind (k':=fun _=>if ys.map (aA t)=[]then Prog.ret (SV.one (.d .nil))else Prog.ret (SV.one (.own i.size (ys.map (aA t))))) (q:=Prog.ret ()) (f:=fun _=>()) (apZ r j s) fun _ s1=>?_
    split
    ·rename_i ht
     subst ht
     have fin:af s1 (PE.ret (aj.one (.n .own t' (gN none ys)))) ai (if ys.map (aA t')=[]then Prog.ret (SV.one (.d .nil))else Prog.ret (SV.one (.own i.size (ys.map (aA t'))))):=by
      have e:=aqe t' i.size h5 ys
      have:(if ys.map (aA t')=[]then Prog.ret (SV.one (.d .nil))else Prog.ret (SV.one (.own i.size (ys.map (aA t')))))=Prog.ret (SV.one (cE (.n .own t' (eT ys)))):=by
       rw[e];split<;>rfl
      rw[this]
      exact af.ret rfl
     cases lit with
     |false=>exact fin
     |true=>
      cases ys with
      |nil=>exact fin
      |cons y q=>
       simp only[List.map_cons,reduceCtorEq,if_false]
       exact af.ret (by simp only[ai,cE,lC,h5,Option.getD_none,List.nil_append,List.map_cons])
    ·exact af.fail
   |_=>exact af.fail
  |_=>exact af.fail
 |some xs=>
  simp only[cE,lC]
  refine af.get ?_
  refine af.sure fun hs=>?_
  simp only[Bool.and_eq_true,beq_iff_eq,Bool.not_eq_true']at hs
  obtain⟨⟨g1,g2⟩,g3⟩:=hs
  rw[gP]
  cases ha:(s.get r).at j with
  |n m' t2 o'=>
   cases m' with
   |own=>
    refine af.ask fun a1=>af.ask fun a2=>?_
    simp only[Option.getD_some,decide_eq_true_eq]at a1 a2
    cases o' with
    |none=>
     unfold mP
     rw[ha]
     exact af.br (fun h=>by cases h) fun _=>trivial
    |some zs=>
     simp only[cE,lC]
     by_cases ht:t'=t
     ·subst ht
      rw[bt ⟨g1,g2,h5.symm,g3⟩,bt (by simpa using a1),bt (by simpa using a2)]
      refine af.bind (apY r j s) fun _ s1=>?_
      simp only[dite_true]
      cases lit with
      |false=>exact af.ret (by simp only[ai,cE,lC,gN,List.map_append])
      |true=>
       cases ys with
       |nil=>exact af.ret (by simp only[ai,cE,lC,gN,List.map_append])
       |cons y q=>exact af.ret (by simp only[ai,cE,lC,Option.getD_some,List.map_append])
     ·unfold af
      rw[gF,Tr.qZ]
      simp only[ht,dite_false]
      generalize (mP r j (s.get r) _).both s=tr
      induction tr with
      |leaf a=>trivial
      |fail=>trivial
      |br c t e cS cT=>exact⟨fun _=>cS,fun _=>cT⟩
      |call d o k ih=>exact fun x _=>ih x
      |sum o k k' ih cM=>exact⟨fun x _=>ih x,fun x _=>cM x⟩
   |_=>exact af.fail
  |_=>exact af.fail
theorem azT (i:TI) (t:Ty) (c:E) (ys:List t.T) (lit:Bool) (s:aG):af s (ahU i t c ys lit) ai (pX i (cE c) (ys.map (aA t))):=by
 unfold ahU
 have gen:af s (do adL i t (←resolve c) ys lit) ai (pX i (cE c) (ys.map (aA t))):=by
  simp only[aL]
  refine azt fun c' h1 h2=>?_
  rw[←h1]
  exact azR i t c' ys lit s h2
 cases c with
 |n m t' o=>
  cases m with
  |aD r j hv cv k=>exact azS i t r j hv cv k t' o ys lit s
  |_=>exact gen
 |_=>exact gen
theorem azU (c:E) (s:aG):af s (ahW c) ai (afZ (cE c)):=by
 unfold ahW
 cases c with
 |nil=>exact af.ret rfl
 |n m t o=>
  simp only[aL]
  refine af.ask fun h=>?_
  cases o with
  |none=>exact af.ret rfl
  |some xs=>cases h
 |_=>exact af.fail
theorem aqf {i:TI} {t:Ty} {z:List D} {n:Int} {s:aG} (hz:i.zero=some z) (h:(z.length==i.size&&aS 0 i.size&&aS 0 i.bytes&&Nat.ble i.bytes 1024&&i.size==t.e&& !aW i.size&&qW t z)=true) (hn:0≤n∧n≤68719476736):
  af s (PE.ret (.one (.n .own t (eT (List.replicate n.toNat t.zero))))) ai (vr i (.d .nil) n):=by
 simp only[Bool.and_eq_true,beq_iff_eq,gY,Nat.ble_eq,Bool.not_eq_true']at h
 obtain⟨⟨⟨⟨⟨⟨h1,h2⟩,h3⟩,h4⟩,h5⟩,hm⟩,h6⟩:=h
 have e:=aac h6
 unfold vr
 simp only[hz,bind_eq]
 rw[bt ⟨h1,h2,h3,h4,hm⟩,bt (by simpa using hn)]
 have e2:=aqe t i.size h5 (List.replicate n.toNat t.zero)
 by_cases h0:n.toNat=0
 ·rw[if_pos h0]
  refine af.ret ?_
  rw[h0]
  rfl
 ·rw[if_neg h0]
  refine af.ret ?_
  show _=SV.one (cE (.n .own t (eT (List.replicate n.toNat t.zero))))
  rw[e2,if_neg (by simp[h0]),e,List.map_replicate]
theorem azV (i:TI) (t:Ty) (c:E) (n:Int) (s:aG):af s (ahX i t c n) ai (vr i (cE c) n):=by
 unfold ahX
 split
 ·rename_i z hz
  simp only[aL]
  refine af.sure fun h=>?_
  cases c with
  |nil=>
   simp only
   refine af.ask fun hn=>?_
   exact aqf hz h (of_decide_eq_true hn)
  |n m t o=>
   simp only
   refine af.ask fun hn=>?_
   rw[Bool.and_eq_true]at hn
   cases o with
   |none=>exact aqf hz h (of_decide_eq_true hn.2)
   |some xs=>exact absurd hn.1 (by simp)
  |_=>exact af.fail
 ·exact af.fail
theorem azW (cfg:aP) (i:TI) (t:Ty) (tid:TypeId) (c:E) (s:aG):af s (ahV cfg i t tid c) (List.map (aA t)) (sC cfg i tid (cE c)):=by
 unfold ahV
 split
 ·rename_i h
  split
  ·split
   ·rename_i ht
    subst ht
    simp only[sC,cE,h,aL,bind_eq]
    refine af.sure fun hs=>?_
    rw[bt (by simpa using hs)]
    exact af.ret (by simp[aA,jc,aR])
   ·exact af.fail
  ·exact af.fail
 ·rename_i h
  have e:sC cfg i tid (cE c)=elems i.size (cE c):=by
   unfold sC
   rw[h]
  rw[e]
  simp only[aL]
  refine af.sure fun hs=>?_
  simp only[beq_iff_eq]at hs
  rw[hs]
  exact ap2 t c s
 ·exact af.fail
theorem azX (v:aj) (lo hi:Option Int) (s:aG):af s (ahY v lo hi) ai (acq (ai v) lo hi):=by
 unfold ahY
 split
 ·simp only[acq,ai,cE,aL,bind_eq]
  refine af.ask fun h=>?_
  rw[bt (by simpa[ag]using of_decide_eq_true h)]
  exact af.ret rfl
 ·exact af.fail
theorem aed {α β:Type} (f:α→β) (l h:Int) (xs:List α):(bV l h xs).map f=((xs.map f).take h.toNat).drop l.toNat:=by simp[bV,List.map_take,List.map_drop]
theorem aH4 {α:Type} (l h:Int):bV l h ([]:List α)=[]:=by simp[bV]
theorem azY (size:Nat) (v:aj) (lo hi:Option Int) (s:aG):af s (ahZ size v lo hi) ai (nE size (ai v) lo hi):=by
 unfold ahZ
 split
 ·simp only[nE,ai,cE,aL,bind_eq]
  refine af.ask fun h=>?_
  rw[bt (of_decide_eq_true h)]
  exact af.ret rfl
 ·rename_i t xs
  simp only[nE,ai,cE,lC,aL,bind_eq]
  refine af.ask fun h=>af.sure fun h2=>?_
  rw[bt (by simpa[ag]using of_decide_eq_true h),bt (aeb h2)]
  exact af.ret (by simp only[ai,cE,lC,aed,List.length_map,ag])
 ·rename_i t o
  simp only[aL]
  refine af.ask fun h=>af.sure fun h2=>?_
  have hh:=of_decide_eq_true h
  cases o with
  |none=>
   simp only[nE,ai,cE,bind_eq]
   simp only[ag,Option.getD_none,List.length_nil,Int.natCast_zero]at hh
   rw[bt (by constructor;·omega
             ·cases hi with
              |none=>rfl
              |some x=>simp only[Option.getD_some]at hh ⊢;omega)]
   exact af.ret rfl
  |some xs=>
   simp only[nE,ai,cE,lC,bind_eq]
   rw[bt (by simpa[ag]using hh),bt (aeb h2)]
   exact af.ret (by simp only[ai,cE,lC,aed,List.length_map,Option.map_some,Option.getD_some,ag])
 ·rename_i r j hv cv k t xs
  simp only[nE,ai,cE,lC,aL,bind_eq]
  refine af.ask fun h=>af.sure fun h2=>?_
  rw[bt (by simpa[ag]using of_decide_eq_true h),bt (aeb h2)]
  exact af.ret (by simp only[ai,cE,lC,aed,List.length_map,ag])
 ·rename_i r j hv cv k t o
  simp only[aL]
  refine af.ask fun h=>af.sure fun h2=>?_
  have hh:=of_decide_eq_true h
  cases o with
  |none=>
   simp only[nE,ai,cE,bind_eq]
   simp only[ag,Option.getD_none,List.length_nil,Int.natCast_zero]at hh
   rw[bt (by constructor;·omega
             ·cases hi with
              |none=>rfl
              |some x=>simp only[Option.getD_some]at hh ⊢;omega)]
   exact af.ret rfl
  |some xs=>
   simp only[nE,ai,cE,lC,bind_eq]
   rw[bt (by simpa[ag]using hh),bt (aeb h2)]
   exact af.ret (by simp only[ai,cE,lC,aed,List.length_map,Option.map_some,Option.getD_some,ag])
 ·exact af.fail
theorem aqg {cfg:aP} {et:TypeId} (h:adM cfg et=true):∃b z,cfg.ti et=some ⟨1,b,.int .u8,z⟩:=by
 unfold adM at h
 split at h
 ·rename_i b z hh;exact⟨b,z,hh⟩
 ·cases h
theorem azZ (cfg:aP) (src dst:TypeId) (v:aj) (s:aG):af s (ah0 cfg src dst v) ai (pY cfg src dst (ai v)):=by
 unfold ah0
 split
 ·rename_i h1 h2
  split
  ·simp only[pY,h1,h2,ai,cE]
   exact af.ret rfl
  ·exact af.fail
 ·rename_i i _ _ _ h1 h2
  split
  ·simp only[pY,h1,h2,ai,cE]
   exact af.ret rfl
  ·rename_i c hc
   split
   ·rename_i et hk
    split
    ·rename_i hb
     obtain⟨b,z,hh⟩:=aqg hb
     have e:pY cfg src dst (ai (.one c))=(elems 1 (cE c)).bind fun xs=>match xs.mapM (fun x=>match x with| [.int .u8 n]=>some (UInt8.ofNat n.toNat)|_=>none)with
       |some l=>Prog.ret (SV.one (.d (.str l)))
       |none=>.fail:=by
      obtain⟨isz,iby,ik,iz⟩:=i
      simp only at hk
      subst hk
      simp only[pY,h1,h2,ai,bind_eq]
      cases c with
      |l m t xs=>cases m<;>(simp only[cE,lC,hh];rfl)
      |n m t o=>cases m<;>cases o<;>(simp only[cE,lC,hh];rfl)
      |s x=>exact absurd rfl (hc x)
      |gone b=>cases b<;>(simp only[cE,hh];rfl)
      |it m t xs sn=>cases m<;>(simp only[cE,mC,hh];rfl)
      |_=>simp only[cE,hh];rfl
     rw[e]
     simp only[aL]
     refine af.bind (ap2 (.int .u8) c s) fun xs s1=>?_
     have:∀l:List Int,(l.map (aA (.int .u8))).mapM (fun x=>match x with| [.int .u8 n]=>some (UInt8.ofNat n.toNat)|_=>none)=some (l.map fun n=>UInt8.ofNat n.toNat):=by
      intro l
      induction l with
      |nil=>rfl
      |cons n l ih=>rw[List.map_cons,List.mapM_cons,ih];rfl
     rw[this xs]
     exact af.ret rfl
    ·exact af.fail
   ·exact af.fail
  ·exact af.fail
 ·rename_i h1 h2
  split
  ·split
   ·rename_i hb
    obtain⟨b,z,hh⟩:=aqg hb
    simp only[pY,h1,h2,ai,cE,hh]
    exact af.ret (by simp[ai,cE,lC,aA,Ty.w,Ty.e,jc,aR])
   ·exact af.fail
  ·exact af.fail
 ·exact af.fail
theorem ain:∀(cs:List E),eO (aq cs)=kK cs
 | []=>rfl
 |c :: cs=>by
  have ih:=ain cs
  cases c with
  |ptr k off=>simp only[aq,List.map_cons,cE,eO,kK]at ih ⊢;rw[ih]
  |bW f caps=>simp only[aq,List.map_cons,cE,eO,kK]at ih ⊢;rw[ih]
  |l m t xs=>cases m<;>exact ih
  |n m t o=>cases m<;>cases o<;>exact ih
  |gone b=>cases b<;>exact ih
  |it m t xs sn=>cases m<;>exact ih
  |_=>exact ih
theorem aio:∀(vs:List aj),(vs.map ai).flatMap SV.cells=aq (vs.flatMap aj.cells)
 | []=>rfl
 |v :: vs=>by simp only[List.map_cons,List.flatMap_cons,aio vs,zR,ad3]
theorem aee {p:PE E} {q:Prog D} {s:aG} (hp:af s p mU q) (hx:(p.both s).box (fun x=>kJ x.1=true)):af s p cE (q.bind fun d=>Prog.ret (C.d d)):=by
 unfold af at hp ⊢
 refine Tr.kM ?_ (Tr.apG hp hx)
 rintro ⟨c,s',f,g⟩ ⟨⟨fr,fw,h1,i1,i2⟩,h2⟩
 simp only at h1 h2 i1 i2 ⊢
 refine⟨fr,fw,?_,i1,i2⟩
 rw[aih,h1]
 obtain⟨d,e⟩:=aii h2
 simp only[Prog.both,mU,e,wJ,List.append_nil]
theorem aef (c:E) (s:aG):((nU c).both s).box (fun x=>kJ x.1=true):=by
 have one:∀(c:E),((jS c).both s).box (fun x=>kJ x.1=true):=by
  intro c
  have lst:∀{α:Type} (p:PE α) (d:E),kJ d=true→((p.bind fun _=>PE.ret d).both s).box (fun x=>kJ x.1=true):=by
   intro α p d hd
   rw[gF,Tr.qZ]
   generalize p.both s=tr
   induction tr with
   |leaf a=>exact hd
   |fail=>trivial
   |br c t e cS cT=>exact⟨fun _=>cS,fun _=>cT⟩
   |call d o k ih=>exact fun x _=>ih x
   |sum o k k' ih cM=>exact⟨fun x _=>ih x,fun x _=>cM x⟩
  have dat:∀{c:E},kJ c=true→jS c=PE.ret c→((jS c).both s).box (fun x=>kJ x.1=true):=by
   intro c hd he
   rw[he];exact hd
  cases c with
  |l m t xs=>
   cases m with
   |aD r j hv cv k=>
    simp only[jS,PE.both,aL]
    rw[Tr.nZ]
    cases vV:(s.get r).hv==hv&&(s.get r).cv==cv with
    |false=>trivial
    |true=>exact lst _ _ rfl
   |data=>exact dat rfl rfl
   |own=>trivial
  |n m t o=>
   cases m with
   |aD r j hv cv k=>
    simp only[jS,PE.both,aL]
    rw[Tr.nZ]
    cases vV:(s.get r).hv==hv&&(s.get r).cv==cv with
    |false=>trivial
    |true=>exact lst _ _ rfl
   |data=>exact dat rfl rfl
   |own=>trivial
  |i=>exact dat rfl rfl
  |b=>exact dat rfl rfl
  |tt=>exact dat rfl rfl
  |ff=>exact dat rfl rfl
  |s=>exact dat rfl rfl
  |nil=>exact dat rfl rfl
  |aK=>exact dat rfl rfl
  |_=>trivial
 unfold nU
 rw[aL,gF,Tr.qZ]
 have same:∀c',((PE.ret c').both s).box fun a=>(((jS a.1).both a.2.1).map fun y=>(y.1,y.2.1,a.2.2.1++y.2.2.1,a.2.2.2++y.2.2.2)).box (fun x=>kJ x.1=true):=by
  intro c'
  show(((jS c').both s).map _).box _
  rw[Tr.nZ]
  exact one c'
 cases c with
 |n m t o=>
  cases m with
  |aD r j hv cv k=>
   cases r with
   |arg i=>exact⟨fun _=>same _,fun _=>same _⟩
   |_=>exact same _
  |_=>exact same _
 |_=>exact same _
theorem aqi (cfg:aP) (c:E) (s:aG):af s (adR cfg c) cE (qa cfg (cE c)):=by
 unfold adR
 cases c with
 |l m t xs=>
  cases m with
  |aD r j hv cv k=>
   cases r with
   |tmp u=>
    simp only[aib,qa,cE,lC,bind_eq]
    cases hu:cfg.keep u with
    |true=>simp only[if_true];exact af.ret rfl
    |false=>
     simp only[Bool.false_eq_true,if_false]
     exact aee (wK (.l (.aD (.tmp u) j hv cv k) t xs) s) (aef _ s)
   |_=>exact af.ret rfl
  |_=>exact af.ret rfl
 |n m t o=>
  cases m with
  |aD r j hv cv k=>
   cases r with
   |tmp u=>
    simp only[aib]
    cases hu:cfg.keep u with
    |true=>
     cases o with
     |none=>exact af.ret rfl
     |some xs=>simp only[qa,cE,lC,hu,if_true];exact af.ret rfl
    |false=>
     have h:=aee (wK (.n (.aD (.tmp u) j hv cv k) t o) s) (aef _ s)
     cases o with
     |none=>exact h
     |some xs=>
      simp only[qa,cE,lC,hu,Bool.false_eq_true,if_false,bind_eq]
      exact h
   |_=>cases o<;>exact af.ret rfl
  |_=>cases o<;>exact af.ret rfl
 |gone b=>cases b<;>exact af.ret rfl
 |it m t xs sn=>cases m<;>first|exact af.ret rfl|exact af.fail
 |_=>exact af.ret rfl
theorem aqj (cfg:aP):∀(cs:List E) (s:aG),af s (zI cfg cs) aq (sE cfg (aq cs))
 | [],s=>af.ret rfl
 |c :: cs,s=>by
  show af s (zI cfg (c :: cs)) aq (sE cfg (cE c :: aq cs))
  simp only[zI,sE,aL,bind_eq]
  exact af.bind (aqi cfg c s) fun c' s1=>af.bind (aqj cfg cs s1) fun cs' s2=>af.ret rfl
theorem az0 (cfg:aP) (v:aj) (s:aG):af s (wv cfg v) ai (mj cfg (ai v)):=by
 cases v with
 |one c=>
  show af s (wv cfg (.one c)) ai (mj cfg (.one (cE c)))
  simp only[wv,mj,aL,bind_eq]
  exact af.bind (aqi cfg c s) fun c' s1=>af.ret rfl
 |agg cs=>
  show af s (wv cfg (.agg cs)) ai (mj cfg (.agg (aq cs)))
  simp only[wv,mj,aL,bind_eq]
  exact af.bind (aqj cfg cs s) fun c' s1=>af.ret rfl
 |_=>exact af.fail
theorem aqk (cfg:aP):∀(vs:List aj) (s:aG),af s (adS cfg vs) (List.map ai) (vA cfg (vs.map ai))
 | [],s=>af.ret rfl
 |v :: vs,s=>by
  simp only[List.map_cons,adS,vA,aL,bind_eq]
  exact af.bind (az0 cfg v s) fun c' s1=>af.bind (aqk cfg vs s1) fun cs' s2=>af.ret rfl
theorem aql (ks:List Key) (c:E) (s:aG):af s (wz ks c) cE (canon ks (cE c)):=by
 cases c with
 |l m t xs=>
  cases m with
  |own=>exact af.fail
  |data=>exact af.ret rfl
  |aD r j hv cv k=>
   simp only[wz,canon,cE,lC]
   refine af.get ?_
   simp only[aL,bind_eq]
   refine af.sure fun hs=>?_
   simp only[Bool.and_eq_true,beq_iff_eq]at hs
   rw[bt (p:=(bJ (s.get r)).hv=hv∧(bJ (s.get r)).cv=cv) hs]
   rw[gP]
   have own:∀(b:Bool),b=ks.all (fun k=> !eu r (.box k))→af s ((sure b).bind fun _=>PE.ret (E.l .own t xs)) cE ((need (∀k∈ks,r≠ .box k)).bind fun _=>Prog.ret (C.own t.e (xs.map (aA t)))):=by
    intro b hb
    refine af.sure fun h=>?_
    rw[bt (by
     intro k hk he
     rw[hb]at h
     have:=List.all_eq_true.1 h k hk
     rw[(kO r (.box k)).2 he]at this
     cases this)]
    exact af.ret rfl
   cases ha:(s.get r).at j with
   |l m' t' ys=>
    cases m' with
    |own=>exact own _ rfl
    |data=>exact af.ret rfl
    |aD=>exact af.fail
   |n m' t' o=>
    cases m' with
    |own=>exact af.call fun x hx=>by subst hx;exact own _ rfl
    |data=>exact af.call fun x hx=>by subst hx;exact af.ret rfl
    |aD=>exact af.fail
   |_=>exact af.fail
 |n m t o=>
  cases m with
  |aD r j hv cv k=>
   cases o with
   |none=>
    simp only[wz]
    refine af.look ?_
    simp only[aL]
    refine af.sure fun hs=>?_
    cases ha:(s.get r).at j with
    |n m' t' o'=>
     cases m' with
     |own=>exact rq fun _=>af.sure fun _=>af.ret rfl
     |data=>exact rq fun _=>af.ret rfl
     |aD=>exact af.fail
    |_=>exact af.fail
   |some xs=>
    simp only[wz,canon,cE,lC]
    refine af.get ?_
    simp only[aL,bind_eq]
    refine af.sure fun hs=>?_
    simp only[Bool.and_eq_true,beq_iff_eq]at hs
    rw[bt (p:=(bJ (s.get r)).hv=hv∧(bJ (s.get r)).cv=cv) hs]
    rw[gP]
    cases ha:(s.get r).at j with
    |n m' t' o'=>
     cases m' with
     |own=>
      refine rq fun⟨t2,o2,h1,h2⟩=>?_
      rw[ha]at h1
      cases o' with
      |none=>(rcases h1 with h1|h1<;>cases h1);cases h2
      |some ys=>
       refine af.sure fun h=>?_
       simp only[cE,lC]
       rw[bt (by
        intro k hk he
        have:=List.all_eq_true.1 h k hk
        rw[(kO r (.box k)).2 he]at this
        cases this)]
       exact af.ret rfl
     |data=>
      refine rq fun⟨t2,o2,h1,h2⟩=>?_
      rw[ha]at h1
      cases o' with
      |none=>(rcases h1 with h1|h1<;>cases h1);cases h2
      |some ys=>exact af.ret rfl
     |aD=>exact af.fail
    |_=>exact af.fail
  |own=>exact af.fail
  |data=>cases o<;>exact af.ret rfl
 |gone b=>exact af.fail
 |ea=>exact af.fail
 |da=>exact af.fail
 |dead=>exact af.fail
 |it=>exact af.fail
 |_=>exact af.ret rfl
theorem aqm (ks:List Key):∀(cs:List E) (s:aG),af s (zJ ks cs) aq (oK ks (aq cs))
 | [],s=>af.ret rfl
 |c :: cs,s=>by
  show af s (zJ ks (c :: cs)) aq (oK ks (cE c :: aq cs))
  simp only[zJ,oK,aL,bind_eq]
  exact af.bind (aql ks c s) fun c' s1=>af.bind (aqm ks cs s1) fun cs' s2=>af.ret rfl
theorem az1 (ks:List Key) (v:aj) (s:aG):af s (wA ks v) ai (ke ks (ai v)):=by
 cases v with
 |one c=>
  show af s (wA ks (.one c)) ai (ke ks (.one (cE c)))
  simp only[wA,ke,aL,bind_eq]
  exact af.bind (aql ks c s) fun c' s1=>af.ret rfl
 |agg cs=>
  show af s (wA ks (.agg cs)) ai (ke ks (.agg (aq cs)))
  simp only[wA,ke,aL,bind_eq]
  exact af.bind (aqm ks cs s) fun c' s1=>af.ret rfl
 |_=>exact af.fail
theorem aqn (ks:List Key):∀(vs:List aj) (s:aG),af s (adT ks vs) (List.map ai) (qb ks (vs.map ai))
 | [],s=>af.ret rfl
 |v :: vs,s=>by
  simp only[List.map_cons,adT,qb,aL,bind_eq]
  exact af.bind (az1 ks v s) fun c' s1=>af.bind (aqn ks vs s1) fun cs' s2=>af.ret rfl
theorem aqo {c:E} (h:nW c=true):plain (cE c)=true:=by
 cases c with
 |l m t xs=>cases m<;>first|rfl|cases h
 |n m t o=>cases m<;>cases o<;>first|rfl|cases h
 |_=>first|rfl|cases h
theorem az2 {cs:List E} (h:cs.all nW=true):(aq cs).all plain=true:=by
 simp only[aq,List.all_map,List.all_eq_true,Function.comp_apply]at h ⊢
 exact fun c hc=>aqo (h c hc)
theorem aqp {ks:List Key} {c:E} (h:iK ks c=true):tok ks (cE c)=true:=by
 cases c with
 |ptr k off=>
  simp only[iK,List.any_eq_true]at h
  obtain⟨q,hq,e⟩:=h
  rw[fQ]at e
  subst e
  simpa[tok,cE]using hq
 |l m t xs=>cases m<;>first|rfl|cases h
 |n m t o=>cases m<;>cases o<;>first|rfl|cases h
 |_=>first|rfl|cases h
theorem az3 {ks:List Key} {cs:List E} (h:cs.all (iK ks)=true):(aq cs).all (tok ks)=true:=by
 simp only[aq,List.all_map,List.all_eq_true,Function.comp_apply]at h ⊢
 exact fun c hc=>aqp (h c hc)
theorem aqq {ks:List Key} {c:E} (h:iK ks c=true):cE (eL ks c)=tc ks (cE c):=by
 cases c with
 |ptr k off=>rfl
 |l m t xs=>cases m<;>first|rfl|cases h
 |n m t o=>cases m<;>cases o<;>first|rfl|cases h
 |_=>first|rfl|cases h
theorem aqr {ks:List Key}:∀{cs:List E},cs.all (iK ks)=true→aq (cs.map (eL ks))=(aq cs).map (tc ks)
 | [],_=>rfl
 |c :: cs,h=>by
  rw[List.all_cons,Bool.and_eq_true]at h
  show cE (eL ks c) :: aq (cs.map (eL ks))=tc ks (cE c) :: (aq cs).map (tc ks)
  rw[aqq h.1,aqr h.2]
theorem aqs {ks:List Key} {c:E} (h:iK ks c=true):bc ks (cE (eL ks c))=cE c:=by
 cases c with
 |ptr k off=>
  have hk:k∈ks:=by
   simp only[iK,List.any_eq_true]at h
   obtain⟨q,hq,e⟩:=h
   rw[fQ]at e
   subst e
   exact hq
  obtain⟨h1,h2⟩:=ade hk
  show C.ptr (ks.getD (idx k ks) default) off=C.ptr k off
  rw[List.getD_eq_getElem?_getD,h2]
  rfl
 |l m t xs=>cases m<;>first|rfl|cases h
 |n m t o=>cases m<;>cases o<;>first|rfl|cases h
 |_=>first|rfl|cases h
theorem aqt {ks:List Key} {c:E} (h:iK ks c=true):eG ks.length (cE (eL ks c))=true:=by
 rw[aqq h];exact aot (aqp h)
theorem aqu {y:E} (h:adU (some y)=true):y= .dead∨nW y=true:=by
 cases y<;>first|exact .inl rfl|exact .inr h
theorem az4 {n:Nat} {c:C} (h:plain c=true):eG n c=true:=by cases c<;>first|rfl|cases h
theorem aqv {ks:List Key}:∀{cs:List E} {o:List (Option E)},cs.all (iK ks)=true→o.all adU=true→
  (aq (cI (cs.map (eL ks)) o)).map (bc ks)=aq (cI cs o)∧(aq (cI (cs.map (eL ks)) o)).all (eG ks.length)=true
 | [],_,_,_=>⟨rfl,rfl⟩
 |c :: cs,[],h,_=>by
  have hh:∀{l:List E},l.all (iK ks)=true→(aq (l.map (eL ks))).map (bc ks)=aq l∧(aq (l.map (eL ks))).all (eG ks.length)=true:=by
   intro l
   induction l with
   |nil=>intro _;exact⟨rfl,rfl⟩
   |cons a l ih=>
    intro h
    rw[List.all_cons,Bool.and_eq_true]at h
    obtain⟨i1,i2⟩:=ih h.2
    refine⟨?_,?_⟩
    ·show bc ks (cE (eL ks a)) :: (aq (l.map (eL ks))).map (bc ks)=cE a :: aq l
     rw[aqs h.1,i1]
    ·show(eG ks.length (cE (eL ks a))&&(aq (l.map (eL ks))).all (eG ks.length))=true
     rw[aqt h.1,i2];rfl
  exact hh h
 |c :: cs,x :: o,h,g=>by
  rw[List.all_cons,Bool.and_eq_true]at h g
  obtain⟨i1,i2⟩:=aqv h.2 g.2
  cases x with
  |none=>
   refine⟨?_,?_⟩
   ·show bc ks (cE (eL ks c)) :: (aq (cI (cs.map (eL ks)) o)).map (bc ks)=cE c :: aq (cI cs o)
    rw[aqs h.1,i1]
   ·show(eG ks.length (cE (eL ks c))&&(aq (cI (cs.map (eL ks)) o)).all (eG ks.length))=true
    rw[aqt h.1,i2];rfl
  |some y=>
   rcases aqu g.1 with rfl|hy0
   ·refine⟨?_,?_⟩
    ·show bc ks (cE .dead) :: (aq (cI (cs.map (eL ks)) o)).map (bc ks)=cE .dead :: aq (cI cs o)
     rw[i1];rfl
    ·show(eG ks.length (cE .dead)&&(aq (cI (cs.map (eL ks)) o)).all (eG ks.length))=true
     rw[i2];rfl
   have hy:plain (cE y)=true:=aqo hy0
   refine⟨?_,?_⟩
   ·show bc ks (cE y) :: (aq (cI (cs.map (eL ks)) o)).map (bc ks)=cE y :: aq (cI cs o)
    rw[aox hy,i1]
   ·show(eG ks.length (cE y)&&(aq (cI (cs.map (eL ks)) o)).all (eG ks.length))=true
    rw[az4 hy,i2];rfl
theorem aip (kk:List Key):∀(ks:List Key) (s:aG),af s (mS kk ks) (List.map aq) (sF kk ks)
 | [],s=>af.ret rfl
 |k :: ks,s=>by
  simp only[mS,sF,aL,bind_eq]
  refine af.get ?_
  cases hv:(s.get (.box k)).v with
  |agg cs=>
   simp only[bJ,hv,ai]
   refine af.sure fun h=>?_
   rw[bt (az3 h)]
   exact af.bind (aip kk ks s) fun r s1=>af.ret (by rw[List.map_cons,aqr h])
  |_=>simp only[bJ,hv,ai];exact af.fail
theorem az5 (cs:List E):eO (aq cs)=kK cs:=by
 induction cs with
 |nil=>rfl
 |cons c cs ih=>
  cases c with
  |l m t xs=>cases m<;>exact ih
  |n m t o=>cases m<;>cases o<;>exact ih
  |ptr k off=>exact congrArg (k :: ·) ih
  |bW f caps=>exact congrArg (caps.map (·.1)++ ·) ih
  |gone b=>cases b<;>exact ih
  |it m t xs sn=>cases m<;>exact ih
  |_=>exact ih
theorem aqw:∀(ks:List Key) (s:aG),af s (adV ks) (fun l=>l) (vB ks)
 | [],s=>af.ret rfl
 |k :: ks,s=>by
  simp only[adV,vB,aL,bind_eq]
  refine af.get ?_
  cases hv:(s.get (.box k)).v with
  |agg cs=>
   simp only[bJ,hv,ai]
   exact af.bind (aqw ks s) fun r s1=>af.ret (by rw[az5])
  |_=>simp only[bJ,hv,ai];exact af.fail
theorem aiq {α:Type} (r:ah) (x:cx) (k:Unit→PE α):(iH r x).bind k= .put r x (k ()):=rfl
theorem aeg {α:Type} (r:ah) (x:RV) (k:Unit→Prog α):(cY r x).bind k= .put r x (k ()):=rfl
def Holds (kk:List Key) (s:aG):List Key→List (List E)→Prop
 | [],[]=>True
 |k :: ks,b :: bs=>(∃o,(s.get (.box k)).v= .agg o∧o.all (iK kk)=true∧b=o.map (eL kk))∧Holds kk s ks bs
 |_,_=>False
theorem Holds.other {kk:List Key} {s:aG} {k:Key} {os:List (Option E)} {cs:List E} (h:(s.get (.box k)).v= .agg cs):∀{ks:List Key} {bs:List (List E)},k ∉ ks→Holds kk s ks bs→Holds kk (s.wr k os) ks bs
 | [],[],_,hh=>hh
 | [],_ :: _,_,hh=>hh.elim
 |_ :: _,[],_,hh=>hh.elim
 |q :: ks,b :: bs,hk,hh=>by
  simp only[List.mem_cons,not_or]at hk
  refine⟨?_,Holds.other h hk.2 hh.2⟩
  rw[zS s k os _ h,if_neg (by simpa using Ne.symm hk.1)]
  exact hh.1
theorem aqx (kk:List Key):∀(ks:List Key) (s:aG),((mS kk ks).both s).box fun x=>x.2.1=s∧Holds kk s ks x.1
 | [],s=>⟨rfl,trivial⟩
 |k :: ks,s=>by
  simp only[mS,PE.both,Tr.nZ,aL]
  cases hv:(s.get (.box k)).v with
  |agg cs=>
   cases hp:cs.all (iK kk)with
   |false=>simp only[hp];exact trivial
   |true=>
    simp only[hp]
    show(((mS kk ks).bind fun r=>PE.ret (cs.map (eL kk) :: r)).both s).box _
    rw[gF,Tr.qZ]
    refine Tr.kM ?_ (aqx kk ks s)
    rintro ⟨a,s',f,g⟩ ⟨h1,h2⟩
    simp only at h1 h2
    subst h1
    exact⟨rfl,⟨cs,hv,hp,rfl⟩,h2⟩
  |_=>exact trivial
theorem az6 {e:E} (h:nW e=true) {k:Key} {off:Nat}:cE e≠ .ptr k off:=by
 cases e with
 |l m t xs=>cases m<;>simp[cE,lC]
 |n m t o=>cases o<;>cases m<;>simp[cE,lC]
 |ptr=>cases h
 |gone b=>cases b<;>simp[cE]
 |it=>cases h
 |_=>simp[cE]
theorem aqy {c:E} {k:Key} {off:Nat} (h:cE c= .ptr k off):c= .ptr k off:=by
 cases c with
 |l m t xs=>cases m<;>simp[cE,lC]at h
 |n m t o=>cases o<;>cases m<;>simp[cE,lC]at h
 |ptr=>simp[cE]at h;obtain⟨rfl,rfl⟩:=h;rfl
 |gone b=>cases b<;>simp[cE]at h
 |it m t xs sn=>cases m<;>simp[cE,mC]at h
 |_=>simp[cE]at h
theorem az7 {cs:List E} {o:List (Option E)} (h:o.all adU=true):qc (.agg (aq cs)) (aq (cI cs o))=zK cs o:=by
 cases hk:zK cs o with
 |true=>
  unfold zK at hk
  split at hk
  ·simp[cI,aq,cE,qc]
  ·simp[cI,aq,cE,qc]
  ·cases hk
 |false=>
  cases hs:qc (.agg (aq cs)) (aq (cI cs o))with
  |false=>rfl
  |true=>
   obtain⟨k,off,h1,h2⟩:=aoA hs
   simp only[SV.agg.injEq,aq]at h1
   cases cs with
   |nil=>cases h1
   |cons c cs=>
    simp only[List.map_cons,List.cons.injEq,List.map_eq_nil_iff]at h1
    obtain⟨h3,rfl⟩:=h1
    obtain rfl:=aqy h3
    cases o with
    |nil=>cases hk
    |cons x o=>
     cases x with
     |none=>cases hk
     |some e=>
      rw[List.all_cons,Bool.and_eq_true]at h
      simp only[cI,aq,List.map_cons,List.cons.injEq]at h2
      rcases aqu h.1 with rfl|h0
      ·exact absurd h2.1 (by simp[cE])
      ·exact absurd h2.1 (az6 h0)
theorem aad (kk:List Key):∀(ks:List Key) (bs:List (List E)) (os:List (List (Option E))) (s:aG),ks.length≤os.length→ks.Nodup→Holds kk s ks bs→af s (zL kk ks (os.take ks.length)) (fun _=>()) (nF kk ks (((fy bs os).map aq).take ks.length))
 | [],[],os,s,_,_,_=>by simp only[List.length_nil,List.take_zero];exact af.ret rfl
 | [],b :: bs,os,s,_,_,h=>h.elim
 |k :: ks,[],os,s,_,_,h=>h.elim
 |k :: ks,b :: bs,[],s,hl,_,_=>by simp at hl
 |k :: ks,b :: bs,o :: os,s,hl,hn,h=>by
  simp only[List.length_cons,List.take_succ_cons,fy,List.map_cons,zL,nF,aL,bind_eq]
  obtain⟨⟨orig,ho,hok,rfl⟩,h2⟩:=h
  refine af.get ?_
  rw[ho]
  refine af.sure fun hp=>?_
  rw[Bool.and_eq_true]at hp
  obtain⟨e1,e2⟩:=aqv (ks:=kk) hp.1 hp.2
  have hn':=List.nodup_cons.1 hn
  rw[bt e2,e1]
  have ev:(bJ (s.get (.box k))).v= .agg (aq orig):=by simp only[bJ,ho,ai]
  rw[ev,az7 hp.2]
  cases zK orig o with
  |true=>exact aad kk ks bs os _ (by simpa using hl) hn'.2 h2
  |false=>
   simp only
   rw[aeg]
   exact af.wr ho rfl (aad kk ks bs os _ (by simpa using hl) hn'.2 (Holds.other ho hn'.1 h2))
theorem aeh (t:Nat):∀(bs:List (List E)) (i:Nat) (s:aG),af s (adW t i bs) (fun _=>()) (escape t i (bs.map aq))
 | [],i,s=>af.ret rfl
 |b :: bs,i,s=>by
  simp only[List.map_cons,adW,escape,aL,bind_eq]
  refine af.get ?_
  cases hv:(s.get (.box (.esc t i))).v with
  |undef=>
   simp only[bJ,hv,ai]
   refine af.sure fun h=>?_
   rw[bt (az2 h),aiq,aeg]
   exact af.put rfl rfl (aeh t bs (i+1) _)
  |_=>simp only[bJ,hv,ai];exact af.fail
theorem air {args:List aj} {l:List (Nat×Nat)} (h:aic args l=true):vC (args.map ai) l=true:=by
 simp only[aic,vC,List.all_eq_true]at h ⊢
 intro p hp
 have h1:=h p hp
 have e:((args.map ai).getD p.1 .undef).cells.getD p.2 .dead=cE ((args.getD p.1 .undef).cells.getD p.2 .dead):=by
  have e1:(args.map ai).getD p.1 .undef=ai (args.getD p.1 .undef):=getD_map ai args p.1 .undef
  rw[e1,zR]
  exact getD_map cE _ p.2 .dead
 rw[e]
 obtain⟨d,hd⟩:=aii h1
 rw[hd]
theorem aqz (ks:List Key) (t:Nat) (c:E) (s:aG):af s (adX ks t c) cE (back ks t (cE c)):=by
 cases c with
 |l m t xs=>cases m<;>first|exact af.ret rfl|exact af.fail
 |n m t o=>cases m<;>cases o<;>first|exact af.ret rfl|exact af.fail
 |ptr k off=>cases k<;>first|exact af.ret rfl|exact af.fail
 |bW f caps=>
  simp only[adX,back,cE,aL,bind_eq]
  refine af.sure fun h=>?_
  rw[bt (by simpa using h)]
  exact af.ret rfl
 |ea=>exact af.fail
 |da=>exact af.fail
 |dead=>exact af.fail
 |gone b=>exact af.fail
 |it=>exact af.fail
 |_=>exact af.ret rfl
theorem ais (ks:List Key) (t:Nat):∀(cs:List E) (s:aG),af s (wB ks t cs) aq (nG ks t (aq cs))
 | [],s=>af.ret rfl
 |c :: cs,s=>by
  show af s (wB ks t (c :: cs)) aq (nG ks t (cE c :: aq cs))
  simp only[wB,nG,aL,bind_eq]
  exact af.bind (aqz ks t c s) fun c' s1=>af.bind (ais ks t cs s1) fun cs' s2=>af.ret rfl
theorem aqA (ks:List Key) (t:Nat):∀(vs:List (Bool×List E)) (s:aG),af s (zM ks t vs) dB (oL ks t (dB vs))
 | [],s=>af.ret rfl
 |(b,cs) :: vs,s=>by
  show af s (zM ks t ((b,cs) :: vs)) dB (oL ks t ((b,aq cs) :: dB vs))
  simp only[zM,oL,aL,bind_eq]
  exact af.bind (ais ks t cs s) fun c' s1=>af.bind (aqA ks t vs s1) fun cs' s2=>af.ret rfl
theorem ait (ks:List Key) (t:Nat) (v:aj) (s:aG):af s (qY ks t v) ai (ia ks t (ai v)):=by
 cases v with
 |one c=>
  show af s (qY ks t (.one c)) ai (ia ks t (.one (cE c)))
  simp only[qY,ia,aL,bind_eq]
  exact af.bind (aqz ks t c s) fun c' s1=>af.ret rfl
 |agg cs=>
  show af s (qY ks t (.agg cs)) ai (ia ks t (.agg (aq cs)))
  simp only[qY,ia,aL,bind_eq]
  exact af.bind (ais ks t cs s) fun c' s1=>af.ret rfl
 |aJ vs=>
  show af s (qY ks t (.aJ vs)) ai (ia ks t (.aJ (dB vs)))
  simp only[qY,ia,aL,bind_eq]
  exact af.bind (aqA ks t vs s) fun c' s1=>af.ret rfl
 |undef=>exact af.fail
theorem aei {kk:List Key}:∀(ks:List Key) (bs:List (List E)) (os:List (List (Option E))) (s:aG),Holds kk s ks bs→ks.length≤os.length→(fy bs os).drop ks.length=(os.drop ks.length).map qV
 | [],[],os,s,_,_=>by simp[fy]
 | [],_ :: _,os,s,h,_=>h.elim
 |_ :: _,[],os,s,h,_=>h.elim
 |k :: ks,b :: bs,[],s,_,hl=>by simp at hl
 |k :: ks,b :: bs,o :: os,s,h,hl=>by
  simp only[fy,List.length_cons,List.drop_succ_cons]
  exact aei ks bs os s h.2 (by simpa using hl)
theorem aej {kk:List Key}:∀(ks:List Key) (bs:List (List E)) (os:List (List (Option E))) (s:aG),Holds kk s ks bs→ks.length≤os.length→ks.length≤(fy bs os).length
 | [],_,os,s,_,_=>Nat.zero_le _
 |_ :: _,[],os,s,h,_=>h.elim
 |k :: ks,b :: bs,[],s,_,hl=>by simp at hl
 |k :: ks,b :: bs,o :: os,s,h,hl=>by
  simp only[fy,List.length_cons]
  have:=aej ks bs os s h.2 (by simpa using hl)
  omega
theorem az8 (cfg:c8) (f:FuncId) (args:List aj) (t:Nat) (s:aG):af s (aid cfg f args t) ai (acw cfg.c f (args.map ai) t):=by
 unfold aid acw
 show af s _ _ (match(match cfg.az t f with|some K=>some K.F|none=>none)with|none=>Prog.fail|some F=>_)
 cases cfg.az t f with
 |none=>exact af.fail
 |some K=>
  simp only[aL,bind_eq]
  refine af.bind (aqk cfg.c args s) fun vs s1=>?_
  rw[aio,ain]
  refine af.bind (aqw _ s1) fun more s1b=>?_
  refine af.bind (aqn _ vs s1b) fun c9 s2=>af.apQ (R:=fun bs s3=>Holds (dedup (kK (vs.flatMap aj.cells)++more)) s3 (dedup (kK (vs.flatMap aj.cells)++more)) bs) (aip _ _ s2) (Tr.kM (fun x hx=>by obtain⟨h1,h2⟩:=hx;rw[h1];exact h2) (aqx _ _ s2)) fun bs s3 hb=>?_
  cases hm:K.di c9 bs with
  |none=>exact af.fail
  |some x=>
   refine af.call fun y hy=>?_
   have hF:=K.ok c9 bs x y hm hy
   simp only[hF]
   cases htw:K.two with
   |false=>
    rw[K.one htw y]
    show af s3 (tM K _ c9 t x y true) ai _
    ·unfold tM
     simp only[aL]
     refine af.sure fun h=>?_
     simp only[Bool.and_eq_true,Nat.ble_eq]at h
     rw[bt (by
      simp only[List.length_map]
      exact⟨aej _ _ _ _ hb h.1,air h.2⟩)]
     rw[←List.map_drop,aei _ _ _ _ hb h.1]
     exact af.bind (aad _ _ bs _ s3 h.1 (vR _) hb) fun _ s4=>af.bind (aeh t _ 0 s4) fun _ s5=>ait _ t _ s5
   |true=>
    refine af.br (fun hfl=>?_) (fun hfl=>?_)
    ·rw[hfl]
     unfold tM
     simp only[aL]
     refine af.sure fun h=>?_
     simp only[Bool.and_eq_true,Nat.ble_eq]at h
     rw[bt (by
      simp only[List.length_map]
      exact⟨aej _ _ _ _ hb h.1,air h.2⟩)]
     rw[←List.map_drop,aei _ _ _ _ hb h.1]
     exact af.bind (aad _ _ bs _ s3 h.1 (vR _) hb) fun _ s4=>af.bind (aeh t _ 0 s4) fun _ s5=>ait _ t _ s5
    ·rw[hfl]
     unfold tM
     simp only[aL]
     refine af.sure fun h=>?_
     simp only[Bool.and_eq_true,Nat.ble_eq]at h
     rw[bt (by
      simp only[List.length_map]
      exact⟨aej _ _ _ _ hb h.1,air h.2⟩)]
     rw[←List.map_drop,aei _ _ _ _ hb h.1]
     exact af.bind (aad _ _ bs _ s3 h.1 (vR _) hb) fun _ s4=>af.bind (aeh t _ 0 s4) fun _ s5=>ait _ t _ s5
theorem aAb (o:Operand) (s:aG):af s (apE o) (fun p=>(p.1,p.2.map ai)) (acy o):=by
 have gen:∀o,af s ((eg o).bind fun c=>match c with| .bW f caps=>PE.ret (f,caps.map fun p=>aj.one (.ptr p.1 p.2))|_=>.fail) (fun p=>(p.1,p.2.map ai))
   ((dw o).bind fun c=>match c with| .bW f caps=>Prog.ret (f,caps.map fun p=>SV.one (.ptr p.1 p.2))|_=>.fail):=by
  intro o
  refine af.bind (ek o s) fun c s1=>?_
  cases c with
  |bW f caps=>exact af.ret (by simp[ai,cE])
  |l m t xs=>cases m<;>exact af.fail
  |n m t o=>cases m<;>cases o<;>exact af.fail
  |_=>exact af.fail
 cases o with
 |func f=>exact af.ret rfl
 |tmp t=>exact gen (.tmp t)
 |const v=>exact gen (.const v)
 |global g=>exact gen (.global g)
theorem aqB (cfg:aP) (c:E) (r:ah):zN cfg c r=yC cfg (cE c) r:=by
 unfold zN yC
 cases c with
 |l m t xs=>cases m<;>rfl
 |n m t o=>cases m<;>cases o<;>rfl
 |ptr k off=>cases k<;>rfl
 |gone b=>cases b<;>rfl
 |it m t xs sn=>cases m<;>rfl
 |_=>rfl
theorem aqC (self:ah×Nat) (u:Operand) (c:E) (s:aG):af s (zO self u c) cE (qd self u (cE c)):=by
 cases c with
 |l m t xs=>
  cases m with
  |aD r j hv cv k=>
   simp only[zO,qd,cE,lC]
   cases hu:lq u r with
   |true=>exact zU (some self) (lq u) (.l (.aD r j hv cv k) t xs) s
   |false=>exact af.ret rfl
  |_=>exact af.ret rfl
 |n m t o=>
  cases m with
  |aD r j hv cv k=>
   simp only[zO]
   cases hu:lq u r with
   |true=>
    cases o with
    |none=>exact zU (some self) (lq u) (.n (.aD r j hv cv k) t none) s
    |some xs=>
     refine af.rm (zU (some self) (lq u) (.n (.aD r j hv cv k) t (some xs)) s) ?_
     simp only[qd,cE,lC,hu,if_true]
   |false=>
    cases o with
    |none=>exact af.ret rfl
    |some xs=>
     refine af.rm (af.ret rfl) ?_
     show(if lq u r=true then _ else _)=_
     rw[if_neg (by simp[hu])]
     rfl
  |_=>cases o<;>exact af.ret rfl
 |gone b=>cases b<;>exact af.ret rfl
 |it m t xs sn=>cases m<;>first|exact af.ret rfl|exact af.fail
 |_=>exact af.ret rfl
theorem aiu (r:ah) (u:Operand):∀(cs:List E) (i:Nat) (s:aG),af s (wC r u i cs) aq (qe r u i (aq cs))
 | [],i,s=>af.ret rfl
 |c :: cs,i,s=>by
  show af s (wC r u i (c :: cs)) aq (qe r u i (cE c :: aq cs))
  simp only[wC,qe,aL,bind_eq]
  exact af.bind (aqC _ u c s) fun c' s1=>af.bind (aiu r u cs (i+1) s1) fun cs' s2=>af.ret rfl
theorem aqD (r:ah) (u:Operand):∀(vs:List (Bool×List E)) (i:Nat) (s:aG),af s (zP r u i vs) dB (sG r u i (dB vs))
 | [],i,s=>af.ret rfl
 |(b,cs) :: vs,i,s=>by
  show af s (zP r u i ((b,cs) :: vs)) dB (sG r u i ((b,aq cs) :: dB vs))
  simp only[zP,sG,aL,bind_eq,kN]
  exact af.bind (aiu r u cs i s) fun c' s1=>af.bind (aqD r u vs _ s1) fun cs' s2=>af.ret rfl
theorem aiv (r:ah) (u:Operand) (v:aj) (s:aG):af s (nX r u v) ai (iV r u (ai v)):=by
 cases v with
 |one c=>
  show af s (nX r u (.one c)) ai (iV r u (.one (cE c)))
  simp only[nX,iV,aL,bind_eq]
  exact af.bind (aqC _ u c s) fun c' s1=>af.ret rfl
 |agg cs=>
  show af s (nX r u (.agg cs)) ai (iV r u (.agg (aq cs)))
  simp only[nX,iV,aL,bind_eq]
  exact af.bind (aiu r u cs 0 s) fun c' s1=>af.ret rfl
 |aJ vs=>
  show af s (nX r u (.aJ vs)) ai (iV r u (.aJ (dB vs)))
  simp only[nX,iV,aL,bind_eq]
  exact af.bind (aqD r u vs 0 s) fun c' s1=>af.ret rfl
 |undef=>exact af.fail
theorem aek (o:Option Operand) (s:aG):af s (wD o) (fun x=>x) (qf o):=by
 cases o with
 |none=>exact af.ret rfl
 |some o=>
  simp only[wD,qf,aL,bind_eq]
  exact af.bind (ek o s) fun c s1=>af.bind (pH c s1) fun n s2=>af.ret rfl
theorem aqE (b:Bool) (vs:List aj) (s:aG):af s (adY b vs) ai (yD b (vs.map ai)):=by
 unfold adY
 split
 ·cases b<;>exact af.ret rfl
 ·exact af.fail
theorem aqF:∀{vs:List aj} {l:List (Key×Nat)},zQ vs=some l→(vs.map ai).mapM (fun v=>match v with| .one (.ptr k o)=>some (k,o)|_=>none)=some l
 | [],l,h=>by cases h;rfl
 |v :: r,l,h=>by
  unfold zQ at h
  split at h
  ·rename_i p l' h1 h2
   cases h
   have ih:=aqF h2
   rw[List.map_cons,List.mapM_cons,ih]
   unfold apF at h1
   split at h1
   ·cases h1;rfl
   ·cases h1
  ·cases h
end Go.Ve
namespace Go.Ve
open Go.Vs
theorem aqG:∀{a c:List D} (b d:List D),a.length=c.length→cw (a++b) (c++d)=(cw a c&&cw b d)
 | [],[],b,d,_=>by simp[cw]
 |x :: a,y :: c,b,d,h=>by simp[cw,aqG b d (by simpa using h),Bool.and_assoc]
 | [],_ :: _,_,_,h=>by simp at h
 |_ :: _,[],_,_,h=>by simp at h
theorem ael:∀{s t:List Sc} {a b:List D},bD s a=true→bD t b=true→bD (s++t) (a++b)=true
 | [],_,[],_,_,h=>h
 |k :: s,t,x :: a,b,h1,h2=>by
  cases k<;>cases x<;>simp only[bD,Bool.and_eq_true,Bool.false_eq_true]at h1
  ·simp only[List.cons_append,bD,Bool.and_eq_true];exact⟨h1.1,ael h1.2 h2⟩
  ·simp only[List.cons_append,bD];exact ael h1 h2
  ·simp only[List.cons_append,bD];exact ael h1 h2
 | [],_,_ :: _,_,h,_=>by cases h
 |k :: _,_,[],_,h,_=>by cases k<;>cases h
theorem pJ:∀{k:Ty} {sh:List Sc} (x:k.T),mQ k=some sh→bD sh (aA k x)=true
 | .int k,sh,x,h=>by cases h;simp[aA,bD]
 | .bool,sh,x,h=>by cases h;rfl
 | .str,sh,x,h=>by cases h;rfl
 | .pair a b,sh,x,h=>by
   simp only[mQ]at h
   split at h
   ·rename_i s t h1 h2
    cases h
    exact ael (pJ x.1 h1) (pJ x.2 h2)
   ·cases h
 | .sl _,_,_,h=>by cases h
 | .aU _ _ _,_,_,h=>by cases h
 | .set _,_,_,h=>by cases h
theorem aae:∀{k:Ty} {sh:List Sc} (x y:k.T),mQ k=some sh→cw (aA k x) (aA k y)=fX k x y
 | .int k,sh,x,y,h=>by simp[aA,cw,gT,fX]
 | .bool,sh,x,y,h=>by simp[aA,cw,gT,fX]
 | .str,sh,x,y,h=>by simp[aA,cw,gT,fX]
 | .pair a b,sh,x,y,h=>by
   simp only[mQ]at h
   split at h
   ·rename_i s t h1 h2
    simp only[aA,fX,aqG _ _ (by rw[eY,eY]:(aA a x.1).length=(aA a y.1).length),aae x.1 y.1 h1,aae x.2 y.2 h2]
   ·cases h
 | .sl _,_,_,_,h=>by cases h
 | .aU _ _ _,_,_,_,h=>by cases h
 | .set _,_,_,_,h=>by cases h
theorem aqH:∀{a c:List D} (b d:List D),a.length=c.length→lp (a++b) (c++d)=(lp a c||(cw a c&&lp b d))
 | [],[],b,d,_=>by simp[lp,cw]
 |x :: a,y :: c,b,d,h=>by
  simp only[List.cons_append,lp,cw,aqH b d (by simpa using h:a.length=c.length)]
  cases vt x y<;>cases gT x y<;>cases lp a c<;>cases cw a c<;>rfl
 | [],_ :: _,_,_,h=>by simp at h
 |_ :: _,[],_,_,h=>by simp at h
theorem aiw (a b:D):lp [a] [b]=vt a b:=by simp[lp]
theorem aix:∀{k:Ty} {sh:List Sc} (x y:k.T),mQ k=some sh→lp (aA k x) (aA k y)=nV k x y
 | .int k,sh,x,y,h=>by simp[aA,aiw,vt,nV]
 | .bool,sh,x,y,h=>by simp[aA,aiw,vt,nV]
 | .str,sh,x,y,h=>by simp[aA,aiw,vt,nV]
 | .pair a b,sh,x,y,h=>by
   simp only[mQ]at h
   split at h
   ·rename_i s t h1 h2
    simp only[aA,nV,aqH _ _ (by rw[eY,eY]:(aA a x.1).length=(aA a y.1).length),aix x.1 y.1 h1,aix x.2 y.2 h2,aae x.1 y.1 h1]
   ·cases h
 | .sl _,_,_,_,h=>by cases h
 | .aU _ _ _,_,_,_,h=>by cases h
 | .set _,_,_,_,h=>by cases h
section
variable {u:Bool} {k v:Ty} {sh:List Sc} (hk:mQ k=some sh)
theorem aaf (r:(Ty.aU u k v).T):(aA (.aU u k v) r).take k.w=aA k r.1:=by
 show(aA k r.1++aA v r.2).take k.w=_
 rw[List.take_append_of_le_length (by rw[eY];exact Nat.le_refl _),List.take_of_length_le (by rw[eY];exact Nat.le_refl _)]
theorem aiy (r:(Ty.aU u k v).T):(aA (.aU u k v) r).drop k.w=aA v r.2:=by
 show(aA k r.1++aA v r.2).drop k.w=_
 rw[List.drop_append_of_le_length (by rw[eY];exact Nat.le_refl _),List.drop_of_length_le (by rw[eY];exact Nat.le_refl _),List.nil_append]
include hk in
theorem aem (xs:List (Ty.aU u k v).T):jI sh k.w (xs.map (aA (.aU u k v)))=true:=by
 unfold jI
 rw[List.all_eq_true]
 intro y hy
 obtain⟨r,_,rfl⟩:=List.mem_map.1 hy
 rw[aaf]
 exact pJ _ hk
include hk in
theorem aag (x:k.T):∀(xs:List (Ty.aU u k v).T),(ep k.w (aA k x) (xs.map (aA (.aU u k v)))=none∧iJ k x xs=none∧zF k x xs=xs.length∧(∀z,wm k x z xs=xs++[(x,z)])∧∀y,mR k x y xs=xs++[(x,y)])∨
  ∃i r,ep k.w (aA k x) (xs.map (aA (.aU u k v)))=some i∧xs[i]? =some r∧iJ k x xs=some r.2∧zF k x xs=i∧(∀z,wm k x z xs=xs)∧∀y,mR k x y xs=xs.set i (x,y)
 | []=>.inl ⟨rfl,rfl,rfl,fun _=>rfl,fun _=>rfl⟩
 |r :: xs=>by
  have e:cw (aA k x) ((aA (.aU u k v) r).take k.w)=fX k x r.1:=by rw[aaf,aae x r.1 hk]
  simp only[List.map_cons,ep,e,iJ,zF,wm,mR]
  cases hq:fX k x r.1 with
  |true=>exact .inr ⟨0,r,by simp,rfl,rfl,rfl,fun _=>rfl,fun _=>rfl⟩
  |false=>
   simp only[Bool.false_eq_true,if_false]
   rcases aag x xs with⟨h1,h2,h3,h4,h5⟩|⟨i,r',h1,h2,h3,h4,h5,h6⟩
   ·exact .inl ⟨by rw[h1];rfl,h2,by rw[h3];rfl,fun z=>by rw[h4];rfl,fun y=>by rw[h5];rfl⟩
   ·exact .inr ⟨i+1,r',by rw[h1];rfl,by simpa using h2,h3,by rw[h4],fun z=>by rw[h5],fun y=>by rw[h6];rfl⟩
include hk in
theorem aqI (x:k.T) (y:v.T):∀(xs:List (Ty.aU u k v).T),vu k.w (aA k x) (aA k x++aA v y) (xs.map (aA (.aU u k v)))=(adN k x y xs).map (aA (.aU u k v))
 | []=>rfl
 |r :: xs=>by
  have e:lp (aA k x) ((aA (.aU u k v) r).take k.w)=nV k x r.1:=by rw[aaf,aix x r.1 hk]
  simp only[List.map_cons,vu,e,adN]
  cases hq:nV k x r.1 with
  |true=>rfl
  |false=>
   simp only[Bool.false_eq_true,if_false,List.map_cons]
   rw[aqI x y xs]
include hk in
theorem aqJ (xs:List (Ty.set k).T):jI sh k.w (xs.map (aA (.set k)))=true:=by
 unfold jI
 rw[List.all_eq_true]
 intro y hy
 obtain⟨r,_,rfl⟩:=List.mem_map.1 hy
 have:(aA (.set k) r).take k.w=aA k r:=List.take_of_length_le (by rw[show(aA (.set k) r).length=k.w from eY k r];exact Nat.le_refl _)
 rw[this]
 exact pJ _ hk
include hk in
theorem aiz (x:k.T):∀(xs:List (Ty.set k).T),(ep k.w (aA k x) (xs.map (aA (.set k)))=none∧wq k x xs=false∧wu k x xs=xs++[x])∨
  ∃i r,ep k.w (aA k x) (xs.map (aA (.set k)))=some i∧xs[i]? =some r∧wq k x xs=true∧wu k x xs=xs.set i x
 | []=>.inl ⟨rfl,rfl,rfl⟩
 |r :: xs=>by
  have e:cw (aA k x) ((aA (.set k) r).take k.w)=fX k x r:=by
   have:(aA (.set k) r).take k.w=aA k r:=List.take_of_length_le (by rw[show(aA (.set k) r).length=k.w from eY k r];exact Nat.le_refl _)
   rw[this,aae x r hk]
  simp only[List.map_cons,ep,e,wq,wu]
  cases hq:fX k x r with
  |true=>exact .inr ⟨0,r,by simp,rfl,rfl,rfl⟩
  |false=>
   simp only[Bool.false_eq_true,if_false]
   rcases aiz x xs with⟨h1,h2,h3⟩|⟨i,r',h1,h2,h3,h4⟩
   ·exact .inl ⟨by rw[h1];rfl,h2,by rw[h3];rfl⟩
   ·exact .inr ⟨i+1,r',by rw[h1];rfl,by simpa using h2,h3,by rw[h4];rfl⟩
end
theorem aah {sh:List Sc} {ki ei:TI} {k v:Ty} {vw:Nat} {va:Bool} (h:tJ sh ki ei k v vw va=true):mQ k=some sh∧k.w=ki.size∧k.agg=ki.kind.agg∧vw=ei.size∧va=ei.kind.agg:=by
 unfold tJ at h
 simp only[Bool.and_eq_true,beq_iff_eq]at h
 obtain⟨⟨⟨⟨h1,h2⟩,h3⟩,h4⟩,h5⟩:=h
 refine⟨?_,h2,h3,h4,h5⟩
 split at h1
 ·rename_i tK hs;rw[hs,of_decide_eq_true h1]
 ·cases h1
theorem ry (v:aj):(ai v).isAgg=v.isAgg:=by cases v<;>rfl
theorem aqK:∀(ds:List D),fH (ds.map .d)=some ds
 | []=>rfl
 |d :: ds=>by simp[fH,aqK ds]
theorem aai {k:Ty} {kv:aj} {x:k.T} (h:tL k kv=some x):(ai kv).key=some (aA k x)∧kv.isAgg=k.agg:=by
 unfold tL at h
 split at h
 ·rename_i cs h1 h2
  refine⟨?_,by simpa using h1⟩
  unfold SV.key
  rw[ru,h2]
  simp only[Option.map_some]
  rw[ad5 h,aqK]
 ·cases h
theorem aqL (t:Ty) {e:Nat} (he:t.e=e∨t.e=gw e) (r:ah) (j hv cv k:Nat) (xs:List t.T) (s:aG):af s (adO t r j hv) (List.map (aA t)) (oJ e (cE (.l (.aD r j hv cv k) t xs))):=by
 unfold adO
 simp only[oJ,cE,lC]
 refine af.get ?_
 simp only[bind_eq]
 refine af.sure fun hs=>?_
 rw[bt (show(bJ (s.get r)).hv=hv∧(t.e=e∨t.e=gw e)from⟨(by simpa using hs:(s.get r).hv=hv),he⟩)]
 rw[gP]
 cases ha:(s.get r).at j with
 |l m t2 ys=>
  cases m with
  |aD=>exact af.fail
  |_=>
   dsimp only
   split
   ·rename_i h;subst h;exact af.ret rfl
   ·exact af.fail
 |n m t2 o=>
  cases m with
  |aD=>exact af.fail
  |_=>
   dsimp only
   split
   ·rename_i h;subst h;exact af.call fun ys hy=>by subst hy;exact af.ret rfl
   ·exact af.fail
 |_=>exact af.fail
theorem aen (t:Ty) {e:Nat} (he:t.e=e∨t.e=gw e) (c:E) (s:aG):af s (pF t c) (List.map (aA t)) (oJ e (cE c)):=by
 cases c with
 |aK kk=>cases kk<;>first|exact af.ret rfl|exact af.fail
 |l m t' xs=>
  cases m with
  |own=>exact af.fail
  |data=>
   simp only[pF]
   split
   ·rename_i h
    subst h
    simp only[oJ,cE,lC,bind_eq]
    rw[bt he]
    exact af.ret rfl
   ·exact af.fail
  |aD r j hv cv k=>
   simp only[pF]
   split
   ·rename_i h
    subst h
    exact aqL t' he r j hv cv k xs s
   ·exact af.fail
 |n m t' o=>
  cases m with
  |own=>exact af.fail
  |data=>
   simp only[pF]
   split
   ·rename_i h
    subst h
    refine af.call fun xs hx=>?_
    subst hx
    simp only[oJ,cE,lC,bind_eq]
    rw[bt he]
    exact af.ret rfl
   ·exact af.fail
  |aD r j hv cv k=>
   simp only[pF]
   split
   ·rename_i h
    subst h
    refine af.call fun xs hx=>?_
    subst hx
    exact aqL t' he r j hv cv k xs s
   ·exact af.fail
 |_=>exact af.fail
theorem tN {ki ei:TI} {k v:Ty} (h1:k.w=ki.size) (h2:k.agg=ki.kind.agg) (h3:v.w=ei.size) (h4:v.agg=ei.kind.agg):cg ki ei=(Ty.aU false k v).e:=by
 simp only[cg,Ty.e,h1,h2,h3,h4]
theorem aeo {ki ei:TI} {k v:Ty} (u:Bool) (h1:k.w=ki.size) (h2:k.agg=ki.kind.agg) (h3:v.w=ei.size) (h4:v.agg=ei.kind.agg):(Ty.aU u k v).e=cg ki ei∨(Ty.aU u k v).e=gw (cg ki ei):=by
 cases u
 ·exact .inl (tN h1 h2 h3 h4).symm
 ·exact .inr (by simp only[cg,Ty.e,h1,h2,h3,h4])
theorem aaj {ki ei:TI} {k:Ty} (h1:k.w=ki.size) (h2:k.agg=ki.kind.agg) (h3:0=ei.size) (h4:true=ei.kind.agg):cg ki ei=(Ty.set k).e:=by
 simp only[cg,Ty.e,h1,h2,←h3,←h4]
theorem aqM {cfg:aP} {t kt:TypeId} {ki ei:TI} (h:gx cfg t=some (kt,ki,ei)):ki.size<32768∧ei.size<32768:=by
 unfold gx at h
 split at h
 ·split at h
  ·split at h
   ·rename_i hb;cases h;exact hb
   ·cases h
  ·cases h
 ·cases h
theorem aqN {cfg:aP} {t kt:TypeId} {ki ei:TI} (hm:gx cfg t=some (kt,ki,ei)) {u:Bool} {k v:Ty} (h1:k.w=ki.size) (h2:k.agg=ki.kind.agg) (h3:v.w=ei.size) (h4:v.agg=ei.kind.agg):eF (Ty.aU u k v).e=u:=by
 obtain⟨b1,b2⟩:=aqM hm
 have hl:=agt b1 b2
 cases u
 ·rw[←tN h1 h2 h3 h4];exact oX b1 b2
 ·have e:(Ty.aU true k v).e=gw (cg ki ei):=by simp only[cg,Ty.e,h1,h2,h3,h4]
  rw[e]
  unfold eF dL gw
  rw[Bool.and_eq_true]
  refine⟨Nat.ble_eq_true_of_le (by omega),?_⟩
  cases hh:Nat.ble 1099511627776 (cg ki ei+549755813888)
  ·rfl
  ·have:=Nat.le_of_ble_eq_true hh;omega
theorem aAc {cfg:aP} {t kt:TypeId} {ki ei:TI} (hm:gx cfg t=some (kt,ki,ei)) {k:Ty} (h1:k.w=ki.size) (h2:k.agg=ki.kind.agg) (h3:0=ei.size) (h4:true=ei.kind.agg):eF (Ty.set k).e=false:=by
 obtain⟨b1,b2⟩:=aqM hm
 rw[←aaj h1 h2 h3 h4];exact oX b1 b2
theorem aAd (v:Ty) (y:v.T) (s:aG) (g:Bool) (hg:v.agg=g):af s (ah2 v y) ai (yx g (aA v y)):=by
 unfold ah2 yx
 have hc:=gQ v y
 subst hg
 cases v.agg with
 |true=>exact af.ret (by simp only[ai,hc])
 |false=>
  dsimp only
  split
  ·rename_i c gX
   rw[gX]at hc
   match hy:aA v y,hc with
   | [d],hc=>
     simp only[aq,List.map_cons,List.map_nil,List.cons.injEq,and_true]at hc
     exact af.ret (by simp only[ai,hc])
   | [],hc=>simp[aq]at hc
   |_ :: _ :: _,hc=>simp[aq]at hc
  ·exact af.fail
theorem aAe (cfg:c8) (t:TypeId) (c:E) (kv:aj) (ok:Bool) (s:aG):af s (ah3 cfg t c kv ok) ai (yy cfg.c t (cE c) (ai kv) ok):=by
 unfold ah3
 split
 ·rename_i kt ki ei hm
  split
  ·rename_i sh z u k v hsc hz hR
   split
   ·rename_i x hx
    simp only[aL]
    refine af.sure fun h=>?_
    simp only[Bool.and_eq_true]at h
    obtain⟨⟨h1,h2⟩,h3⟩:=h
    obtain⟨hk,g1,g2,g3,g4⟩:=aah h1
    have fE:=aac h2
    obtain⟨q1,q2⟩:=aai hx
    simp only[yy,hm,hsc,hz,q1,bind_eq]
    rw[bt ⟨pJ x hk,by rw[eY,g1],by rw[ry,q2,g2],by rw[fE,eY,g3],by
     rw[←g3,←g4];simpa using h3⟩]
    refine af.bind (aen (.aU u k v) (aeo u g1 g2 g3 g4) c s) fun xs s1=>?_
    rw[bt (by rw[←g1];exact aem hk xs),←g1,←g4]
    have hrow:jl k.w (xs.map (aA (.aU u k v))) z (ep k.w (aA k x) (xs.map (aA (.aU u k v))))=aA v ((iJ k x xs).getD v.zero)∧(ep k.w (aA k x) (xs.map (aA (.aU u k v)))).isSome=(iJ k x xs).isSome:=by
     rcases aag hk x xs with⟨e1,e2,_⟩|⟨i,r,e1,e2,e3,_⟩
     ·rw[e1,e2];exact⟨fE,rfl⟩
     ·rw[e1,e3]
      refine⟨?_,rfl⟩
      simp only[jl,List.getD_eq_getElem?_getD,List.getElem?_map,e2,Option.map_some,Option.getD_some]
      exact aiy r
    rw[hrow.1,hrow.2]
    cases ok with
    |true=>
     refine af.ret ?_
     show _=SV.aJ [(v.agg,aq (dh v ((iJ k x xs).getD v.zero))),(false,[C.d (.bool (iJ k x xs).isSome)])]
     rw[gQ]
    |false=>exact aAd v _ s1 _ rfl
   ·exact af.fail
  ·rename_i sh k hsc hz hR
   split
   ·rename_i x hx
    simp only[aL]
    refine af.sure fun h1=>?_
    obtain⟨hk,g1,g2,g3,g4⟩:=aah h1
    obtain⟨q1,q2⟩:=aai hx
    simp only[yy,hm,hsc,hz,q1,bind_eq]
    rw[bt ⟨pJ x hk,by rw[eY,g1],by rw[ry,q2,g2],g3,.inl g4.symm⟩]
    refine af.bind (aen (.set k) (.inl (aaj g1 g2 g3 g4).symm) c s) fun xs s1=>?_
    rw[bt (by rw[←g1];exact aqJ hk xs),←g1,←g4]
    have hrow:jl k.w (xs.map (aA (.set k))) [] (ep k.w (aA k x) (xs.map (aA (.set k))))=[]∧(ep k.w (aA k x) (xs.map (aA (.set k)))).isSome=wq k x xs:=by
     rcases aiz hk x xs with⟨e1,e2,_⟩|⟨i,r,e1,e2,e3,_⟩
     ·rw[e1,e2];exact⟨rfl,rfl⟩
     ·rw[e1,e3]
      refine⟨?_,rfl⟩
      simp only[jl,List.getD_eq_getElem?_getD,List.getElem?_map,e2,Option.map_some,Option.getD_some]
      exact List.drop_of_length_le (by rw[show(aA (.set k) r).length=k.w from eY k r];exact Nat.le_refl _)
    rw[hrow.1,hrow.2]
    cases ok with
    |true=>exact af.ret rfl
    |false=>exact af.ret rfl
   ·exact af.fail
  ·exact af.fail
 ·exact af.fail
theorem aqO {α β:Type} (t:Ty) (r:ah) (j hv:Nat) (cond:Option (List t.T→Bool)) (F:List t.T→List t.T) (out:List t.T→α) (f:α→β) (s:aG) (p:Nat→Prop) [DecidablePred p] {e0:Nat} (he:p e0) (q:RV→Nat→List (List D)→Prog β)
  (hq:∀(x:RV) (ys:List t.T),(∀c,cond=some c→c ys=true)→q x t.e (ys.map (aA t))=(cY r { x with cv:=x.cv+1,v:=x.v.setCell j (.own t.e ((F ys).map (aA t))) }).bind fun _=>.ret (f (out ys))):
  af s (adQ t r j hv cond F out) f (.get r fun x=>(need (x.hv=hv∧r.isArg=false∧p e0)).bind fun _=>match x.at j with
   | .own e' ys=>q x e' ys
   |_=>.fail):=by
 unfold adQ
 refine af.get ?_
 refine af.sure fun hs=>?_
 simp only[Bool.and_eq_true,beq_iff_eq,Bool.not_eq_true']at hs
 rw[bt (show(bJ (s.get r)).hv=hv∧r.isArg=false∧p e0 from⟨hs.1,hs.2,he⟩)]
 rw[gP]
 have fin:∀(ys:List t.T),af s (adP t r j (s.get r) cond F out ys) f (q (bJ (s.get r)) t.e (ys.map (aA t))):=by
  intro ys
  have put:(∀c,cond=some c→c ys=true)→af s ((iH r { (s.get r)with cv:=(s.get r).cv+1,v:=(s.get r).v.setCell j (.l .own t (F ys)) }).bind fun _=>.ret (out ys)) f (q (bJ (s.get r)) t.e (ys.map (aA t))):=by
   intro hc
   rw[hq _ ys hc]
   refine af.put hs.2 ?_ (af.ret rfl)
   simp only[bJ,setCell_eq,cE,lC]
  unfold adP
  cases cond with
  |none=>exact put fun c h=>by cases h
  |some c=>exact af.ask fun h=>put fun c' h'=>by cases h';exact h
 cases ha:(s.get r).at j with
 |l m t2 ys=>
  cases m with
  |own=>
   dsimp only
   split
   ·rename_i h;subst h;exact fin ys
   ·exact af.fail
  |_=>exact af.fail
 |n m t2 o=>
  cases m with
  |own=>
   dsimp only
   split
   ·rename_i h;subst h;exact af.call fun ys hy=>by subst hy;exact fin ys
   ·exact af.fail
  |_=>exact af.fail
 |_=>exact af.fail
theorem aak {α β:Type} (t:Ty) (c:E) (cond:Option (List t.T→Bool)) (F:List t.T→List t.T) (out:List t.T→α) (f:α→β) (s:aG) (p:Nat→Prop) [DecidablePred p] (he:p t.e) (q:ah→Nat→RV→Nat→List (List D)→Prog β)
  (hq:∀(r:ah) (j:Nat) (x:RV) (ys:List t.T),(∀c,cond=some c→c ys=true)→q r j x t.e (ys.map (aA t))=(cY r { x with cv:=x.cv+1,v:=x.v.setCell j (.own t.e ((F ys).map (aA t))) }).bind fun _=>.ret (f (out ys))):
  af s (qX t c cond F out) f (match cE c with
   | .aD r j hv _ e _ _=>.get r fun x=>(need (x.hv=hv∧r.isArg=false∧p e)).bind fun _=>match x.at j with
     | .own e' ys=>q r j x e' ys
     |_=>.fail
   |_=>.fail):=by
 cases c with
 |l m t' xs=>
  cases m with
  |aD r j hv cv k=>
   simp only[qX]
   split
   ·rename_i h
    subst h
    exact aqO t' r j hv cond F out f s p he (q r j) (hq r j)
   ·exact af.fail
  |_=>exact af.fail
 |n m t' o=>
  cases m with
  |aD r j hv cv k=>
   simp only[qX]
   split
   ·rename_i h
    subst h
    refine af.call fun xs hx=>?_
    subst hx
    exact aqO t' r j hv cond F out f s p he (q r j) (hq r j)
   ·exact af.fail
  |_=>exact af.fail
 |_=>exact af.fail
theorem aqP (cfg:c8) (t:TypeId) (c:E) (kv vv:aj) (s:aG):af s (ah4 cfg t c kv vv) (fun _=>()) (sD cfg.c t (cE c) (ai kv) (ai vv)):=by
 unfold ah4
 split
 ·rename_i kt ki ei hm
  split
  ·rename_i sh u k v hsc hR
   split
   ·rename_i x vc hx mJ
    simp only[aL]
    refine af.sure fun h=>?_
    simp only[Bool.and_eq_true,beq_iff_eq]at h
    obtain⟨⟨h1,h2⟩,h3⟩:=h
    obtain⟨hk,g1,g2,g3,g4⟩:=aah h1
    obtain⟨q1,q2⟩:=aai hx
    simp only[sD,hm,hsc,q1,ru,mJ,Option.map_some,bind_eq]
    rw[bt ⟨pJ x hk,by rw[eY,g1],by rw[ry,q2,g2],by rw[kN,h3,g3],by rw[ry,h2,g4]⟩]
    refine af.bind (zW vc s) fun ds s1=>?_
    cases hrow:iI v ds with
    |none=>exact af.fail
    |some y=>
     have hy:ds.map mU=aA v y:=by
      have:=ad9 hrow
      exact this
     rw[hy]
     cases u with
     |false=>
      refine aak (.aU false k v) c none (fun xs=>mR k x y xs) (fun _=>()) (fun _=>()) s1 (fun e=>e=cg ki ei∨e=gw (cg ki ei)) (aeo false g1 g2 g3 g4) (fun r j x' e' ys=>(need (jI sh ki.size ys=true)).bind fun _=>cY r { x' with cv:=x'.cv+1,v:=x'.v.setCell j (.own e' (putRow (eF e') ki.size (aA k x) (aA v y) ys)) }) ?_
      intro r j x' ys _
      rw[bt (by rw[←g1];exact aem hk ys),aqN (cfg:=cfg.c) hm g1 g2 g3 g4,←g1]
      show cY _ _=cY _ _
      congr 4
      simp only[putRow,yz]
      rcases aag hk x ys with⟨e1,_,_,_,e5⟩|⟨i,r',e1,_,_,_,_,e6⟩
      ·rw[e1,e5]
       simp only[List.map_append,List.map_cons,List.map_nil]
       rfl
      ·rw[e1,e6]
       simp only[List.map_set]
       rfl
     |true=>
      refine aak (.aU true k v) c none (fun xs=>ah1 k x y xs) (fun _=>()) (fun _=>()) s1 (fun e=>e=cg ki ei∨e=gw (cg ki ei)) (aeo true g1 g2 g3 g4) (fun r j x' e' ys=>(need (jI sh ki.size ys=true)).bind fun _=>cY r { x' with cv:=x'.cv+1,v:=x'.v.setCell j (.own e' (putRow (eF e') ki.size (aA k x) (aA v y) ys)) }) ?_
      intro r j x' ys _
      rw[bt (by rw[←g1];exact aem hk ys),aqN (cfg:=cfg.c) hm g1 g2 g3 g4,←g1]
      show cY _ _=cY _ _
      congr 4
      simp only[putRow,acr,ah1]
      rcases aag hk x ys with⟨e1,e2,_⟩|⟨i,r',e1,_,e3,_,_,e6⟩
      ·rw[e1,e2]
       exact aqI hk x y ys
      ·rw[e1,e3,Option.isSome_some]
       simp only[e6,List.map_set]
       rfl
   ·exact af.fail
  ·rename_i sh k hsc hR
   split
   ·rename_i x hx mJ
    simp only[aL]
    refine af.sure fun h=>?_
    simp only[Bool.and_eq_true]at h
    obtain⟨h1,h2⟩:=h
    obtain⟨hk,g1,g2,g3,g4⟩:=aah h1
    obtain⟨q1,q2⟩:=aai hx
    simp only[sD,hm,hsc,q1,ru,mJ,Option.map_some,bind_eq]
    rw[bt ⟨pJ x hk,by rw[eY,g1],by rw[ry,q2,g2],g3,by rw[ry,h2,g4]⟩]
    show af s _ _ ((Prog.ret []).bind _)
    refine aak (.set k) c none (fun xs=>wu k x xs) (fun _=>()) (fun _=>()) s (fun e=>e=cg ki ei∨e=gw (cg ki ei)) (.inl (aaj g1 g2 g3 g4).symm) (fun r j x' e' ys=>(need (jI sh ki.size ys=true)).bind fun _=>cY r { x' with cv:=x'.cv+1,v:=x'.v.setCell j (.own e' (putRow (eF e') ki.size (aA k x) [] ys)) }) ?_
    intro r j x' ys _
    rw[bt (by rw[←g1];exact aqJ hk ys),aAc (cfg:=cfg.c) hm g1 g2 g3 g4,←g1]
    show cY _ _=cY _ _
    congr 4
    simp only[putRow,yz]
    rcases aiz hk x ys with⟨e1,_,e5⟩|⟨i,r',e1,_,_,e6⟩
    ·rw[e1,e5]
     simp only[List.map_append,List.map_cons,List.map_nil,List.append_nil]
     rfl
    ·rw[e1,e6]
     simp only[List.map_set,List.append_nil]
     rfl
   ·exact af.fail
  ·exact af.fail
 ·exact af.fail
theorem aqQ {u:Bool} {k v:Ty} (y:v.T):∀(n:Nat) (xs:List (Ty.aU u k v).T),n<xs.length→(wo y n xs).map (aA (.aU u k v))=(xs.map (aA (.aU u k v))).set n (((xs.map (aA (.aU u k v))).getD n []).take k.w++aA v y)
 |0,r :: xs,_=>by
  simp only[wo,List.map_cons,List.set_cons_zero,List.getD_cons_zero,aaf]
  rfl
 |n+1,r :: xs,h=>by
  simp only[wo,List.map_cons,List.set_cons_succ,List.getD_cons_succ]
  rw[aqQ y n xs (by simpa using h)]
 |_,[],h=>by simp at h
theorem aAf (cfg:c8) (t:TypeId) (c st:E) (vv:aj) (s:aG):af s (ah6 cfg t c st vv) (fun _=>()) (yA cfg.c t (cE c) (cE st) (ai vv)):=by
 unfold ah6
 split
 ·rename_i kt ki ei k v kk n vc hm hR mJ
  simp only[aL]
  refine af.sure fun h=>?_
  simp only[Bool.and_eq_true,beq_iff_eq]at h
  obtain⟨⟨⟨⟨⟨g1,g2⟩,g3⟩,g4⟩,h2⟩,h3⟩:=h
  simp only[yA,hm,cE,ru,mJ,Option.map_some,bind_eq]
  rw[bt ⟨by rw[kN,h3,g3],by rw[ry,h2,g4]⟩]
  refine af.bind (zW vc s) fun ds s1=>?_
  cases hrow:iI v ds with
  |none=>exact af.fail
  |some y=>
   rw[show ds.map mU=aA v y from ad9 hrow]
   refine aak (.aU false k v) c (some fun xs=>decide (0≤n∧n<ag xs)) (fun xs=>wo y n.toNat xs) (fun _=>()) (fun _=>()) s1 (fun e=>e=cg ki ei) (tN g1 g2 g3 g4).symm (fun r j x' e' ys=>(need (0≤n∧n<ys.length)).bind fun _=>cY r { x' with cv:=x'.cv+1,v:=x'.v.setCell j (.own e' (ys.set n.toNat ((ys.getD n.toNat []).take ki.size++aA v y))) }) ?_
   intro r j x' ys hc
   have hb:=of_decide_eq_true (hc _ rfl)
   simp only[ag]at hb
   rw[bt (by simpa using hb),←g1,aqQ y n.toNat ys (by omega)]
   rfl
 ·exact af.fail
theorem aAg (cfg:c8) (t:TypeId) (c:E) (kv:aj) (s:aG):af s (ah5 cfg t c kv) ai (acs cfg.c t (cE c) (ai kv)):=by
 unfold ah5
 split
 ·rename_i kt ki ei hm
  split
  ·rename_i sh z k v hsc hz hR
   split
   ·rename_i x hx
    simp only[aL]
    refine af.sure fun h=>?_
    simp only[Bool.and_eq_true]at h
    obtain⟨⟨h1,h2⟩,h3⟩:=h
    obtain⟨hk,g1,g2,g3,g4⟩:=aah h1
    have fE:=aac h2
    obtain⟨q1,q2⟩:=aai hx
    simp only[acs,hm,hsc,hz,q1,bind_eq]
    rw[bt ⟨pJ x hk,by rw[eY,g1],by rw[ry,q2,g2],by rw[fE,eY,g3],by
     rw[←g3,←g4];simpa using h3⟩]
    refine aak (.aU false k v) c none (fun xs=>wm k x v.zero xs) _ ai s (fun e=>e=cg ki ei) (tN g1 g2 g3 g4).symm (fun r j x' e' xs=>(need (jI sh ki.size xs=true)).bind fun _=>
     (cY r { x' with cv:=x'.cv+1,v:=x'.v.setCell j (.own e' (if(ep ki.size (aA k x) xs).isSome=true then xs else xs++[aA k x++z])) }).bind fun _=>
     .ret (.aJ [(ei.kind.agg,(jl ki.size xs z (ep ki.size (aA k x) xs)).map .d),(false,[.d (.int .i64 ((ep ki.size (aA k x) xs).getD xs.length:Nat))])])) ?_
    intro r j x' ys _
    rw[bt (by rw[←g1];exact aem hk ys),←g1,←g4]
    rcases aag hk x ys with⟨e1,e2,e3,e4,_⟩|⟨i,r',e1,e2,e3,e4,e5,_⟩
    ·rw[e1,e2,e3,e4,fE]
     simp only[Option.isSome_none,Bool.false_eq_true,if_false,jl,List.map_append,List.map_cons,List.map_nil,Option.getD_none,List.length_map]
     congr 1
     funext _
     show Prog.ret (SV.aJ [(v.agg,(aA v v.zero).map C.d),(false,[C.d (.int .i64 ys.length)])])=Prog.ret (SV.aJ [(v.agg,aq (dh v v.zero)),(false,[C.d (.int .i64 ys.length)])])
     rw[gQ]
    ·rw[e1,e3,e4,e5]
     simp only[Option.isSome_some,if_true,Option.getD_some]
     congr 1
     funext _
     have hrow:jl k.w (ys.map (aA (.aU false k v))) z (some i)=aA v r'.2:=by
      simp only[jl,List.getD_eq_getElem?_getD,List.getElem?_map,e2,Option.map_some,Option.getD_some]
      exact aiy r'
     rw[hrow]
     show Prog.ret (SV.aJ [(v.agg,(aA v r'.2).map C.d),(false,[C.d (.int .i64 i)])])=Prog.ret (SV.aJ [(v.agg,aq (dh v r'.2)),(false,[C.d (.int .i64 i)])])
     rw[gQ]
   ·exact af.fail
  ·exact af.fail
 ·exact af.fail
theorem aAh (cfg:c8) (t:TypeId) (dst:Nat) (s:aG):af s (ah7 cfg t dst) ai (yB cfg.c t dst):=by
 unfold ah7
 split
 ·rename_i kt ki ei u k v hm hR
  simp only[aL]
  refine af.sure fun h=>?_
  simp only[Bool.and_eq_true,beq_iff_eq]at h
  obtain⟨⟨⟨⟨g1,g2⟩,g3⟩,g4⟩,hu⟩:=h
  simp only[yB,hm]
  have fK:cfg.c.un.contains dst=u:=hu.symm
  rw[fK]
  refine af.ret ?_
  cases u
  ·simp only[ai,cE,lC,tN g1 g2 g3 g4,List.map_nil,vp]
  ·simp only[ai,cE,lC,Ty.e,cg,g1,g2,g3,g4,List.map_nil,vp]
 ·rename_i kt ki ei k hm hR
  simp only[aL]
  refine af.sure fun h=>?_
  simp only[Bool.and_eq_true,beq_iff_eq]at h
  obtain⟨⟨⟨⟨g1,g2⟩,g3⟩,g4⟩,hu⟩:=h
  simp only[yB,hm]
  have fK:cfg.c.un.contains dst=false:=by rw[Bool.not_eq_true']at hu;exact hu
  rw[fK]
  exact af.ret (by simp only[ai,cE,lC,aaj g1 g2 g3 g4,List.map_nil,vp])
 ·exact af.fail
theorem aAi (cfg:c8) (t:TypeId) (c:E) (s:aG):af s (aia cfg t c) ai (vz cfg.c t (cE c)):=by
 unfold aia
 split
 ·rename_i kt ki ei u k v hm hR
  simp only[aL]
  refine af.sure fun h=>?_
  simp only[Bool.and_eq_true,beq_iff_eq]at h
  obtain⟨⟨⟨g1,g2⟩,g3⟩,g4⟩:=h
  simp only[vz,hm,bind_eq]
  exact af.bind (aen _ (aeo u g1 g2 g3 g4) c s) fun xs s1=>af.ret (by simp[ez,ej,ai,cE,ag])
 ·rename_i kt ki ei k hm hR
  simp only[aL]
  refine af.sure fun h=>?_
  simp only[Bool.and_eq_true,beq_iff_eq]at h
  obtain⟨⟨⟨g1,g2⟩,g3⟩,g4⟩:=h
  simp only[vz,hm,bind_eq]
  exact af.bind (aen _ (.inl (aaj g1 g2 g3 g4).symm) c s) fun xs s1=>af.ret (by simp[ez,ej,ai,cE,ag])
 ·exact af.fail
theorem aAj:dL jF=true:=rfl
theorem aAk (cfg:c8) (t:TypeId) (c:E) (s:aG):af s (ah8 cfg t c) ai (acu cfg.c t (cE c)):=by
 unfold ah8
 split
 ·rename_i kt ki ei k v hm hR
  simp only[aL]
  refine af.sure fun h=>?_
  simp only[Bool.and_eq_true,beq_iff_eq]at h
  obtain⟨⟨⟨g1,g2⟩,g3⟩,g4⟩:=h
  simp only[acu,hm,bind_eq]
  refine af.bind (wK c s) fun d s1=>?_
  split
  ·rename_i t' xs
   split
   ·rename_i h
    subst h
    show af s1 _ ai (match D.sl (Ty.aU false k v).e (xs.map (aA (Ty.aU false k v)))with
     | .sl e xs=>(need (e=cg ki ei)).bind fun _=>.ret (.one (.own jF [[.sl e xs],[]]))
     |_=>.fail)
    simp only[]
    rw[bt (tN g1 g2 g3 g4).symm]
    exact af.ret rfl
   ·exact af.fail
  ·rename_i t' o
   split
   ·rename_i h
    subst h
    refine af.call fun xs hx=>?_
    subst hx
    show af s1 _ ai (match D.sl (Ty.aU false k v).e (xs.map (aA (Ty.aU false k v)))with
     | .sl e xs=>(need (e=cg ki ei)).bind fun _=>.ret (.one (.own jF [[.sl e xs],[]]))
     |_=>.fail)
    simp only[]
    rw[bt (tN g1 g2 g3 g4).symm]
    exact af.ret rfl
   ·exact af.fail
  ·exact af.fail
 ·exact af.fail
theorem aqR {u:Bool} {k v:Ty} (h:zH u k v=true) (r:(Ty.aU u k v).T):dB (zG k v r)=mh (Ty.aU u k v).e (aA (.aU u k v) r):=by
 unfold zH at h
 simp only[Bool.and_eq_true,beq_iff_eq]at h
 obtain⟨⟨h1,h2⟩,h3⟩:=h
 unfold mh
 rw[h1,h2,h3,aaf,aiy]
 simp only[dB,zG,List.map_cons,List.map_nil,gQ]
theorem aqS {t:Ty} (xs:List t.T) (i:Nat) (d:t.T) (h:i<xs.length):(xs.map (aA t)).getD i []=aA t (xs.getD i d):=by
 rw[List.getD_eq_getElem?_getD,List.getD_eq_getElem?_getD,List.getElem?_map,List.getElem?_eq_getElem h]
 rfl
theorem aAl (c:E) (s:aG):af s (ah9 c) ai (acv (cE c)):=by
 cases c with
 |it m t0 lF sn0=>
  cases m with
  |aD r j hv cv k0=>
   simp only[ah9,acv,cE,mC,aL,bind_eq]
   refine af.get ?_
   refine af.sure fun hs=>?_
   simp only[Bool.and_eq_true,beq_iff_eq,Bool.not_eq_true']at hs
   rw[bt (show(bJ (s.get r)).hv=hv∧r.isArg=false∧dL jF=true from⟨hs.1,hs.2,rfl⟩)]
   rw[gP]
   cases ha:(s.get r).at j with
   |it m t xs sn=>
    cases m with
    |own=>
     cases t with
     |aU u k v=>
      cases sn with
      |nil=>exact af.fail
      |cons i sn=>
       dsimp only
       refine af.sure fun h1=>?_
       refine af.ask fun h2=>?_
       have h2:=(gY _ _).1 h2
       show af s _ ai ((need (0≤(i:Int)∧((i:Int)).toNat<((xs.map (aA (Ty.aU u k v))):List (List D)).length)).bind fun _=>.ret (.aJ (mh (Ty.aU u k v).e ((xs.map (aA (Ty.aU u k v))).getD ((i:Int)).toNat []))))
       rw[bt ⟨by omega,by simpa using h2⟩]
       refine af.ret ?_
       show _=SV.aJ (dB (zG k v _))
       rw[aqR h1,Int.toNat_natCast,aqS (t:=Ty.aU u k v) xs i (k.zero,v.zero) h2]
     |_=>exact af.fail
    |_=>exact af.fail
   |_=>exact af.fail
  |_=>exact af.fail
 |_=>exact af.fail
end Go.Ve
namespace Go.Ve
open Go.Vs
theorem aAm (c a b:Operand) (s:aG):af s ((eg c).bind fun c'=>match c' with
  | .tt=>dy a
  | .ff=>dy b
  | .b x=>.br x ((know c true).bind fun _=>dy a) ((know c false).bind fun _=>dy b)
  |_=>.fail) ai ((dw c).bind fun c'=>(vq c').bind fun b'=>if b'=true then ev a else ev b):=by
 have kn:∀(c':E) (s':aG),(∀t,c≠ .tmp t)→af s' (match c' with
  | .tt=>dy a
  | .ff=>dy b
  | .b x=>.br x ((know c true).bind fun _=>dy a) ((know c false).bind fun _=>dy b)
  |_=>.fail) ai ((vq (cE c')).bind fun b'=>if b'=true then ev a else ev b):=by
  intro c' s' hc
  have e:∀b,know c b= .ret ():=by
   intro b
   cases c with
   |tmp t=>exact absurd rfl (hc t)
   |_=>rfl
  cases c' with
  |tt=>exact dV a s'
  |ff=>exact dV b s'
  |b x=>
   simp only[e,apS]
   refine af.br (fun h=>?_) fun h=>?_
   ·subst h;exact dV a s'
   ·subst h;exact dV b s'
  |l m t xs=>cases m<;>exact af.fail
  |n m t o=>cases m<;>cases o<;>exact af.fail
  |_=>exact af.fail
 cases c with
 |tmp t=>
  have e1:eg (.tmp t)= .get (.tmp t) fun x=>(match x.v with| .undef=>PE.fail|_=>.ret (x.copy (.tmp t))).bind ahC:=rfl
  have e2:dw (.tmp t)= .get (.tmp t) fun x=>(match x.v with| .undef=>Prog.fail|_=>.ret (x.copy (.tmp t))).bind ym:=rfl
  rw[e1,e2]
  refine af.get ?_
  dsimp only
  have hc:=copy_eq (s.get (.tmp t)) (.tmp t)
  cases hv:(s.get (.tmp t)).v with
  |undef=>exact af.fail
  |agg cs=>
   have h1:(s.get (.tmp t)).copy (.tmp t)= .agg (tF (.tmp t) (s.get (.tmp t)) 0 cs):=by unfold cx.copy;rw[hv]
   rw[h1];exact af.fail
  |aJ cs=>
   have h1:(s.get (.tmp t)).copy (.tmp t)= .aJ (zw (.tmp t) (s.get (.tmp t)) 0 cs):=by unfold cx.copy;rw[hv]
   rw[h1];exact af.fail
  |one c0=>
   have h1:(s.get (.tmp t)).copy (.tmp t)= .one (qQ (.tmp t) (s.get (.tmp t)) 0 c0):=by unfold cx.copy;rw[hv]
   have h2:(bJ (s.get (.tmp t))).copy (.tmp t)= .one (cE (qQ (.tmp t) (s.get (.tmp t)) 0 c0)):=by rw[←hc,h1];rfl
   have h3:(bJ (s.get (.tmp t))).v= .one (cE c0):=by simp only[bJ,hv,ai]
   rw[h1,h2,h3]
   show af s ((PE.ret (qQ (.tmp t) (s.get (.tmp t)) 0 c0)).bind _) _ ((Prog.ret (cE (qQ (.tmp t) (s.get (.tmp t)) 0 c0))).bind _)
   rw[apS]
   show af s _ _ ((vq (cE (qQ (.tmp t) (s.get (.tmp t)) 0 c0))).bind fun b'=>if b'=true then ev a else ev b)
   cases c0 with
   |tt=>exact dV a s
   |ff=>exact dV b s
   |b x=>
    refine af.br (fun h=>?_) fun h=>?_
    ·have:=af.know (s:=s) (p:=dy a) (f:=ai) (q:=ev a) hv h (dV a _)
     subst h
     exact this
    ·have:=af.know (s:=s) (p:=dy b) (f:=ai) (q:=ev b) hv h (dV b _)
     subst h
     exact this
   |l m t xs=>cases m<;>exact af.fail
   |n m t o=>cases m<;>cases o<;>exact af.fail
   |it m t xs sn=>cases m<;>exact af.fail
   |_=>exact af.fail
 |_=>exact af.bind (ek _ s) fun c' s1=>kn c' s1 (by intro t h;cases h)
theorem aAn (cfg:c8) (t:TypeId) (dst:Nat) (s:aG):af s (dz cfg (.alloc t) dst) ai (bp cfg.c (.alloc t) dst):=by
 simp only[dz,bp]
 split
 ·rename_i size bytes kind z h
  simp only[h,aL,bind_eq]
  refine af.sure fun hz=>?_
  rw[bt (by simpa using hz)]
  refine af.get ?_
  cases hv:(s.get (.box (.loc dst))).v with
  |undef=>
   simp only[bJ,hv,ai]
   cases ho:pz z with
   |none=>exact af.fail
   |some cs=>
    simp only[aiq,aeg]
    refine af.put rfl ?_ (af.ret rfl)
    simp only[bJ,ai,aec ho]
  |_=>simp only[bJ,hv,ai];exact af.fail
 ·exact af.fail
theorem aAo (cfg:c8) (t:TypeId) (x:Operand) (dst:Nat) (s:aG):af s (dz cfg (.box t x) dst) ai (bp cfg.c (.box t x) dst):=by
 simp only[dz,bp,aL,bind_eq]
 refine af.bind (dV x s) fun v s1=>?_
 rw[ru]
 cases v.dM with
 |none=>exact af.fail
 |some cs=>
  simp only[Option.map_some]
  have e:zN cfg.c (.ptr (.loc dst) 0)=yC cfg.c (.ptr (.loc dst) 0):=by funext r;exact aqB _ _ _
  rw[e]
  refine af.bind (zV _ _ cs 0 s1) fun cs' s2=>af.get ?_
  cases hv:(s2.get (.box (.loc dst))).v with
  |undef=>
   simp only[bJ,hv,ai,aiq,aeg]
   exact af.put rfl rfl (af.ret rfl)
  |_=>simp only[bJ,hv,ai];exact af.fail
theorem aAp (cfg:c8) (op:BinOp) (t:TypeId) (x y:Operand) (yt:TypeId) (dst:Nat) (s:aG):af s (dz cfg (.binOp op t x y yt) dst) ai (bp cfg.c (.binOp op t x y yt) dst):=by
 simp only[dz,bp,aL,bind_eq]
 refine af.bind (dV x s) fun v s1=>af.bind (dV y s1) fun u s2=>?_
 cases v<;>cases u<;>first|exact azD _ _ _ _ _ _|exact azE _ _ _ _ _ _|exact af.fail
theorem aAq (cfg:c8) (op:UnOp) (t:TypeId) (x:Operand) (dst:Nat) (s:aG):af s (dz cfg (.unOp op t x) dst) ai (bp cfg.c (.unOp op t x) dst):=by
 simp only[dz,bp,aL,bind_eq]
 refine af.bind (ek x s) fun c s1=>?_
 cases c with
 |l m t xs=>cases m<;>cases op<;>exact af.fail
 |n m t o=>cases m<;>cases o<;>cases op<;>exact af.fail
 |i k n=>cases op<;>first|exact af.ret rfl|exact ap3 _ _ _ _ _|exact af.fail
 |_=>cases op<;>first|exact af.ret rfl|exact af.fail
theorem aAr (cfg:c8) (f:Fn) (first captured:Array Operand) (dst:Nat) (s:aG):af s (dz cfg (.makeFunc f first captured) dst) ai (bp cfg.c (.makeFunc f first captured) dst):=by
 cases f with
 |func f=>
  simp only[dz,bp,aL,bind_eq]
  refine af.sure fun h=>?_
  rw[bt (by
   have:first.toList=[]:=by simpa using h
   exact Array.toList_inj.1 (by simpa using this))]
  refine af.bind (zT _ s) fun vs s1=>?_
  cases hp:zQ vs with
  |none=>exact af.fail
  |some l=>
   have:=congrArg (fun o:Option (List (Key×Nat))=>match o with|some l=>Prog.ret (SV.one (.bW f l))|none=>.fail) (aqF hp)
   exact af.rm (af.ret rfl) this
 |_=>exact af.fail
theorem aAs (cfg:c8) (t:TypeId) (x:Operand) (lo hi mx:Option Operand) (dst:Nat) (s:aG):af s (dz cfg (.slice t x lo hi mx) dst) ai (bp cfg.c (.slice t x lo hi mx) dst):=by
 cases mx with
 |some m=>exact af.fail
 |none=>
  simp only[dz,bp]
  split
  ·rename_i h
   simp only[h,aL,bind_eq]
   exact af.bind (dV x s) fun v s1=>af.bind (aek lo s1) fun l s2=>af.bind (aek hi s2) fun h s3=>azX _ _ _ s3
  ·rename_i h
   simp only[h]
   split
   ·rename_i h2
    simp only[h2,aL,bind_eq]
    exact af.bind (dV x s) fun v s1=>af.bind (aek lo s1) fun l s2=>af.bind (aek hi s2) fun h s3=>azY _ _ _ _ s3
   ·exact af.fail
  ·exact af.fail
theorem aAt (cfg:c8) (t:TypeId) (x:Operand) (f:Nat) (dst:Nat) (s:aG):af s (dz cfg (.field t x f) dst) ai (bp cfg.c (.field t x f) dst):=by
 simp only[dz,bp,aL,bind_eq]
 refine af.bind (dV x s) fun v s1=>?_
 split
 ·rename_i h
  simp only[h,ai]
  split
  ·rename_i h2
   simp only[h2]
   split
   ·rename_i h3
    simp only[h3]
    exact zZ _ _ _ s1
   ·exact af.fail
  ·exact af.fail
 ·exact af.fail
theorem aAu (cfg:c8) (x:Operand) (n:Nat) (dst:Nat) (s:aG):af s (dz cfg (.extract x n) dst) ai (bp cfg.c (.extract x n) dst):=by
 simp only[dz,bp,aL,bind_eq]
 refine af.bind (dV x s) fun v s1=>?_
 cases v with
 |aJ vs=>
  simp only[ai]
  have hg:(dB vs)[n]? =(vs[n]?).map fun p=>(p.1,aq p.2):=by simp[dB]
  rw[hg]
  cases vs[n]? with
  |none=>exact af.fail
  |some p=>
   obtain⟨b,cs⟩:=p
   cases b with
   |true=>exact aiv _ _ (.agg cs) s1
   |false=>
    cases cs with
    |nil=>exact af.fail
    |cons c r=>cases r<;>first|exact aiv _ _ (.one c) s1|exact af.fail
 |_=>exact af.fail
theorem aAv (cfg:c8) (c:Call) (dst:Nat) (s:aG):af s (dz cfg (.call c) dst) ai (bp cfg.c (.call c) dst):=by
 obtain⟨callee,args,tys⟩:=c
 cases callee with
 |value o=>
  simp only[dz,bp,aL,bind_eq]
  refine af.bind (aAb o s) fun p s1=>af.bind (zT _ s1) fun vs s2=>?_
  have:=az8 cfg p.1 (vs++p.2) dst s2
  rw[List.map_append]at this
  exact this
 |invoke r m=>exact af.fail
 |builtin b=>
  cases b with
  |len=>
   simp only[dz,bp]
   split
   ·rename_i h1 h2
    simp only[h1,h2]
    split
    ·rename_i h3
     simp only[h3,aL,bind_eq]
     exact af.bind (dV _ s) fun v s1=>aqb _ _ s1
    ·rename_i h3
     simp only[h3,aL,bind_eq]
     exact af.bind (dV _ s) fun v s1=>aqb _ _ s1
    ·rename_i h3
     simp only[h3,aL,bind_eq]
     exact af.bind (ek _ s) fun v s1=>aAi _ _ _ s1
    ·exact af.fail
   ·exact af.fail
  |append=>
   simp only[dz,bp]
   split
   ·rename_i h1 h2
    simp only[h1,h2]
    split
    ·rename_i h3
     simp only[h3]
     split
     ·rename_i h4 h5
      simp only[h4]
      split
      ·rename_i h6
       simp only[h6,aL,bind_eq]
       refine af.bind (ek _ s) fun c s1=>af.bind (ek _ s1) fun c2 s2=>?_
       exact af.bind (pH _ s2) fun n s3=>azV _ _ _ _ s3
      rename_i h6
      split
      ·rename_i h7;exact absurd h7 (h6 _ _ _)
      simp only[aL,bind_eq]
      exact af.bind (ek _ s) fun c s1=>af.bind (ek _ s1) fun c2 s2=>af.bind (azW _ _ _ _ _ s2) fun ys s3=>azT _ _ _ _ _ s3
     ·exact af.fail
    ·exact af.fail
   ·exact af.fail
  |cap=>
   simp only[dz,bp]
   split
   ·rename_i h1 h2
    simp only[h1,h2]
    split
    ·rename_i h3
     simp only[h3,aL,bind_eq]
     exact af.bind (ek _ s) fun c s1=>azU _ s1
    ·exact af.fail
   ·exact af.fail
  |min=>simp only[dz,bp,aL,bind_eq];exact af.bind (zT _ s) fun vs s1=>aqE _ _ s1
  |max=>simp only[dz,bp,aL,bind_eq];exact af.bind (zT _ s) fun vs s1=>aqE _ _ s1
  |_=>exact af.fail
theorem aAw (cfg:c8) (op:Op) (dst:Nat) (s:aG):af s (dz cfg op dst) ai (bp cfg.c op dst):=by
 cases op with
 |move x=>
  simp only[dz,bp,aL,bind_eq]
  refine af.bind (dV x s) fun v s1=>?_
  cases Vs.isVar cfg.c x with
  |true=>simp only[if_true];exact af.ret rfl
  |false=>simp only[Bool.false_eq_true,if_false];exact aiv _ x v s1
 |assign x=>
  simp only[dz,bp,aL,bind_eq]
  exact af.bind (dV x s) fun v s1=>ap1 _ _ v s1
 |pick c a b=>exact aAm c a b s
 |alloc t=>exact aAn cfg t dst s
 |box t x=>exact aAo cfg t x dst s
 |build t ps=>exact azO _ _ _ s
 |buildSlice t len ps=>exact azP _ _ _ _ s
 |load t a=>
  simp only[dz,bp]
  split
  ·rename_i h
   simp only[h,aL,bind_eq]
   exact af.bind (ek a s) fun c s1=>ap4 _ _ s1
  ·exact af.fail
 |nilCheck x=>
  simp only[dz,bp,aL,bind_eq]
  refine af.bind (ek x s) fun c s1=>?_
  cases c with
  |l m t xs=>cases m<;>exact af.fail
  |n m t o=>cases m<;>cases o<;>exact af.fail
  |_=>first|exact af.ret rfl|exact af.fail
 |binOp op t x y yt=>exact aAp cfg op t x y yt dst s
 |unOp op t x=>exact aAq cfg op t x dst s
 |convert a b x=>
  simp only[dz,bp,aL,bind_eq]
  exact af.bind (dV x s) fun v s1=>azZ _ _ _ _ s1
 |makeFunc f a b=>exact aAr cfg f a b dst s
 |makeSlice t l c=>
  simp only[dz,bp,aL,bind_eq]
  exact af.bind (ek l s) fun v s1=>af.bind (pH v s1) fun n s2=>af.bind (ek c s2) fun u s3=>af.bind (pH u s3) fun m s4=>azQ _ _ _ _ s4
 |slice t x lo hi mx=>exact aAs cfg t x lo hi mx dst s
 |fieldAddr t x f=>
  simp only[dz,bp,aL,bind_eq]
  exact af.bind (ek x s) fun v s1=>af.bind (azJ _ _ _ _ s1) fun u s2=>af.ret rfl
 |field t x f=>exact aAt cfg t x f dst s
 |indexAddr t x ix=>
  cases x with
  |global g=>
   simp only[dz,bp,aL,bind_eq]
   exact af.bind (ek ix s) fun u s2=>af.bind (pH u s2) fun n s3=>af.bind (azK _ _ _ _ s3) fun w s4=>af.ret rfl
  |tmp y=>
   simp only[dz,bp,aL,bind_eq]
   exact af.bind (ek _ s) fun v s1=>af.bind (ek ix s1) fun u s2=>af.bind (pH u s2) fun n s3=>af.bind (aij _ _ _ _ s3) fun w s4=>af.ret rfl
  |const y=>
   simp only[dz,bp,aL,bind_eq]
   exact af.bind (ek _ s) fun v s1=>af.bind (ek ix s1) fun u s2=>af.bind (pH u s2) fun n s3=>af.bind (aij _ _ _ _ s3) fun w s4=>af.ret rfl
  |func y=>
   simp only[dz,bp,aL,bind_eq]
   exact af.bind (ek _ s) fun v s1=>af.bind (ek ix s1) fun u s2=>af.bind (pH u s2) fun n s3=>af.bind (aij _ _ _ _ s3) fun w s4=>af.ret rfl
 |index t x ix=>
  simp only[dz,bp,aL,bind_eq]
  exact af.bind (dV x s) fun v s1=>af.bind (ek ix s1) fun u s2=>af.bind (pH u s2) fun n s3=>azM _ _ _ _ s3
 |extract x n=>exact aAu cfg x n dst s
 |makeMap t r=>
  cases r with
  |none=>exact aAh cfg t dst s
  |some r=>exact af.fail
 |range t x=>
  simp only[dz,bp,aL,bind_eq]
  exact af.bind (ek x s) fun c s1=>aAk cfg t c s1
 |entry x=>
  simp only[dz,bp,aL,bind_eq]
  exact af.bind (ek x s) fun c s1=>aAl c s1
 |lookup t x ix ok=>
  simp only[dz,bp,aL,bind_eq]
  exact af.bind (ek x s) fun c s1=>af.bind (dV ix s1) fun v s2=>aAe cfg t c v ok s2
 |mapEntry t m k=>
  simp only[dz,bp,aL,bind_eq]
  exact af.bind (ek m s) fun c s1=>af.bind (dV k s1) fun v s2=>aAg cfg t c v s2
 |call c=>exact aAv cfg c dst s
 |_=>exact af.fail
theorem aqT (cfg:c8) (t:Nat) (v:aj) (s:aG):af s (wE cfg t v) (fun _=>()) (mm cfg.c t (ai v)):=by
 simp only[wE,mm,aL,bind_eq]
 refine af.get (af.sure fun h=>?_)
 rw[bt (p:=t<cfg.c.N) ((gY _ _).1 h)]
 exact af.put rfl rfl (af.ret rfl)
theorem aal (cfg:c8) (o:Oper) (s:aG):af s (kL cfg o) (fun _=>()) (jK cfg.c o):=by
 obtain⟨dst,op,ty,pos,after,guard⟩:=o
 cases dst with
 |some d=>
  have e1:kL cfg ⟨some d,op,ty,pos,after,guard⟩=(dz cfg op d).bind fun v=>wE cfg d v:=by cases op<;>rfl
  have e2:jK cfg.c ⟨some d,op,ty,pos,after,guard⟩=(bp cfg.c op d).bind fun v=>mm cfg.c d v:=by cases op<;>rfl
  rw[e1,e2]
  exact af.bind (aAw cfg op d s) fun v s1=>aqT cfg d v s1
 |none=>
  cases op with
  |store t a x=>
   simp only[kL,jK]
   split
   ·rename_i h3
    simp only[h3,aL,bind_eq]
    exact af.bind (ek _ s) fun c s1=>af.bind (dV _ s1) fun v s2=>azH _ _ (funext fun r=>aqB _ _ _) _ _ _ s2
   ·exact af.fail
  |mapUpdate t m k x=>
   simp only[kL,jK,aL,bind_eq]
   exact af.bind (ek _ s) fun c s1=>af.bind (dV _ s1) fun v s2=>af.bind (dV _ s2) fun u s3=>aqP _ _ _ _ _ s3
  |insert t m k x=>
   simp only[kL,jK,aL,bind_eq]
   exact af.bind (ek _ s) fun c s1=>af.bind (dV _ s1) fun v s2=>af.bind (dV _ s2) fun u s3=>aqP _ _ _ _ _ s3
  |entryStore t m st x=>
   simp only[kL,jK,aL,bind_eq]
   exact af.bind (ek _ s) fun c s1=>af.bind (ek _ s1) fun v s2=>af.bind (dV _ s2) fun u s3=>aAf _ _ _ _ _ s3
  |_=>exact af.fail
theorem aAx (cfg:c8) (ops:Array Oper) (o:Oper) (s:aG):af s (adZ cfg ops o) (fun _=>()) (iW cfg.c ops o):=by
 unfold adZ iW
 cases o.guard with
 |none=>exact aal cfg o s
 |some p=>
  obtain⟨j,want⟩:=p
  have mT:∀s',af s' (match o.dst with|some d=>wE cfg d (.aJ [])|none=>PE.ret ()) (fun _=>()) (match o.dst with|some d=>mm cfg.c d (.aJ [])|none=>Prog.ret ()):=by
   intro s'
   cases o.dst with
   |none=>exact af.ret rfl
   |some d=>exact aqT cfg d (.aJ []) s'
  simp only[bind_eq]
  unfold af4
  cases(ops[j]?).bind (·.dst)with
  |none=>exact af.fail
  |some t=>
   refine af.get ?_
   dsimp only
   cases hv:(s.get (.tmp t)).v with
   |undef=>exact af.fail
   |agg cs=>exact af.fail
   |aJ cs=>
    cases cs with
    |cons=>exact af.fail
    |nil=>
     have h3:(bJ (s.get (.tmp t))).v= .aJ []:=by simp only[bJ,hv,ai];rfl
     rw[h3]
     show af s _ _ (if none=some want then jK cfg.c o else _)
     rw[if_neg (by simp)]
     exact mT s
   |one c=>
    have h3:(bJ (s.get (.tmp t))).v= .one (cE c):=by simp only[bJ,hv,ai]
    rw[h3]
    cases c with
    |tt=>
     show af s (match want with|true=>kL cfg o|false=>_) _ (if some true=some want then jK cfg.c o else _)
     cases want with
     |true=>simp only[if_true];exact aal cfg o s
     |false=>rw[if_neg (by simp)];exact mT s
    |ff=>
     show af s (match want with|true=>_|false=>kL cfg o) _ (if some false=some want then jK cfg.c o else _)
     cases want with
     |true=>rw[if_neg (by simp)];exact mT s
     |false=>simp only[if_true];exact aal cfg o s
    |b x=>
     show af s (match want with|true=>PE.br x _ _|false=>PE.br x _ _) _ (if some x=some want then jK cfg.c o else _)
     cases want with
     |true=>
      refine af.br (fun h=>?_) fun h=>?_
      ·subst h;simp only[if_true];exact af.know hv rfl (aal cfg o _)
      ·subst h;rw[if_neg (by simp)];exact af.know hv rfl (mT _)
     |false=>
      refine af.br (fun h=>?_) fun h=>?_
      ·subst h;rw[if_neg (by simp)];exact af.know hv rfl (mT _)
      ·subst h;simp only[if_true];exact af.know hv rfl (aal cfg o _)
    |l m t xs=>cases m<;>exact af.fail
    |n m t o=>cases m<;>cases o<;>exact af.fail
    |_=>exact af.fail
def mV:List (List ah×List ah)→List (List ah×List ah)→Prop
 | [],[]=>True
 |a :: l,b :: m=>(∀r∈a.1,r∈b.1)∧(∀r∈a.2,r∈b.2)∧mV l m
 |_,_=>False
theorem mV.length:∀{l m:List (List ah×List ah)},mV l m→l.length=m.length
 | [],[],_=>rfl
 |_ :: _,_ :: _,h=>by simp only[List.length_cons,mV.length h.2.2]
 | [],_ :: _,h=>h.elim
 |_ :: _,[],h=>h.elim
theorem mV.getD:∀{l m:List (List ah×List ah)},mV l m→∀i,(∀r∈(l.getD i ([],[])).1,r∈(m.getD i ([],[])).1)∧∀r∈(l.getD i ([],[])).2,r∈(m.getD i ([],[])).2
 | [],[],_,i=>⟨fun _ h=>h,fun _ h=>h⟩
 |_ :: _,_ :: _,h,0=>⟨h.1,h.2.1⟩
 |_ :: _,_ :: _,h,i+1=>by simpa using mV.getD h.2.2 i
 | [],_ :: _,h,_=>h.elim
 |_ :: _,[],h,_=>h.elim
theorem aAy {a b a' b':List ah×List ah} (h:indep a' b'=true) (h1:∀r∈a.1,r∈a'.1) (h2:∀r∈a.2,r∈a'.2) (h3:∀r∈b.1,r∈b'.1) (h4:∀r∈b.2,r∈b'.2):indep a b=true:=by
 simp only[indep,Bool.and_eq_true,List.all_eq_true,Bool.not_eq_true',List.contains_eq_mem,decide_eq_false_iff_not]at h ⊢
 exact⟨fun r hr=>⟨fun hq=>(h.1 r (h2 r hr)).1 (h3 r hq),fun hq=>(h.1 r (h2 r hr)).2 (h4 r hq)⟩,fun r hr hq=>h.2 r (h4 r hr) (h1 r hq)⟩
theorem mV.pairs {l m:List (List ah×List ah)} (h:mV l m) {an:List (List Nat)} (hp:tq m an=true):tq l an=true:=by
 simp only[tq,List.all_eq_true,List.mem_range,Bool.or_eq_true]at hp ⊢
 intro j hj i hi
 rcases hp j (by rw[←h.length];exact hj) i hi with q|q
 ·exact .inl q
 ·exact .inr (aAy q (h.getD i).1 (h.getD i).2 (h.getD j).1 (h.getD j).2)
theorem aqU (cfg:c8) (ops:Array Oper):∀(l:List Oper) (s:aG),(nY cfg ops l s).box fun x=>∃cB,lK cfg.c ops l (cl s)=some (cl x.1,cB)∧mV cB x.2
 | [],s=>⟨[],rfl,trivial⟩
 |o :: r,s=>by
  simp only[nY]
  rw[Tr.qZ]
  refine Tr.kM ?_ (aAx cfg ops o s)
  rintro ⟨a,s',f,g⟩ ⟨fr,fw,h,i1,i2⟩
  simp only at h i1 i2 ⊢
  rw[Tr.qZ]
  refine Tr.kM ?_ (aqU cfg ops r s')
  rintro ⟨s'',l⟩ ⟨cB,h2,h3⟩
  simp only at h2 h3 ⊢
  exact⟨(fr,fw) :: cB,by simp only[lK,h,h2],i1,i2,h3⟩
end Go.Ve
namespace Go.Ve
open Go.Vs
def cC (c c':C):Prop:=c'=c∨c'= .dead
def jT:SV→SV→Prop
 |_,.undef=>True
 | .one c,.one c'=>cC c c'
 | .agg cs,.agg cs'=>au cC cs cs'
 | .aJ vs,.aJ vs'=>au (fun p q=>p.1=q.1∧au cC p.2 q.2) vs vs'
 |_,_=>False
theorem cC.kP:∀(cs:List C),au cC cs cs
 | []=>trivial
 |_ :: cs=>⟨.inl rfl,cC.kP cs⟩
theorem au.comp {α β γ:Type} {R:α→β→Prop} {S:β→γ→Prop} {U:α→γ→Prop} (h:∀a b c,R a b→S b c→U a c):∀{as:List α} {bs:List β} {cs:List γ},au R as bs→au S bs cs→au U as cs
 | [],[],[],_,_=>trivial
 |_ :: _,_ :: _,_ :: _,h1,h2=>⟨h _ _ _ h1.1 h2.1,au.comp h h1.2 h2.2⟩
 | [],[],_ :: _,_,h2=>h2.elim
 |_ :: _,[],_,h1,_=>h1.elim
 | [],_ :: _,_,h1,_=>h1.elim
 |_ :: _,_ :: _,[],_,h2=>h2.elim
theorem aY.weak {R R':C→Value→Prop} {u:Value} {v v':SV} (hR:∀c c' x,R c x→cC c c'→R' c' x) (h:aY R u v) (hw:jT v v'):aY R' u v':=by
 cases v' with
 |undef=>trivial
 |one c'=>cases v<;>first|exact⟨h.1,hR _ _ _ h.2 hw⟩|exact hw.elim
 |agg cs'=>
  cases v with
  |agg cs=>
   obtain⟨ws,h1,h2⟩:=h
   exact⟨ws,h1,au.comp (fun a b c h1 h2=>hR b c a h1 h2) h2 hw⟩
  |_=>exact hw.elim
 |aJ vs'=>
  cases v with
  |aJ vs=>
   obtain⟨ws,h1,h2⟩:=h
   refine⟨ws,h1,au.comp ?_ h2 hw⟩
   rintro x ⟨b,cs⟩ ⟨b',cs'⟩ hx ⟨e,hy⟩
   simp only at e hy
   subst e
   unfold cL at hx ⊢
   cases b with
   |true=>
    simp only[if_true]at hx ⊢
    obtain⟨ws,g1,g2⟩:=hx
    exact⟨ws,g1,au.comp (fun a b c h1 h2=>hR b c a h1 h2) g2 hy⟩
   |false=>
    simp only[Bool.false_eq_true,if_false]at hx ⊢
    obtain⟨c,g1,g2,g3⟩:=hx
    subst g1
    cases cs' with
    |nil=>exact hy.elim
    |cons c' r=>
     cases r with
     |nil=>exact⟨c',rfl,g2,hR _ _ _ g3 hy.1⟩
     |cons=>exact hy.2.elim
  |_=>exact hw.elim
theorem jT.cell:∀{v v':SV},jT v v'→∀(j:Nat) (c':C),v'.cells[j]? =some c'→∃c,v.cells[j]? =some c∧cC c c':=by
 have flat:∀{cs cs':List C},au cC cs cs'→∀(j:Nat) (c':C),cs'[j]? =some c'→∃c,cs[j]? =some c∧cC c c':=fun h j c' hc=>h.get hc
 have app:∀{cs cs' ds ds':List C},au cC cs cs'→au cC ds ds'→au cC (cs++ds) (cs'++ds'):=fun h1 h2=>au.append h1 h2
 intro v v' h j c' hc
 cases v' with
 |undef=>simp[SV.cells]at hc
 |one d=>
  cases v<;>first|exact flat (cs:=[_]) (cs':=[_]) ⟨h,trivial⟩ j c' hc|exact h.elim
 |agg cs'=>cases v<;>first|exact flat h j c' hc|exact h.elim
 |aJ vs'=>
  cases v with
  |aJ vs=>
   replace hc:(vs'.flatMap (fun p:Bool×List C=>p.2))[j]? =some c':=hc
   show ∃c,(vs.flatMap (fun p:Bool×List C=>p.2))[j]? =some c∧_
   refine flat ?_ j c' hc
   clear hc
   have:∀{vs vs':List (Bool×List C)},au (fun p q=>p.1=q.1∧au cC p.2 q.2) vs vs'→au cC (vs.flatMap (·.2)) (vs'.flatMap (·.2)):=by
    intro vs
    induction vs with
    |nil=>intro vs' h;cases vs'<;>first|trivial|exact h.elim
    |cons p vs ih=>
     intro vs' h
     cases vs' with
     |nil=>exact h.elim
     |cons q vs'=>simp only[List.flatMap_cons];exact app h.1.2 (ih h.2)
   exact this h
  |_=>exact h.elim
section
variable {K:Ctx} {β:Key→Option Nat} {ω:Nat→Option bX} {Z:Nat→Prop} {s s':St} {a:Act} {w:World}
theorem Rel.weak (h:Rel K β ω Z s a w) (hz:∀r,(s' r).hv=(s r).hv∧(s' r).cv=(s r).cv) (ht:∀t,jT (s (.tmp t)).v (s' (.tmp t)).v)
  (hb:∀k,jT (s (.box k)).v (s' (.box k)).v∧((s' (.box k)).v= .undef→(s (.box k)).v= .undef)) (ha:∀i,(s' (.arg i)).v=(s (.arg i)).v):Rel K β ω Z s' a w:=by
 have hall:∀r,jT (s r).v (s' r).v:=by
  intro r
  cases r with
  |tmp t=>exact ht t
  |box k=>exact(hb k).1
  |arg i=>
   rw[ha]
   cases hv:(s (.arg i)).v with
   |one c=>exact .inl rfl
   |agg cs=>exact cC.kP cs
   |aJ vs=>
    show au _ vs vs
    clear hv
    induction vs with
    |nil=>trivial
    |cons p vs ih=>exact⟨⟨rfl,cC.kP _⟩,ih⟩
   |undef=>trivial
 have bB:∀r j,(s' r).at j≠ .dead→(s' r).at j=(s r).at j:=by
  intro r j hd
  cases hc:(s' r).v.cells[j]? with
  |none=>exact absurd (by simp[RV.at,List.getD_eq_getElem?_getD,hc]) hd
  |some c=>
   obtain⟨c0,h0,h1⟩:=(hall r).cell j c hc
   have e0:=sJ h0
   have e1:=sJ hc
   rw[e1]at hd ⊢
   rw[e0]
   rcases h1 with h1|h1
   ·exact h1
   ·exact absurd h1 hd
 have hcr:∀(c:C) (u:Value),ax K β Z s a w c u→ax K β Z s' a w c u:=by
  intro c u bu
  cases c with
  |aD r j hv cv e k xs=>
   by_cases hm:aW e=true
   ·obtain⟨b,g1,g4,g5,g6⟩:=(ax.mA hm).1 bu
    refine(ax.mA hm).2 ⟨b,g1,by rw[(hz r).1];exact g4,by rw[(hz r).2];exact g5,fun e1 e2=>?_⟩
    rw[(hz r).1]at e1
    have e3:=bB r j e2
    obtain⟨f1,ys,f8,f9⟩:=g6 e1 (by rw[←e3];exact e2)
    exact⟨f1,ys,by rw[e3];exact f8,fun e4=>f9 (by rw[←(hz r).2];exact e4)⟩
   have hm:aW e=false:=by simpa using hm
   obtain⟨dU,cap',g1,g2,g3,g4,g5,g6⟩:=(ax.lB hm).1 bu
   refine(ax.lB hm).2 ⟨dU,cap',g1,g2,g3,by rw[(hz r).1];exact g4,by rw[(hz r).2];exact g5,fun e1 e2=>?_⟩
   rw[(hz r).1]at e1
   have e3:=bB r j e2
   obtain⟨ad,len,cap,f1,f2,f3,f4,oR,f5,f6,f7,ys,f8,f9⟩:=g6 e1 (by rw[←e3];exact e2)
   exact⟨ad,len,cap,f1,f2,f3,f4,oR,f5,f6,f7,ys,by rw[e3];exact f8,fun e4=>f9 (by rw[←(hz r).2];exact e4)⟩
  |ea r j hv e i off=>
   obtain⟨b,o,g1,g2,g3⟩:=bu
   refine⟨b,o,g1,by rw[(hz r).1];exact g2,fun e1 e2=>?_⟩
   rw[(hz r).1]at e1
   have e3:=bB r j e2
   obtain⟨ad,len,cap,f1,f2,f3,f4,ys,f5⟩:=g3 e1 (by rw[←e3];exact e2)
   exact⟨ad,len,cap,f1,f2,f3,f4,ys,by rw[e3];exact f5⟩
  |_=>exact bu
 have hcw:∀(c c':C) (u:Value),ax K β Z s a w c u→cC c c'→ax K β Z s' a w c' u:=by
  intro c c' u h1 h2
  rcases h2 with rfl|rfl
  ·exact hcr _ u h1
  ·trivial
 have hcell:∀(r:ah) (j e:Nat) (xs:List (List D)),(s' r).v.cells[j]? =some (.own e xs)→(s r).v.cells[j]? =some (.own e xs):=by
  intro r j e xs hc
  obtain⟨c,h1,h2⟩:=(hall r).cell j _ hc
  rcases h2 with h2|h2
  ·rw[h1,←h2]
  ·cases h2
 refine⟨h.size,h.defers,h.os,h.tape,h.output,h.base,h.frame,h.dH,h.jr,?_,fun t=>aY.weak hcw (h.tmps t) (ht t),fun i=>aY.weak hcw (h.args i) (hall (.arg i)),?_,?_,?_,h.cZ,h.kj⟩
 ·intro b hb'
  rcases h.kg b hb' with g|g|g|⟨i,j,e,ys,u0,g1,g2,g3⟩
  ·exact .inl g
  ·exact .inr (.inl g)
  ·exact .inr (.inr (.inl g))
  ·exact .inr (.inr (.inr ⟨i,j,e,ys,u0,by rw[ha];exact g1,g2,g3⟩))
 ·intro k
  have cr:=h.boxes k
  cases hv:(s (.box k)).v with
  |agg cs=>
   have hw:=(hb k).1
   rw[hv]at hw
   cases mF:(s' (.box k)).v with
   |agg cs'=>
    rw[mF]at hw
    obtain⟨b,ws,el,lo,hi,g1,g2,g3,g4,g5⟩:=dc.cell h hv
    exact⟨b,ws,el,lo,hi,g1,g2,g3,g4,au.comp (fun a b c h1 h2=>hcw b c a h1 h2) g5 hw⟩
   |undef=>have:=(hb k).2 mF;rw[hv]at this;cases this
   |one c=>rw[mF]at hw;exact hw.elim
   |aJ vs=>rw[mF]at hw;exact hw.elim
  |undef=>
   have hw:=(hb k).1
   rw[hv]at hw cr
   cases mF:(s' (.box k)).v with
   |undef=>exact cr
   |_=>rw[mF]at hw;exact hw.elim
  |one c=>rw[hv]at cr;exact cr.elim
  |aJ vs=>rw[hv]at cr;exact cr.elim
 ·intro r j e xs u1 b1 hr hc hh aM
  exact h.own r j e xs u1 b1 hr (hcell r j e xs hc) hh aM
 ·intro i j e xs u1 b1 hc hh aM
  exact h.fT i j e xs u1 b1 (hcell (.arg i) j e xs hc) hh aM
end
structure aN where
 slots:List (Nat×aj)
 boxes:List (Key×List E)
 aB:List (Nat×Nat)
 bC:List (ah×Option (List Bool))
def bM (t:Nat):List (Nat×aj)→aj
 | []=>.undef
 |(u,v) :: r=>match t==u with
  |true=>v
  |false=>bM t r
def bw (k:Key):List (Key×List E)→Option (List E)
 | []=>none
 |(q,v) :: r=>match de k q with
  |true=>some v
  |false=>bw k r
def stM (p:aN):List (ah×cx):=p.slots.map (fun x=>(.tmp x.1,{ v:=x.2 }))++p.boxes.map fun x=>(.box x.1,{ v:=.agg x.2 })
def bg (A:List aj) (p:aN):aG:={ m:=stM p,args:=A,aB:=p.aB,bC:=p.bC }
def cu (A:List aj) (p:aN):PS:={ slots:=p.slots.map fun x=>(x.1,ai x.2),boxes:=p.boxes.map fun x=>(x.1,aq x.2),args:=(fF p.aB A).map ai }
theorem aqV (r:ah):∀(l m:List (ah×cx)),(∀x∈l,eu r x.1=false)→ef r (l++m)=ef r m
 | [],m,_=>rfl
 |(q,x) :: l,m,h=>by
  simp only[List.cons_append,ef]
  rw[h (q,x) (List.mem_cons_self ..)]
  exact aqV r l m fun y hy=>h y (List.mem_cons_of_mem _ hy)
theorem jU (A:List aj) (p:aN) (t:Nat):(bg A p).get (.tmp t)={ v:=bM t p.slots }:=by
 show ef (.tmp t) (p.slots.map (fun x=>(.tmp x.1,{ v:=x.2 }))++p.boxes.map fun x=>(.box x.1,{ v:=.agg x.2 }))=_
 induction p.slots with
 |nil=>
  induction p.boxes with
  |nil=>rfl
  |cons b r ih=>exact ih
 |cons x r ih=>
  simp only[List.map_cons,List.cons_append,ef,eu,bM]
  cases t==x.1 with
  |true=>rfl
  |false=>exact ih
theorem gZ (A:List aj) (p:aN) (k:Key):(bg A p).get (.box k)={ v:=match bw k p.boxes with|some cs=>.agg cs|none=>.undef }:=by
 show ef (.box k) (p.slots.map (fun x=>(.tmp x.1,{ v:=x.2 }))++p.boxes.map fun x=>(.box x.1,{ v:=.agg x.2 }))=_
 rw[aqV _ _ _ (by
  intro x hx
  obtain⟨y,_,rfl⟩:=List.mem_map.1 hx
  rfl)]
 induction p.boxes with
 |nil=>rfl
 |cons x r ih=>
  simp only[List.map_cons,ef,eu,bw]
  cases de k x.1 with
  |true=>rfl
  |false=>exact ih
theorem aam (A:List aj) (p:aN) (t:Nat):((cu A p).st (.tmp t)).v=ai (bM t p.slots):=by
 show(lk t (p.slots.map fun x=>(x.1,ai x.2))).getD .undef=_
 induction p.slots with
 |nil=>rfl
 |cons x r ih=>
  simp only[List.map_cons,lk,bM]
  by_cases h:t=x.1
  ·rw[if_pos h,show(t==x.1)=true by simpa using h];rfl
  ·rw[if_neg h,show(t==x.1)=false by simpa using h];exact ih
theorem aep (A:List aj) (p:aN) (k:Key):((cu A p).st (.box k)).v=match bw k p.boxes with|some cs=>.agg (aq cs)|none=>.undef:=by
 show(match jm k (p.boxes.map fun x=>(x.1,aq x.2))with|some cs=>SV.agg cs|none=>.undef)=_
 induction p.boxes with
 |nil=>rfl
 |cons x r ih=>
  simp only[List.map_cons,jm,bw]
  by_cases h:k=x.1
  ·rw[if_pos h,(fQ k x.1).2 h]
  ·rw[if_neg h,show de k x.1=false by cases hb:de k x.1<;>first|rfl|exact absurd ((fQ k x.1).1 hb) h];exact ih
theorem aeq (A:List aj) (p:aN) (i:Nat):((cu A p).st (.arg i)).v=ai ((fF p.aB A).getD i .undef):=getD_map ai _ i .undef
theorem aan (A:List aj) (p:aN):cl (bg A p)=(cu A p).st:=by
 have ext:∀(x y:RV),x.hv=y.hv→x.cv=y.cv→x.v=y.v→x=y:=by
  intro x y h1 h2 h3;cases x;cases y;simp only at h1 h2 h3;subst h1 h2 h3;rfl
 funext r
 cases r with
 |tmp t=>
  refine ext _ _ ?_ ?_ ?_<;>simp only[cl,jU,bJ]
  ·rfl
  ·rfl
  ·exact(aam A p t).symm
 |box k=>
  refine ext _ _ ?_ ?_ ?_<;>simp only[cl,gZ,bJ]
  ·rfl
  ·rfl
  ·rw[aep];cases bw k p.boxes<;>rfl
 |arg i=>
  refine ext _ _ rfl rfl ?_
  exact(aeq A p i).symm
theorem aiB:∀(l:List (Nat×Nat)) (A:List aj),(fF l A).length=A.length
 | [],A=>rfl
 |(i,j) :: r,A=>by simp only[fF];rw[aiB r];rw[oa];simp
theorem aqW (A:List aj) (p:aN):(cu A p).args.length=A.length:=by simp[cu,aiB]
def fY (s:aG) (bk:List Key):E→E
 | .l (.aD r j hv cv k) t xs=>match(s.get r).hv==hv&&(s.get r).cv==cv with
   |true=>.l (.aD r j 0 0 k) t xs
   |false=>.dead
 | .n (.aD r j hv cv k) t o=>match(s.get r).hv==hv&&(s.get r).cv==cv with
   |true=>.n (.aD r j 0 0 k) t o
   |false=>.dead
 | .ea _ _ _ _ _ _=>.dead
 | .gone _=>.dead
 | .ptr k off=>match bk.any (de k)with
   |true=>.ptr k off
   |false=>.dead
 | .bW f caps=>match caps.all (fun p=>bk.any (de p.1))with
   |true=>.bW f caps
   |false=>.dead
 | .it m t xs sn=>match m with
   | .aD .. =>.dead
   |m=>.it m t xs sn
 |c=>c
def rz (s:aG) (bk:List Key):aj→aj
 | .one c=>.one (fY s bk c)
 | .agg cs=>.agg (cs.map (fY s bk))
 | .aJ vs=>.aJ (vs.map fun p=>(p.1,p.2.map (fY s bk)))
 | .undef=>.undef
def ob (s:aG) (bk:List Key):List Nat→List (Nat×aj)
 | []=>[]
 |t :: ts=>match(s.get (.tmp t)).v with
  | .undef=>ob s bk ts
  |v=>(t,rz s bk v) :: ob s bk ts
def oc (s:aG) (bk:List Key):List Key→List (Key×List E)
 | []=>[]
 |k :: ks=>match(s.get (.box k)).v with
  | .agg cs=>(k,cs.map (fY s bk)) :: oc s bk ks
  |_=>oc s bk ks
def cJ (s:aG) (keys:List Nat) (bk:List Key):aN:={ slots:=ob s bk keys,boxes:=oc s bk bk,aB:=s.aB,bC:=s.bC }
theorem wL (k:Key) (bk:List Key):bk.any (de k)=bk.contains k:=by
 induction bk with
 |nil=>rfl
 |cons q bk ih=>
  simp only[List.any_cons,List.contains_cons,ih]
  congr 1
  cases h:de k q with
  |true=>rw[(fQ k q).1 h];simp
  |false=>symm;simp only[beq_eq_false_iff_ne];rintro rfl;rw[(fQ k k).2 rfl]at h;cases h
theorem aqX (s:aG) (bk:List Key) (c:E):cC (fI (cl s) bk (cE c)) (cE (fY s bk c)):=by
 have aD:∀(r:ah) (j hv cv k:Nat) (t:Ty) (xs:List t.T),cC (fI (cl s) bk (C.aD r j hv cv t.e k (xs.map (aA t)))) (cE (match(s.get r).hv==hv&&(s.get r).cv==cv with
  |true=>E.l (.aD r j 0 0 k) t xs
  |false=>.dead)):=by
  intro r j hv cv k t xs
  cases h:(s.get r).hv==hv&&(s.get r).cv==cv with
  |false=>exact .inr rfl
  |true=>
   simp only[Bool.and_eq_true,beq_iff_eq]at h
   left
   simp only[fI]
   rw[if_pos (show(cl s r).hv=hv∧(cl s r).cv=cv from h)]
   rfl
 cases c with
 |l m t xs=>
  cases m with
  |aD r j hv cv k=>exact aD r j hv cv k t xs
  |_=>exact .inl rfl
 |n m t o=>
  cases m with
  |aD r j hv cv k=>
   cases o with
   |none=>
    simp only[fY]
    cases(s.get r).hv==hv&&(s.get r).cv==cv with
    |true=>exact .inl rfl
    |false=>exact .inr rfl
   |some xs=>
    have:=aD r j hv cv k t xs
    simp only[fY]
    revert this
    cases(s.get r).hv==hv&&(s.get r).cv==cv with
    |true=>exact fun h=>h
    |false=>exact fun h=>h
  |_=>cases o<;>exact .inl rfl
 |ptr k off=>
  simp only[fY,wL,cE,fI]
  cases h:bk.contains k with
  |true=>left;simp only[if_true]
  |false=>exact .inr rfl
 |bW f caps=>
  have e:(caps.all fun p=>bk.any (de p.1))=caps.all fun p=>bk.contains p.1:=by congr 1;funext p;exact wL _ _
  simp only[fY,e,cE,fI]
  cases h:caps.all fun p=>bk.contains p.1 with
  |true=>left;simp only[if_true]
  |false=>exact .inr rfl
 |ea=>exact .inr rfl
 |gone b=>exact .inr rfl
 |it m t xs sn=>cases m<;>first|exact .inl rfl|exact .inr rfl
 |_=>exact .inl rfl
theorem aer (s:aG) (bk:List Key):∀(cs:List E),au cC (eV (cl s) bk (aq cs)) (aq (cs.map (fY s bk)))
 | []=>trivial
 |c :: cs=>⟨aqX s bk c,aer s bk cs⟩
theorem aAA (s:aG) (bk:List Key) (v:aj):jT (fh (cl s) bk (ai v)) (ai (rz s bk v)):=by
 cases v with
 |one c=>exact aqX s bk c
 |agg cs=>exact aer s bk cs
 |aJ vs=>
  show au _ (qg (cl s) bk (dB vs)) (dB (vs.map fun p=>(p.1,p.2.map (fY s bk))))
  induction vs with
  |nil=>trivial
  |cons p vs ih=>exact⟨⟨rfl,aer s bk p.2⟩,ih⟩
 |undef=>trivial
theorem aao (s:aG) (bk:List Key) (t:Nat):∀(ks:List Nat),bM t (ob s bk ks)=if t∈ks then rz s bk (s.get (.tmp t)).v else .undef
 | []=>rfl
 |u :: ks=>by
  have ih:=aao s bk t ks
  simp only[ob]
  by_cases htu:t=u
  ·subst htu
   simp only[List.mem_cons,true_or,if_true]
   cases hv:(s.get (.tmp t)).v with
   |undef=>
    simp only
    rw[ih,hv]
    split<;>rfl
   |_=>simp[bM]
  ·have e:(t==u)=false:=by simpa using htu
   have:bM t (match(s.get (.tmp u)).v with| .undef=>ob s bk ks|v=>(u,rz s bk v) :: ob s bk ks)=bM t (ob s bk ks):=by
    cases(s.get (.tmp u)).v<;>simp[bM,e]
   rw[this,ih]
   simp[htu]
theorem rA (s:aG) (bk:List Key) (k:Key):∀(ks:List Key),bw k (oc s bk ks)=if k∈ks then(match(s.get (.box k)).v with| .agg cs=>some (cs.map (fY s bk))|_=>none)else none
 | []=>rfl
 |u :: ks=>by
  have ih:=rA s bk k ks
  simp only[oc]
  by_cases htu:k=u
  ·subst htu
   simp only[List.mem_cons,true_or,if_true]
   cases hv:(s.get (.box k)).v with
   |agg cs=>simp only[bw];rw[(fQ k k).2 rfl]
   |_=>simp only;rw[ih,hv];split<;>rfl
  ·have e:de k u=false:=by cases h:de k u<;>first|rfl|exact absurd ((fQ k u).1 h) htu
   have:bw k (match(s.get (.box u)).v with| .agg cs=>(u,cs.map (fY s bk)) :: oc s bk ks|_=>oc s bk ks)=bw k (oc s bk ks):=by
    cases(s.get (.box u)).v<;>simp[bw,e]
   rw[this,ih]
   simp[htu]
def jv (bk:List Key):E→Bool
 | .i _ _| .b _| .tt| .ff| .s _| .nil| .aK _| .l .data _ _| .l .own _ _| .n .data _ _| .n .own _ _| .it .data _ _ _| .it .own _ _ _=>true
 | .ptr k _=>bk.any (de k)
 | .bW _ caps=>caps.all fun p=>bk.any (de p.1)
 |_=>false
def aap (bk:List Key) (A:List aj):Bool:=A.all fun v=>v.cells.all (jv bk)
theorem aqY {bk:List Key} {c:E} (h:jv bk c=true) (s:St):fI s bk (cE c)=cE c:=by
 cases c with
 |l m t xs=>cases m<;>first|rfl|cases h
 |n m t o=>cases m<;>cases o<;>first|rfl|cases h
 |ptr k off=>
  simp only[jv,wL]at h
  simp only[cE,fI,h,if_true]
 |bW f caps=>
  have e:(caps.all fun p=>bk.any (de p.1))=caps.all fun p=>bk.contains p.1:=by congr 1;funext p;exact wL _ _
  simp only[jv,e]at h
  simp only[cE,fI,h,if_true]
 |ea=>cases h
 |da=>cases h
 |gone b=>cases h
 |it m t xs sn=>cases m<;>first|rfl|cases h
 |dead=>rfl
 |_=>rfl
theorem aqZ {bk:List Key} {cs:List E} (h:cs.all (jv bk)=true) (s:St):eV s bk (aq cs)=aq cs:=by
 induction cs with
 |nil=>rfl
 |cons c cs ih=>
  simp only[List.all_cons,Bool.and_eq_true]at h
  show fI s bk (cE c) :: eV s bk (aq cs)=_
  rw[aqY h.1 s,ih h.2]
  rfl
theorem aAB {bk:List Key} {v:aj} (h:v.cells.all (jv bk)=true) (s:St):fh s bk (ai v)=ai v:=by
 cases v with
 |one c=>simp only[aj.cells,List.all_cons,List.all_nil,Bool.and_true]at h;show SV.one _=_;rw[aqY h s];rfl
 |agg cs=>show SV.agg _=_;rw[aqZ (cs:=cs) h s];rfl
 |aJ vs=>
  show SV.aJ (qg s bk (dB vs))= .aJ (dB vs)
  congr 1
  simp only[aj.cells]at h
  induction vs with
  |nil=>rfl
  |cons p vs ih=>
   simp only[List.flatMap_cons,List.all_append,Bool.and_eq_true]at h
   show(p.1,eV s bk (aq p.2)) :: qg s bk (dB vs)=_
   rw[aqZ h.1 s,ih h.2]
   rfl
 |undef=>rfl
theorem aAC {bk:List Key} {v:aj} (h:v.cells.all (jv bk)=true) (j:Nat):(qO v j).cells.all (jv bk)=true:=by
 have aiC:∀(v:aj) (c:E),v.cells.all (jv bk)=true→jv bk c=true→(v.setCell j c).cells.all (jv bk)=true:=by
  intro v c hv hc
  have aq0:∀(cs:List E) (j:Nat),cs.all (jv bk)=true→(iG cs j c).all (jv bk)=true:=by
   intro cs
   induction cs with
   |nil=>intro j h;simp[iG]
   |cons x cs ih=>
    intro j h
    simp only[List.all_cons,Bool.and_eq_true]at h
    cases j with
    |zero=>simp only[iG,List.all_cons,Bool.and_eq_true];exact⟨hc,h.2⟩
    |succ j=>simp only[iG,List.all_cons,Bool.and_eq_true];exact⟨h.1,ih j h.2⟩
  cases v with
  |one x=>simp only[aj.setCell];split<;>first|(simp only[aj.cells,List.all_cons,List.all_nil,Bool.and_true];exact hc)|exact hv
  |agg cs=>exact aq0 cs j hv
  |aJ vs=>
   simp only[aj.setCell,aj.cells]at hv ⊢
   induction vs generalizing j with
   |nil=>rfl
   |cons p vs ih=>
    obtain⟨b,cs⟩:=p
    simp only[List.flatMap_cons,List.all_append,Bool.and_eq_true]at hv
    simp only[zu]
    split
    ·simp only[List.flatMap_cons,List.all_append,Bool.and_eq_true];exact⟨aq0 cs j hv.1,hv.2⟩
    ·simp only[List.flatMap_cons,List.all_append,Bool.and_eq_true];exact⟨hv.1,ih _ hv.2⟩
  |undef=>exact hv
 unfold qO
 split
 ·exact aiC v _ h rfl
 ·exact aiC v _ h rfl
 ·exact aiC v _ h rfl
 ·exact h
theorem aq1 {bk:List Key}:∀(l:List (Nat×Nat)) (A:List aj),aap bk A=true→aap bk (fF l A)=true
 | [],A,h=>h
 |(i,j) :: r,A,h=>by
  simp only[fF]
  refine aq1 r _ ?_
  have hA:∀v∈A,v.cells.all (jv bk)=true:=List.all_eq_true.1 h
  rw[oa]
  refine List.all_eq_true.2 fun v hv=>?_
  rcases List.mem_or_eq_of_mem_set hv with hv|rfl
  ·exact hA v hv
  ·refine aAC ?_ j
   rw[List.getD_eq_getElem?_getD]
   cases hi:A[i]? with
   |none=>rfl
   |some x=>exact hA x (List.mem_of_getElem? hi)
section
variable {K:Ctx} {A:List aj} {a:Act} {w:World}
theorem aiD {s:aG} (hargs:s.args=A) (hA:K.argv.size=A.length) {keys:List Nat} {bk:List Key} (hok:aap bk A=true) (hin:∀k b,K.gA k=some b→k∈bk) (h:Vs.Good K (cl s) a w):ck K (cu A (cJ s keys bk)) a w:=by
 obtain⟨β,ω,Z,h⟩:=h
 obtain⟨β',h'⟩:=h.fin keys bk hA.symm hin
 refine⟨⟨β',ω,Z,Rel.weak h' (fun r=>⟨(nQ _ r).1.trans (nQ _ r).1.symm,(nQ _ r).2.trans (nQ _ r).2.symm⟩) (fun t=>?_) (fun k=>?_) fun i=>?_⟩,(aqW A _).trans hA.symm⟩
 ·rw[aam,ahm]
  simp only[cJ]
  rw[aao]
  split
  ·exact aAA s bk _
  ·trivial
 ·rw[aep,ahn]
  simp only[cJ]
  rw[rA]
  have hv:(cl s (.box k)).v=ai (s.get (.box k)).v:=rfl
  split
  ·cases hb:(s.get (.box k)).v with
   |agg cs=>rw[hv,hb];exact⟨aer s bk cs,fun h=>by cases h⟩
   |_=>rw[hv,hb];exact⟨trivial,fun _=>rfl⟩
  ·exact⟨trivial,fun _=>rfl⟩
 ·rw[aeq,aho]
  have hs:(cl s (.arg i)).v=ai ((fF s.aB A).getD i .undef):=by rw[←hargs];rfl
  have hall:=aq1 s.aB A hok
  split
  ·rw[hs]
   refine(aAB ?_ _).symm
   show(((fF s.aB A).getD i .undef).cells.all (jv bk))=true
   rw[List.getD_eq_getElem?_getD]
   cases hi:(fF s.aB A)[i]? with
   |none=>rfl
   |some x=>exact List.all_eq_true.1 hall x (List.mem_of_getElem? hi)
  ·rename_i hi
   show ai _=SV.undef
   rw[List.getD_eq_getElem?_getD,List.getElem?_eq_none (by rw[aiB];omega)]
   rfl
end
end Go.Ve
namespace Go.Ve
open Go.Vs
abbrev cU:=List (ah×Option (List Bool))
def fZ (r:ah) (d:cU):Bool:=d.any fun e=>eu r e.1
def whole (r:ah) (d:cU):Bool:=d.any fun e=>eu r e.1&&e.2.isNone
def part (r:ah) (j:Nat) (d:cU):Bool:=d.any fun e=>eu r e.1&&(match e.2 with|some m=>m.getD j false|none=>true)
def nrm:E→E
 | .l (.aD q j _ _ k) t xs=>.l (.aD q j 0 0 k) t xs
 | .n (.aD q j _ _ k) t o=>.n (.aD q j 0 0 k) t o
 |c=>c
theorem aAD (c:E):nrm (nrm c)=nrm c:=by
 cases c with
 |l m t xs=>cases m<;>rfl
 |n m t o=>cases m<;>rfl
 |_=>rfl
def cD (c c':E):Prop:=c'=c∨c'=nrm c∨c'= .dead
theorem cD.same (c:E):cD c c:=.inl rfl
theorem cD.trans {a b c:E} (h:cD a b) (h':cD b c):cD a c:=by
 rcases h with rfl|rfl|rfl
 ·exact h'
 ·rcases h' with rfl|rfl|rfl
  ·exact .inr (.inl rfl)
  ·exact .inr (.inl (aAD a))
  ·exact .inr (.inr rfl)
 ·rcases h' with rfl|rfl|rfl<;>exact .inr (.inr rfl)
def usable:E→Bool
 | .dead=>false
 | .l (.aD _ _ hv cv _) _ _=>hv==0&&cv==0
 | .n (.aD _ _ hv cv _) _ _=>hv==0&&cv==0
 |_=>true
theorem aAE {c:E} (h:usable c=true):nrm c=c:=by
 cases c with
 |l m t xs=>
  cases m with
  |aD q j hv cv k=>simp only[usable,Bool.and_eq_true,beq_iff_eq]at h;obtain⟨rfl,rfl⟩:=h;rfl
  |_=>rfl
 |n m t xs=>
  cases m with
  |aD q j hv cv k=>simp only[usable,Bool.and_eq_true,beq_iff_eq]at h;obtain⟨rfl,rfl⟩:=h;rfl
  |_=>rfl
 |_=>rfl
theorem aiE {c a:E} (h:cD c a) (ha:usable a=true):a=nrm c:=by
 rcases h with rfl|rfl|rfl
 ·exact(aAE ha).symm
 ·rfl
 ·cases ha
theorem aq2 {c a b:E} (h:cD c a) (h':cD c b) (ha:usable a=true) (hb:usable b=true):a=b:=(aiE h ha).trans (aiE h' hb).symm
def eE:aj→aj→Prop
 |_,.undef=>True
 | .one c,.one c'=>cD c c'
 | .agg cs,.agg cs'=>au cD cs cs'
 | .aJ vs,.aJ vs'=>au (fun p q=>p.1=q.1∧au cD p.2 q.2) vs vs'
 |_,_=>False
theorem au.same {α:Type} {R:α→α→Prop} (h:∀a,R a a):∀(l:List α),au R l l
 | []=>trivial
 |a :: l=>⟨h a,au.same h l⟩
theorem eE.same (v:aj):eE v v:=by
 cases v with
 |one c=>exact cD.same c
 |agg cs=>exact au.same cD.same cs
 |aJ vs=>exact au.same (fun p=>⟨rfl,au.same cD.same p.2⟩) vs
 |undef=>trivial
theorem eE.trans {a b c:aj} (h:eE a b) (h':eE b c):eE a c:=by
 cases c with
 |undef=>trivial
 |one z=>cases b<;>first|exact h'.elim|(cases a<;>first|exact h.elim|exact cD.trans h h')
 |agg z=>cases b<;>first|exact h'.elim|(cases a<;>first|exact h.elim|exact au.comp (R:=cD) (S:=cD) (U:=cD) (fun _ _ _ h1 h2=>cD.trans h1 h2) h h')
 |aJ z=>cases b<;>first|exact h'.elim|(cases a<;>first|exact h.elim|exact au.comp (fun _ _ _ h1 h2=>⟨h1.1.trans h2.1,au.comp (R:=cD) (S:=cD) (U:=cD) (fun _ _ _ h1 h2=>cD.trans h1 h2) h1.2 h2.2⟩) h h')
def lS (k:Key) (d:cU) (v v':aj):Prop:=
 v'= .undef∨∃cs cs',v= .agg cs∧v'= .agg cs'∧cs.length=cs'.length∧∀j,part (.box k) j d=false→∀c',cs'[j]? =some c'→∃c,cs[j]? =some c∧cD c c'
def cV (d:cU) (s s':aG):Prop:=
 (∀t,fZ (.tmp t) d=false→eE (s.get (.tmp t)).v (s'.get (.tmp t)).v)∧
 (∀k,whole (.box k) d=false→lS k d (s.get (.box k)).v (s'.get (.box k)).v)
theorem aes (r:ah) (l d:cU):fZ r (l++d)=(fZ r l||fZ r d):=by simp[fZ,List.any_append]
theorem aiF (r:ah) (l d:cU):whole r (l++d)=(whole r l||whole r d):=by simp[whole,List.any_append]
theorem aet (r:ah) (j:Nat) (l d:cU):part r j (l++d)=(part r j l||part r j d):=by simp[part,List.any_append]
def mW (s:aG):Prop:=∀k,(s.get (.box k)).v= .undef∨∃cs,(s.get (.box k)).v= .agg cs
theorem lS.same {k:Key} {d:cU} {v:aj} (h:v= .undef∨∃cs,v= .agg cs):lS k d v v:=by
 rcases h with h|⟨cs,h⟩
 ·exact .inl h
 ·exact .inr ⟨cs,cs,h,h,rfl,fun j _ c hc=>⟨c,hc,cD.same c⟩⟩
theorem cV.more {d l:cU} {s s':aG} (h:cV d s s'):cV (l++d) s s':=by
 refine⟨fun t ht=>h.1 t ?_,fun k hk=>?_⟩
 ·rw[aes,Bool.or_eq_false_iff]at ht;exact ht.2
 ·rw[aiF,Bool.or_eq_false_iff]at hk
  rcases h.2 k hk.2 with h|⟨cs,cs',g1,g2,g3,g4⟩
  ·exact .inl h
  ·refine .inr ⟨cs,cs',g1,g2,g3,fun j hj=>g4 j ?_⟩
   rw[aet,Bool.or_eq_false_iff]at hj
   exact hj.2
theorem cV.trans {d:cU} {s s1 s2:aG} (h:cV d s s1) (h':cV d s1 s2):cV d s s2:=by
 refine⟨fun t ht=>eE.trans (h.1 t ht) (h'.1 t ht),fun k hk=>?_⟩
 rcases h'.2 k hk with g|⟨ds,ds',f1,f2,f3,f4⟩
 ·exact .inl g
 ·rcases h.2 k hk with g|⟨cs,cs',g1,g2,g3,g4⟩
  ·rw[g]at f1;cases f1
  ·rw[g2]at f1
   cases f1
   refine .inr ⟨cs,ds',g1,f2,g3.trans f3,fun j hj c' cA=>?_⟩
   obtain⟨c1,e1,e2⟩:=f4 j hj c' cA
   obtain⟨c0,e3,e4⟩:=g4 j hj c1 e1
   exact⟨c0,e3,cD.trans e4 e2⟩
theorem aaq {r q:ah} (h:eu q r=false):q≠r:=by rintro rfl;rw[(kO q q).2 rfl]at h;cases h
theorem cV.cW {d:cU} {s s':aG} (hb:mW s) (h:∀r,r.isArg=false→fZ r d=false→s'.get r=s.get r) (hp:∀k,whole (.box k) d=false→fZ (.box k) d=true→lS k d (s.get (.box k)).v (s'.get (.box k)).v):cV d s s':=by
 refine⟨fun t ht=>by rw[h (.tmp t) rfl ht];exact eE.same _,fun k hk=>?_⟩
 cases ht:fZ (.box k) d with
 |false=>rw[h (.box k) rfl ht];exact lS.same (hb k)
 |true=>exact hp k hk ht
theorem aq3:∀(cs:List E) (os:List (Option E)) (j:Nat),(os.map Option.isSome).getD j false=false→(cI cs os)[j]? =cs[j]?
 | [],os,j,_=>by simp[cI]
 |c :: cs,[],j,_=>by simp[cI]
 |c :: cs,o :: os,0,h=>by
  cases o with
  |none=>simp[cI]
  |some x=>simp at h
 |c :: cs,o :: os,j+1,h=>by
  simp only[cI,List.getElem?_cons_succ]
  exact aq3 cs os j (by simpa using h)
theorem aq4:∀(cs:List E) (os:List (Option E)),(cI cs os).length=cs.length
 | [],os=>by simp[cI]
 |c :: cs,[]=>by simp[cI]
 |c :: cs,o :: os=>by simp[cI,aq4 cs os]
def Step (s s':aG):Prop:=mW s'∧s'.args=s.args∧∃l,s'.bC=l++s.bC∧cV s'.bC s s'
theorem Step.trans {s s1 s2:aG} (h:Step s s1) (h':Step s1 s2):Step s s2:=by
 obtain⟨b1,a1,l1,e1,k1⟩:=h
 obtain⟨b2,a2,l2,e2,k2⟩:=h'
 refine⟨b2,a2.trans a1,l2++l1,by rw[e2,e1,List.append_assoc],cV.trans ?_ k2⟩
 rw[e2]
 exact k1.more
theorem Step.same {s:aG} (h:mW s):Step s s:=⟨h,rfl,[],rfl,cV.cW h (fun _ _ _=>rfl) fun k _ _=>lS.same (h k)⟩
theorem Step.put {s:aG} (h:mW s) {r:ah} {x:cx} (hr:r.isArg=false) (hx:(∃t,r= .tmp t)∨∃cs,x.v= .agg cs):Step s (s.put r x):=by
 refine⟨fun k=>?_,rfl,[(r,none)],rfl,cV.cW h (fun q _ hd=>?_) fun k h1 h2=>?_⟩
 ·rw[wH s x hr]
  split
  ·rename_i hk
   rcases hx with⟨t,rfl⟩|⟨cs,hx⟩
   ·cases hk
   ·exact .inr ⟨cs,hx⟩
  ·exact h k
 ·rw[wH s x hr,if_neg]
  have:fZ q ((r,none) :: s.bC)=(eu q r||fZ q s.bC):=rfl
  have hd:fZ q ((r,none) :: s.bC)=false:=hd
  rw[this,Bool.or_eq_false_iff]at hd
  exact aaq hd.1
 ·rw[wH s x hr]
  have h1:whole (.box k) ((r,none) :: s.bC)=false:=h1
  have e1:whole (.box k) ((r,none) :: s.bC)=((eu (.box k) r&&true)||whole (.box k) s.bC):=rfl
  rw[e1,Bool.or_eq_false_iff,Bool.and_true]at h1
  rw[if_neg (aaq h1.1)]
  exact lS.same (h k)
theorem Step.know {s:aG} (h:mW s) (r:ah) (b:Bool):Step s (s.know r b):=by
 cases r with
 |tmp t=>
  have:=Step.put (s:=s) h (r:=.tmp t) (x:={ ef (.tmp t) s.m with v:=.one (kb b) }) rfl (.inl ⟨t,rfl⟩)
  exact this
 |_=>exact Step.same h
theorem Step.aB {s:aG} (h:mW s) (i j:Nat):Step s { s with aB:=s.aB++[(i,j)],bC:=(.arg i,none) :: s.bC }:=
 ⟨fun k=>h k,rfl,[(.arg i,none)],rfl,cV.cW h (fun q hq _=>by cases q<;>first|rfl|cases hq) fun k _ _=>lS.same (h k)⟩
theorem Step.wr {s:aG} (h:mW s) (k:Key) (os:List (Option E)):Step s (s.wr k os):=by
 rcases h k with hu|⟨cs,hcs⟩
 ·
  have fK:(ef (.box k) s.m).v= .undef:=hu
  have hg:∀q,q.isArg=false→((s.wr k os).get q).v=(s.get q).v∧(eu q (.box k)=false→(s.wr k os).get q=s.get q):=by
   intro q hq
   have key:∀q,ef q (s.wr k os).m=if q= .box k then{ hv:=(ef (.box k) s.m).hv+1,cv:=(ef (.box k) s.m).cv,v:=match(ef (.box k) s.m).v with| .agg cs=>.agg (cI cs os)|v=>v }else ef q s.m:=fun q=>rj (.box k) _ q s.m
   have:(s.wr k os).get q=ef q (s.wr k os).m:=by cases q<;>first|rfl|cases hq
   have e2:s.get q=ef q s.m:=by cases q<;>first|rfl|cases hq
   rw[this,key,e2]
   split
   ·rename_i e;subst e;rw[fK];exact⟨rfl,fun h=>by rw[(kO _ _).2 rfl]at h;cases h⟩
   ·exact⟨rfl,fun _=>rfl⟩
  refine⟨fun q=>?_,rfl,[(.box k,some (os.map Option.isSome))],rfl,cV.cW h (fun q hq hd=>?_) fun q h1 h2=>?_⟩
  ·rw[(hg (.box q) rfl).1];exact h q
  ·have e1:fZ q (s.wr k os).bC=(eu q (.box k)||fZ q s.bC):=rfl
   rw[e1,Bool.or_eq_false_iff]at hd
   exact(hg q hq).2 hd.1
  ·rw[(hg (.box q) rfl).1];exact lS.same (h q)
 ·refine⟨fun q=>?_,rfl,[(.box k,some (os.map Option.isSome))],rfl,cV.cW h (fun q _ hd=>?_) fun q h1 h2=>?_⟩
  ·rw[zS s k os _ hcs]
   split
   ·exact .inr ⟨_,rfl⟩
   ·exact h q
  ·rw[zS s k os _ hcs,if_neg]
   have e1:fZ q (s.wr k os).bC=(eu q (.box k)||fZ q s.bC):=rfl
   rw[e1,Bool.or_eq_false_iff]at hd
   exact aaq hd.1
  ·rw[zS s k os _ hcs]
   split
   ·rename_i e
    cases e
    refine .inr ⟨cs,cI cs os,hcs,rfl,(aq4 cs os).symm,fun j hj c' cA=>⟨c',?_,cD.same c'⟩⟩
    have e1:part (.box k) j (s.wr k os).bC=((eu (.box k) (.box k)&&(os.map Option.isSome).getD j false)||part (.box k) j s.bC):=rfl
    rw[e1,Bool.or_eq_false_iff,(kO _ _).2 rfl,Bool.true_and]at hj
    rw[←aq3 cs os j hj.1]
    exact cA
   ·exact lS.same (h q)
theorem aq5 {α:Type} (p:PE α):∀(s:aG),mW s→(p.both s).each fun x=>Step s x.2.1:=by
 induction p with
 |ret a=>intro s h;exact Step.same h
 |fail=>intro s h;trivial
 |br c t e cS cT=>intro s h;exact⟨cS s h,cT s h⟩
 |call d o k ih=>intro s h;exact fun x=>ih x s h
 |get r k ih=>intro s h;simp only[PE.both,Tr.iL];exact ih _ s h
 |put r x k ih=>
  intro s h
  simp only[PE.both]
  cases hp:tE r x with
  |false=>trivial
  |true=>
   simp only[Tr.iL]
   have hr:r.isArg=false:=by cases r<;>first|rfl|(simp[tE]at hp)
   have hx:(∃t,r= .tmp t)∨∃cs,x.v= .agg cs:=by
    cases r with
    |tmp t=>exact .inl ⟨t,rfl⟩
    |box k=>
     cases hv:x.v with
     |agg cs=>exact .inr ⟨cs,rfl⟩
     |_=>simp[tE,hv]at hp
    |arg i=>cases hr
   have h1:=Step.put h hr hx
   exact Tr.eH (fun y hy=>Step.trans h1 hy) (ih _ h1.1)
 |aB i j k ih=>
  intro s h
  simp only[PE.both,Tr.iL]
  have h1:=Step.aB h i j
  exact Tr.eH (fun y hy=>Step.trans h1 hy) (ih _ h1.1)
 |know r b k ih=>
  intro s h
  have h1:=Step.know h r b
  exact Tr.eH (fun y hy=>Step.trans h1 hy) (ih _ h1.1)
 |wr q os k ih=>
  intro s h
  simp only[PE.both,Tr.iL]
  have h1:=Step.wr h q os
  exact Tr.eH (fun y hy=>Step.trans h1 hy) (ih _ h1.1)
theorem aeu (cfg:c8) (ops:Array Oper):∀(l:List Oper) (s:aG),mW s→(nY cfg ops l s).each fun x=>Step s x.1
 | [],s,h=>Step.same h
 |o :: r,s,h=>by
  simp only[nY]
  rw[Tr.gO]
  refine Tr.eH ?_ (aq5 (adZ cfg ops o) s h)
  rintro ⟨a,s',f,g⟩ h1
  rw[Tr.gO]
  refine Tr.eH ?_ (aeu cfg ops r s' h1.1)
  rintro ⟨s'',l⟩ h2
  exact Step.trans h1 h2
theorem mX (A:List aj) (p:aN):mW (bg A p):=by
 intro k
 rw[gZ]
 cases bw k p.boxes with
 |none=>exact .inl rfl
 |some cs=>exact .inr ⟨cs,rfl⟩
theorem aiG (s:aG) (bk:List Key) (c:E):cD c (fY s bk c):=by
 have dd:∀(b:Bool) (x y:E),(x=y∨x=nrm y)→cD y (match b with|true=>x|false=>.dead):=by
  intro b x y h
  cases b with
  |true=>rcases h with rfl|rfl<;>first|exact .inl rfl|exact .inr (.inl rfl)
  |false=>exact .inr (.inr rfl)
 cases c with
 |l m t xs=>cases m<;>first|exact .inl rfl|exact dd _ _ _ (.inr rfl)
 |n m t xs=>cases m<;>first|exact .inl rfl|exact dd _ _ _ (.inr rfl)
 |ptr k off=>exact dd _ _ _ (.inl rfl)
 |bW f caps=>exact dd _ _ _ (.inl rfl)
 |ea=>exact .inr (.inr rfl)
 |gone b=>exact .inr (.inr rfl)
 |it m t xs sn=>cases m<;>first|exact .inl rfl|exact .inr (.inr rfl)
 |_=>exact .inl rfl
theorem aiH (s:aG) (bk:List Key):∀(cs:List E),au cD cs (cs.map (fY s bk))
 | []=>trivial
 |c :: cs=>⟨aiG s bk c,aiH s bk cs⟩
theorem aAF (s:aG) (bk:List Key) (v:aj):eE v (rz s bk v):=by
 cases v with
 |one c=>exact aiG s bk c
 |agg cs=>exact aiH s bk cs
 |aJ vs=>
  show au _ vs (vs.map fun p=>(p.1,p.2.map (fY s bk)))
  induction vs with
  |nil=>trivial
  |cons p vs ih=>exact⟨⟨rfl,aiH s bk p.2⟩,ih⟩
 |undef=>trivial
theorem tO (A:List aj) (s:aG) (hb:mW s) (keys:List Nat) (bk:List Key) (d:cU):cV d s (bg A (cJ s keys bk)):=by
 refine⟨fun t _=>?_,fun k _=>?_⟩
 ·rw[jU]
  simp only[cJ]
  rw[aao]
  split
  ·exact aAF s bk _
  ·trivial
 ·rw[gZ]
  simp only[cJ]
  rw[rA]
  rcases hb k with h|⟨cs,h⟩
  ·rw[h]
   left
   by_cases hk:k∈bk
   ·rw[if_pos hk]
   ·rw[if_neg hk]
  ·rw[h]
   by_cases hk:k∈bk
   ·rw[if_pos hk]
    refine .inr ⟨cs,_,rfl,rfl,by simp,fun j _ c' cA=>?_⟩
    rw[List.getElem?_map]at cA
    cases hc:cs[j]? with
    |none=>rw[hc]at cA;cases cA
    |some c=>rw[hc]at cA;cases cA;exact⟨c,rfl,aiG s bk c⟩
   ·rw[if_neg hk];exact .inl rfl
end Go.Ve
namespace Go.Ve
open Go.Vs
def aar (c:Bool) (a b:E):E:=
 match a,b with
 | .tt,.tt=>.tt
 | .ff,.ff=>.ff
 | .tt,.ff=>.b c
 | .ff,.tt=>.b (!c)
 | .tt,.b y=>.b (c||y)
 | .b x,.ff=>.b (c&&x)
 | .ff,.b y=>.b (!c&&y)
 | .b x,.tt=>.b (!c||x)
 | .b x,.b y=>.b (if c=true then x else y)
 |_,_=>.dead
def tP (c:Bool) (a b:E):E:=
 match a,b with
 | .i k a,.i k' b=>if k=k' then .i k (if c=true then a else b)else .dead
 | .s a,.s b=>.s (if c=true then a else b)
 | .l m t xs,.l m' t' ys=>if m=m' then(if h:t'=t then .l m t (if c=true then xs else h ▸ ys)else .dead)else .dead
 | .n m t o,.n m' t' o'=>if m=m' then(if h:t'=t then .n m t (if c=true then o else h ▸ o')else .dead)else .dead
 | .n m t o,.l m' t' ys=>if m=m' then(if h:t'=t then .n m t (if c=true then o else some (h ▸ ys))else .dead)else .dead
 | .l m t xs,.n m' t' o'=>if m=m' then(if h:t'=t then .n m t (if c=true then some xs else h ▸ o')else .dead)else .dead
 | .n m t o,.nil=>.n m t (if c=true then o else none)
 | .nil,.n m t o=>.n m t (if c=true then none else o)
 | .l m t xs,.nil=>.n m t (if c=true then some xs else none)
 | .nil,.l m t xs=>.n m t (if c=true then none else some xs)
 | .nil,.nil=>.nil
 | .aK k,.aK k'=>if k=k' then .aK k else .dead
 | .ptr k o,.ptr k' o'=>if k=k'∧o=o' then .ptr k o else .dead
 | .bW f l,.bW f' l'=>if f=f'∧l=l' then .bW f l else .dead
 |a,b=>aar c a b
theorem aAG (a b:E):cC (cE a) (cE (aar true a b)):=by
 unfold aar
 split<;>first|exact .inl rfl|exact .inr rfl
theorem aAH (a b:E):cC (cE b) (cE (aar false a b)):=by
 unfold aar
 split<;>first|exact .inl rfl|exact .inr rfl
theorem aq6 (a b:E):cC (cE a) (cE (tP true a b)):=by
 unfold tP
 split
 ·split<;>first|exact .inl rfl|exact .inr rfl
 ·exact .inl rfl
 ·split
  ·split<;>first|exact .inl rfl|exact .inr rfl
  ·exact .inr rfl
 ·split
  ·split<;>first|exact .inl rfl|exact .inr rfl
  ·exact .inr rfl
 ·split
  ·split<;>first|exact .inl rfl|exact .inr rfl
  ·exact .inr rfl
 ·split
  ·split<;>first|exact .inl rfl|exact .inr rfl
  ·exact .inr rfl
 ·exact .inl rfl
 ·exact .inl rfl
 ·exact .inl rfl
 ·exact .inl rfl
 ·exact .inl rfl
 ·split<;>first|exact .inl rfl|exact .inr rfl
 ·split<;>first|exact .inl rfl|exact .inr rfl
 ·split<;>first|exact .inl rfl|exact .inr rfl
 ·exact aAG _ _
theorem aq7 (a b:E):cC (cE b) (cE (tP false a b)):=by
 unfold tP
 split
 ·split
  ·rename_i h;subst h;exact .inl rfl
  ·exact .inr rfl
 ·exact .inl rfl
 ·split
  ·rename_i h;subst h
   split
   ·rename_i h;subst h;exact .inl rfl
   ·exact .inr rfl
  ·exact .inr rfl
 ·split
  ·rename_i h;subst h
   split
   ·rename_i h;subst h;exact .inl rfl
   ·exact .inr rfl
  ·exact .inr rfl
 ·split
  ·rename_i h;subst h
   split
   ·rename_i h;subst h;exact .inl rfl
   ·exact .inr rfl
  ·exact .inr rfl
 ·split
  ·rename_i h;subst h
   split
   ·rename_i h;subst h;exact .inl rfl
   ·exact .inr rfl
  ·exact .inr rfl
 ·exact .inl rfl
 ·exact .inl rfl
 ·exact .inl rfl
 ·exact .inl rfl
 ·exact .inl rfl
 ·split
  ·rename_i h;subst h;exact .inl rfl
  ·exact .inr rfl
 ·split
  ·rename_i h;obtain⟨rfl,rfl⟩:=h;exact .inl rfl
  ·exact .inr rfl
 ·split
  ·rename_i h;obtain⟨rfl,rfl⟩:=h;exact .inl rfl
  ·exact .inr rfl
 ·exact aAH _ _
def mY (a b:E):E:=match usable a&&usable b with|true=>a|false=>.dead
def aas (f:E→E→E):List E→List E→List E
 |a :: as,b :: bs=>f a b :: aas f as bs
 |_,_=>[]
def kQ (f:E→E→E) (v u:aj):aj:=
 match v,u with
 | .one a,.one b=>.one (f a b)
 | .agg as,.agg bs=>match as.length==bs.length with
   |true=>.agg (aas f as bs)
   |false=>.undef
 |_,_=>.undef
theorem aq8 (a b:E):cD a (mY a b):=by
 unfold mY;split<;>first|exact .inl rfl|exact .inr (.inr rfl)
theorem aq9 (a b:E):cC (cE a) (cE (mY a b)):=by
 unfold mY;split<;>first|exact .inl rfl|exact .inr rfl
theorem aiI {c a b:E} (h:cD c a) (h':cD c b):cC (cE b) (cE (mY a b)):=by
 unfold mY
 split
 ·rename_i hu
  simp only[Bool.and_eq_true]at hu
  rw[aq2 h h' hu.1 hu.2]
  exact .inl rfl
 ·exact .inr rfl
theorem aiJ {f:E→E→E} {R:E→E→Prop} (hf:∀a b,R a (f a b)):∀(as bs:List E),as.length=bs.length→au R as (aas f as bs)
 | [],[],_=>trivial
 |a :: as,b :: bs,h=>⟨hf a b,aiJ hf as bs (by simpa using h)⟩
 | [],_ :: _,h=>by simp at h
 |_ :: _,[],h=>by simp at h
theorem ara {f:E→E→E} {R:E→E→Prop} (hf:∀a b,R b (f a b)):∀(as bs:List E),as.length=bs.length→au R bs (aas f as bs)
 | [],[],_=>trivial
 |a :: as,b :: bs,h=>⟨hf a b,ara hf as bs (by simpa using h)⟩
 | [],_ :: _,h=>by simp at h
 |_ :: _,[],h=>by simp at h
theorem au.aat {R:C→C→Prop}:∀{as bs:List E},au (fun a b=>R (cE a) (cE b)) as bs→au R (aq as) (aq bs)
 | [],[],_=>trivial
 |_ :: _,_ :: _,h=>⟨h.1,au.aat h.2⟩
theorem arb {f:E→E→E} (hf:∀a b,cC (cE a) (cE (f a b))) (v u:aj):jT (ai v) (ai (kQ f v u)):=by
 unfold kQ
 split
 ·exact hf _ _
 ·split
  ·rename_i h;exact au.aat (aiJ hf _ _ (by simpa using h))
  ·trivial
 ·trivial
theorem aAI {f:E→E→E} (hf:∀a b,cD a (f a b)) (v u:aj):eE v (kQ f v u):=by
 unfold kQ
 split
 ·exact hf _ _
 ·split
  ·rename_i h;exact aiJ hf _ _ (by simpa using h)
  ·trivial
 ·trivial
theorem aAJ {f:E→E→E} (hf:∀a b,cC (cE b) (cE (f a b))) (v u:aj):jT (ai u) (ai (kQ f v u)):=by
 unfold kQ
 split
 ·exact hf _ _
 ·split
  ·rename_i h;exact au.aat (ara hf _ _ (by simpa using h))
  ·trivial
 ·trivial
theorem aAK {cs:List E}:∀{as bs:List E},au cD cs as→au cD cs bs→au (fun b x=>cC (cE b) (cE x)) bs (aas mY as bs):=by
 induction cs with
 |nil=>
  intro as bs h1 h2
  cases as<;>cases bs<;>first|trivial|exact h1.elim|exact h2.elim
 |cons c cs ih=>
  intro as bs h1 h2
  cases as with
  |nil=>exact h1.elim
  |cons a as=>
   cases bs with
   |nil=>exact h2.elim
   |cons b bs=>exact⟨aiI h1.1 h2.1,ih h1.2 h2.2⟩
theorem aAL {v0 v u:aj} (h:eE v0 v) (h':eE v0 u):jT (ai u) (ai (kQ mY v u)):=by
 unfold kQ
 split
 ·cases v0 with
  |one c=>exact aiI h h'
  |_=>exact h.elim
 ·split
  ·cases v0 with
   |agg cs=>exact au.aat (aAK h h')
   |_=>exact h.elim
  ·trivial
 ·trivial
def aau (c:Bool) (d:cU) (q:aN):List (Nat×aj)→List (Nat×aj)
 | []=>[]
 |(t,v) :: r=>(t,match fZ (.tmp t) d with
  |true=>kQ (tP c) v (bM t q.slots)
  |false=>kQ mY v (bM t q.slots)) :: aau c d q r
def mZ (c:Bool) (d:cU) (k:Key):Nat→List E→List E→List E
 |j,a :: as,b :: bs=>(match whole (.box k) d||part (.box k) j d with
  |true=>tP c a b
  |false=>mY a b) :: mZ c d k (j+1) as bs
 |_,_,_=>[]
def aev (c:Bool) (d:cU) (q:aN):List (Key×List E)→List (Key×List E)
 | []=>[]
 |(k,as) :: r=>(k,match bw k q.boxes with
  |some bs=>(match as.length==bs.length with
   |true=>mZ c d k 0 as bs
   |false=>as.map fun _=>.dead)
  |none=>as.map fun _=>.dead) :: aev c d q r
def jV (A:List aj) (inb bk:List Key):Bool:=aap bk A&&inb.all fun k=>bk.any (de k)
def hasB (k:Key) (p:aN):Bool:=match bw k p.boxes with|some _=>true|none=>false
def aAM (bk:List Key) (p q:aN):Bool:=bk.all fun k=>match bw k p.boxes,bw k q.boxes with
 |some as,some bs=>as.length==bs.length
 |_,_=>false
def merge (A:List aj) (inb:List Key) (c:Bool) (p q:aN):Option aN:=
 let bk:=(p.boxes.map (·.1)).filter fun k=>hasB k q
 match decide (p.aB=q.aB)&&jV A inb bk&&aAM bk p q with
 |true=>
  let d:=p.bC++q.bC
  let p1:=cJ (bg A p) (p.slots.map (·.1)) bk
  let q1:=cJ (bg A q) (q.slots.map (·.1)) bk
  some { slots:=aau c d q1 p1.slots,boxes:=aev c d q1 p1.boxes,aB:=p.aB,bC:=d }
 |false=>none
theorem aew (c:Bool) (d:cU) (q:aN) (t:Nat):∀(l:List (Nat×aj)),bM t (aau c d q l)=match fZ (.tmp t) d with
  |true=>kQ (tP c) (bM t l) (bM t q.slots)
  |false=>kQ mY (bM t l) (bM t q.slots)
 | []=>by simp only[aau,bM];split<;>(unfold kQ;rfl)
 |(u,v) :: r=>by
  simp only[aau,bM]
  cases h:t==u with
  |true=>have:t=u:=by simpa using h
         subst this;rfl
  |false=>exact aew c d q t r
theorem aex (c:Bool) (d:cU) (q:aN) (k:Key):∀(l:List (Key×List E)),bw k (aev c d q l)=match bw k l with
  |some as=>some (match bw k q.boxes with
   |some bs=>(match as.length==bs.length with
    |true=>mZ c d k 0 as bs
    |false=>as.map fun _=>.dead)
   |none=>as.map fun _=>.dead)
  |none=>none
 | []=>rfl
 |(u,v) :: r=>by
  simp only[aev,bw]
  cases h:de k u with
  |true=>have:=(fQ k u).1 h
         subst this;rfl
  |false=>exact aex c d q k r
theorem arc (c:Bool) (d:cU) (k:Key):∀(as bs:List E) (j:Nat),as.length=bs.length→(mZ c d k j as bs).length=as.length
 | [],[],_,_=>rfl
 |a :: as,b :: bs,j,h=>by simp[mZ,arc c d k as bs (j+1) (by simpa using h)]
 | [],_ :: _,_,h=>by simp at h
 |_ :: _,[],_,h=>by simp at h
theorem ard {c:Bool} (hc:c=true) (d:cU) (k:Key):∀(as bs:List E) (j:Nat),as.length=bs.length→au (fun a x=>cC (cE a) (cE x)) as (mZ c d k j as bs)
 | [],[],_,_=>trivial
 |a :: as,b :: bs,j,h=>by
  refine⟨?_,ard hc d k as bs (j+1) (by simpa using h)⟩
  split
  ·subst hc;exact aq6 a b
  ·exact aq9 a b
 | [],_ :: _,_,h=>by simp at h
 |_ :: _,[],_,h=>by simp at h
theorem arf {c:Bool} (hc:c=false) (d:cU) (k:Key):∀(as bs:List E) (j:Nat),as.length=bs.length→(∀i,whole (.box k) d=false→part (.box k) (j+i) d=false→∀a b,as[i]? =some a→bs[i]? =some b→∃x,cD x a∧cD x b)→au (fun b x=>cC (cE b) (cE x)) bs (mZ c d k j as bs)
 | [],[],_,_,_=>trivial
 |a :: as,b :: bs,j,h,hk=>by
  refine⟨?_,arf hc d k as bs (j+1) (by simpa using h) fun i h1 h2 x y hx hy=>hk (i+1) h1 (by rw[show j+(i+1)=j+1+i by omega];exact h2) x y (by simpa using hx) (by simpa using hy)⟩
  split
  ·subst hc;exact aq7 a b
  ·rename_i hw
   rw[Bool.or_eq_false_iff]at hw
   obtain⟨x,h1,h2⟩:=hk 0 hw.1 (by simpa using hw.2) a b rfl rfl
   exact aiI h1 h2
 | [],_ :: _,_,h,_=>by simp at h
 |_ :: _,[],_,h,_=>by simp at h
theorem arh (c:Bool) (d:cU) (k:Key):∀(as bs:List E) (j i:Nat) (x:E),as.length=bs.length→whole (.box k) d=false→part (.box k) (j+i) d=false→(mZ c d k j as bs)[i]? =some x→∃a,as[i]? =some a∧cD a x
 | [],[],_,i,x,_,_,_,h=>by simp[mZ]at h
 |a :: as,b :: bs,j,0,x,hl,hw,hp,h=>by
  simp only[mZ,List.getElem?_cons_zero,Option.some.injEq]at h
  rw[show j+0=j by omega]at hp
  rw[hw,hp]at h
  subst h
  exact⟨a,rfl,aq8 a b⟩
 |a :: as,b :: bs,j,i+1,x,hl,hw,hp,h=>by
  simp only[mZ,List.getElem?_cons_succ]at h ⊢
  exact arh c d k as bs (j+1) i x (by simpa using hl) hw (by rw[show j+1+i=j+(i+1) by omega];exact hp) h
 | [],_ :: _,_,_,_,h,_,_,_=>by simp at h
 |_ :: _,[],_,_,_,h,_,_,_=>by simp at h
theorem aH7 {k:Key} {l:List (Key×List E)} (h:k∈l.map (·.1)):∃cs,bw k l=some cs:=by
 induction l with
 |nil=>simp at h
 |cons x r ih=>
  simp only[List.map_cons,List.mem_cons]at h
  simp only[bw]
  cases hk:de k x.1 with
  |true=>exact⟨_,rfl⟩
  |false=>exact ih (h.resolve_left fun e=>by rw[(fQ k x.1).2 e]at hk;cases hk)
theorem ari {cs cs':List E} (h:au (fun a x=>cC (cE a) (cE x)) cs cs'):au cC (aq cs) (aq cs'):=au.aat h
section
variable {K:Ctx} {A:List aj} {inb:List Key} {a:Act} {w:World} {p0:aG} {c:Bool} {p q m:aN}
structure fG (K:Ctx) (A:List aj) (inb:List Key):Prop where
 size:K.argv.size=A.length
 keys:∀k b,K.gA k=some b→k∈inb
theorem fG.bk (hF:fG K A inb) {bk:List Key} (h:jV A inb bk=true):aap bk A=true∧∀k b,K.gA k=some b→k∈bk:=by
 simp only[jV,Bool.and_eq_true]at h
 refine⟨h.1,fun k b hk=>?_⟩
 have:=List.all_eq_true.1 h.2 k (hF.keys k b hk)
 rw[wL]at this
 simpa using this
theorem ck.cJ (hF:fG K A inb) {bk:List Key} (hbk:jV A inb bk=true) (keys:List Nat) (h:ck K (cu A p) a w):ck K (cu A (cJ (bg A p) keys bk)) a w:=by
 obtain⟨h1,h2⟩:=hF.bk hbk
 refine aiD rfl hF.size h1 h2 ?_
 rw[aan]
 exact h.1
theorem Rel.wM {p p':aN} (hA:K.argv.size=A.length) (h:ck K (cu A p) a w) (jP:p'.aB=p.aB) (ht:∀t,jT (ai (bM t p.slots)) (ai (bM t p'.slots)))
  (hb:∀k,match bw k p.boxes,bw k p'.boxes with|some cs,some cs'=>au cC (aq cs) (aq cs')|none,none=>True|_,_=>False):ck K (cu A p') a w:=by
 obtain⟨⟨β,ω,Z,h⟩,_⟩:=h
 refine⟨⟨β,ω,Z,Rel.weak h (fun r=>⟨(nQ _ r).1.trans (nQ _ r).1.symm,(nQ _ r).2.trans (nQ _ r).2.symm⟩) (fun t=>by rw[aam,aam];exact ht t) (fun k=>?_) fun i=>by rw[aeq,aeq,jP]⟩,(aqW A _).trans hA.symm⟩
 rw[aep,aep]
 have:=hb k
 cases h1:bw k p.boxes with
 |none=>
  cases h2:bw k p'.boxes with
  |none=>exact⟨trivial,fun _=>rfl⟩
  |some cs'=>rw[h1,h2]at this;exact this.elim
 |some cs=>
  cases h2:bw k p'.boxes with
  |none=>rw[h1,h2]at this;exact this.elim
  |some cs'=>rw[h1,h2]at this;exact⟨this,fun h=>by cases h⟩
theorem aAN (hF:fG K A inb) (hp:cV p.bC p0 (bg A p)) (hq:cV q.bC p0 (bg A q)) (hm:merge A inb c p q=some m):
  (c=true→ck K (cu A p) a w→ck K (cu A m) a w)∧(c=false→ck K (cu A q) a w→ck K (cu A m) a w)∧cV m.bC p0 (bg A m)∧m.bC=p.bC++q.bC:=by
 unfold merge at hm
 generalize hbk:((p.boxes.map (·.1)).filter fun k=>hasB k q)=bk at hm
 simp only at hm
 split at hm
 ·rename_i hc
  simp only[Bool.and_eq_true,decide_eq_true_eq]at hc
  obtain⟨⟨jP,hok⟩,hlen⟩:=hc
  cases hm
  have hd:cV (p.bC++q.bC) p0 (bg A (cJ (bg A p) (p.slots.map (·.1)) bk)):=by
   refine cV.trans ?_ (tO A _ (mX A p) _ _ _)
   refine⟨fun t ht=>hp.1 t ?_,fun k hk=>?_⟩
   ·rw[aes,Bool.or_eq_false_iff]at ht;exact ht.1
   ·rw[aiF,Bool.or_eq_false_iff]at hk
    rcases hp.2 k hk.1 with h|⟨cs,cs',g1,g2,g3,g4⟩
    ·exact .inl h
    ·refine .inr ⟨cs,cs',g1,g2,g3,fun j hj=>g4 j ?_⟩
     rw[aet,Bool.or_eq_false_iff]at hj
     exact hj.1
  have hd':cV (p.bC++q.bC) p0 (bg A (cJ (bg A q) (q.slots.map (·.1)) bk)):=cV.trans hq.more (tO A _ (mX A q) _ _ _)
  generalize kB:cJ (bg A p) (p.slots.map (·.1)) bk=p1 at *
  generalize hq1:cJ (bg A q) (q.slots.map (·.1)) bk=q1 at *
  have fD:∀k,(∃as bs,bw k p1.boxes=some as∧bw k q1.boxes=some bs∧as.length=bs.length)∨(bw k p1.boxes=none∧bw k q1.boxes=none):=by
   intro k
   rw[←kB,←hq1]
   simp only[cJ]
   rw[rA,rA,gZ,gZ]
   by_cases hk:k∈bk
   ·rw[if_pos hk,if_pos hk]
    have:=List.all_eq_true.1 hlen k hk
    cases h1:bw k p.boxes with
    |none=>rw[h1]at this;cases this
    |some as=>
     cases h2:bw k q.boxes with
     |none=>rw[h1,h2]at this;cases this
     |some bs=>
      rw[h1,h2]at this
      exact .inl ⟨_,_,rfl,rfl,by simpa using this⟩
   ·rw[if_neg hk,if_neg hk]
    exact .inr ⟨rfl,rfl⟩
  refine⟨fun hct hr=>?_,fun hcf hr=>?_,?_,rfl⟩
  ·have tQ:=ck.cJ hF hok (p.slots.map (·.1)) hr
   rw[kB]at tQ
   refine Rel.wM hF.size tQ (by rw[←kB];rfl) (fun t=>?_) fun k=>?_
   ·simp only
    rw[aew]
    split
    ·subst hct;exact arb aq6 _ _
    ·exact arb aq9 _ _
   ·simp only
    rw[aex]
    rcases fD k with⟨as,bs,h1,h2,h3⟩|⟨h1,h2⟩
    ·rw[h1,h2]
     simp only
     rw[show(as.length==bs.length)=true by simpa using h3]
     exact ari (ard hct _ k as bs 0 h3)
    ·rw[h1];trivial
  ·have tQ:=ck.cJ hF hok (q.slots.map (·.1)) hr
   rw[hq1]at tQ
   refine Rel.wM hF.size tQ (by rw[←hq1];exact jP) (fun t=>?_) fun k=>?_
   ·simp only
    rw[aew]
    split
    ·subst hcf;exact aAJ aq7 _ _
    ·rename_i ht
     have h1:=hd.1 t ht
     have h2:=hd'.1 t ht
     rw[jU]at h1 h2
     exact aAL h1 h2
   ·simp only
    rw[aex]
    rcases fD k with⟨as,bs,h1,h2,h3⟩|⟨h1,h2⟩
    ·rw[h1,h2]
     simp only
     rw[show(as.length==bs.length)=true by simpa using h3]
     refine ari (arf hcf _ k as bs 0 h3 fun i hw o6 x y hx hy=>?_)
     rw[Nat.zero_add]at o6
     have e1:=hd.2 k hw
     have e2:=hd'.2 k hw
     rw[gZ,h1]at e1
     rw[gZ,h2]at e2
     rcases e1 with e1|⟨cs,cs',g1,g2,g3,g4⟩
     ·cases e1
     ·cases g2
      rcases e2 with e2|⟨ds,ds',f1,f2,f3,f4⟩
      ·cases e2
      ·cases f2
       rw[g1]at f1
       cases f1
       obtain⟨z,z1,z2⟩:=g4 i o6 x hx
       obtain⟨z',z3,z4⟩:=f4 i o6 y hy
       rw[z1]at z3
       cases z3
       exact⟨z,z2,z4⟩
    ·rw[h1,h2];trivial
  ·refine⟨fun t ht=>?_,fun k hk=>?_⟩
   ·rw[jU]
    simp only
    rw[aew,ht]
    have:=hd.1 t ht
    rw[jU]at this
    exact eE.trans this (aAI aq8 _ _)
   ·rw[gZ]
    simp only
    rw[aex]
    have e1:=hd.2 k hk
    rw[gZ]at e1
    rcases fD k with⟨as,bs,h1,h2,h3⟩|⟨h1,h2⟩
    ·rw[h1,h2]
     rw[h1]at e1
     simp only
     rw[show(as.length==bs.length)=true by simpa using h3]
     rcases e1 with e1|⟨cs,cs',g1,g2,g3,g4⟩
     ·cases e1
     ·cases g2
      refine .inr ⟨cs,_,g1,rfl,g3.trans (arc c _ k as bs 0 h3).symm,fun j hj x hx=>?_⟩
      obtain⟨y,y1,y2⟩:=arh c _ k as bs 0 j x h3 hk (by rw[Nat.zero_add];exact hj) hx
      obtain⟨z,z1,z2⟩:=g4 j hj y y1
      exact⟨z,z1,cD.trans z2 y2⟩
    ·rw[h1];exact .inl rfl
 ·cases hm
end
end Go.Ve
namespace Go.Ve
open Go.Vs
def view:Tr (Ex×aN)→Option (Option Bool×aN)
 | .leaf x=>match x with
   |(.normal,p)=>some (none,p)
   |_=>none
 | .br g t e=>match t,e with
   | .leaf (.normal,p),.fail=>some (some g,p)
   |_,_=>none
 |_=>none
def aiK {α:Type}:Tr α→Bool
 | .fail=>true
 |_=>false
def lT {α:Type} (g:Option Bool) (t:Tr α):Tr α:=
 match g with
 |none=>t
 |some g=>.br g t .fail
def aAO (p q:aN):Bool:=p.slots.any fun x=>match x.2,bM x.1 q.slots with
 | .one (.ptr _ _),.one (.aK _)=>true
 | .one (.aK _),.one (.ptr _ _)=>true
 |_,_=>false
def aiL (A:List aj) (inb:List Key) (c:Bool) (p q:aN):Option aN:=match aAO p q with
 |true=>none
 |false=>merge A inb c p q
theorem aAP {A:List aj} {inb:List Key} {c:Bool} {p q m:aN} (h:aiL A inb c p q=some m):merge A inb c p q=some m:=by
 unfold aiL at h
 split at h
 ·cases h
 ·exact h
def aey (A:List aj) (inb:List Key) (c:Bool) (a b:Tr (Ex×aN)):Tr (Ex×aN):=
 match view a,view b with
 |some (g,p),some (h,q)=>match aiL A inb c p q with
  |some m=>lT (match g,h with
   |none,none=>none
   |some g,none=>some (!c||g)
   |none,some h=>some (c||h)
   |some g,some h=>some (if c=true then g else h)) (.leaf (.normal,m))
  |none=>.br c a b
 |some (g,p),none=>match aiK b with
  |true=>lT (some (match g with|none=>c|some g=>c&&g)) (.leaf (.normal,p))
  |false=>.br c a b
 |none,some (h,q)=>match aiK a with
  |true=>lT (some (match h with|none=> !c|some h=> !c&&h)) (.leaf (.normal,q))
  |false=>.br c a b
 |none,none=>.br c a b
def kR (A:List aj) (inb:List Key):Tr (Ex×aN)→Tr (Ex×aN)
 | .leaf x=>.leaf x
 | .fail=>.fail
 | .br c a b=>aey A inb c (kR A inb a) (kR A inb b)
 | .call d o k=>.call d o fun x=>kR A inb (k x)
 | .sum o k k'=>.sum o (fun x=>kR A inb (k x)) fun x=>kR A inb (k' x)
theorem aez {t:Tr (Ex×aN)} {g:Option Bool} {p:aN} (h:view t=some (g,p)):t=lT g (.leaf (.normal,p)):=by
 unfold view at h
 split at h
 ·split at h<;>cases h;rfl
 ·split at h<;>cases h;rfl
 ·cases h
theorem ark {α:Type} {t:Tr α} (h:aiK t=true):t= .fail:=by cases t<;>first|rfl|cases h
section
variable {K:Ctx} {A:List aj} {inb:List Key}
def Reach (K:Ctx) (A:List aj) (Q:Ex×aN→Prop) (x:Ex×aN):Prop:=
 ∀a w,ck K (cu A x.2) a w→∃y,lN x.1=lN y.1∧Q y∧ck K (cu A y.2) a w
theorem Reach.of {Q:Ex×aN→Prop} {x:Ex×aN} (h:Q x):Reach K A Q x:=fun _ _ hr=>⟨x,rfl,h,hr⟩
theorem Reach.idem {Q:Ex×aN→Prop} {x:Ex×aN} (h:Reach K A (Reach K A Q) x):Reach K A Q x:=by
 intro a w hr
 obtain⟨y,h1,h2,h3⟩:=h a w hr
 obtain⟨z,g1,g2,g3⟩:=h2 a w h3
 exact⟨z,h1.trans g1,g2,g3⟩
theorem aeA {α:Type} {t:Tr α} {Q Q':α→Prop} (h:∀a,Q a→Q' a) (ht:t.all Q):t.all Q':=by
 obtain⟨a,h1,h2⟩:=(Tr.pG t Q).1 ht
 exact(Tr.pG t Q').2 ⟨a,h1,h a h2⟩
def dD (p0:aG) (A:List aj) (x:Ex×aN):Prop:=(∃l,x.2.bC=l++p0.bC)∧cV x.2.bC p0 (bg A x.2)
theorem tR {α:Type} {g:Option Bool} {x:α} {Q:α→Prop}:(lT g (.leaf x)).all Q↔((∀b,g=some b→b=true)∧Q x):=by
 cases g with
 |none=>simp[lT,Tr.all]
 |some b=>cases b<;>simp[lT,Tr.all]
theorem aH8 {α:Type} {g:Option Bool} {x:α} {Q:α→Prop}:(lT g (.leaf x)).box Q↔((∀b,g=some b→b=true)→Q x):=by
 cases g with
 |none=>simp[lT,Tr.box]
 |some b=>cases b<;>simp[lT,Tr.box]
theorem tS {α:Type} {g:Option Bool} {x:α} {Q:α→Prop}:(lT g (.leaf x)).each Q↔Q x:=by
 cases g<;>simp[lT,Tr.each]
theorem aAQ (hF:fG K A inb) {p0:aG} (c:Bool) (a b:Tr (Ex×aN)) (ka:a.each (dD p0 A)) (kb:b.each (dD p0 A)):
  (aey A inb c a b).each (dD p0 A)∧∀Q,(aey A inb c a b).all Q→(c=true→a.all (Reach K A Q))∧(c=false→b.all (Reach K A Q)):=by
 have plain:(Tr.br c a b).each (dD p0 A)∧∀Q,(Tr.br c a b).all Q→(c=true→a.all (Reach K A Q))∧(c=false→b.all (Reach K A Q)):=
  ⟨⟨ka,kb⟩,fun Q h=>⟨fun hc=>aeA (fun _=>Reach.of) (h.1 hc),fun hc=>aeA (fun _=>Reach.of) (h.2 hc)⟩⟩
 unfold aey
 split
 ·rename_i g p h q qz hvb
  have ea:=aez qz
  have eb:=aez hvb
  rw[ea,tS]at ka
  rw[eb,tS]at kb
  split
  ·rename_i m hm
   replace hm:=aAP hm
   have hrel:=fun a w=>aAN (K:=K) (A:=A) (inb:=inb) (a:=a) (w:=w) (p0:=p0) (c:=c) hF ka.2 kb.2 hm
   obtain⟨_,_,hk,hdm⟩:=hrel { tmps:= #[],defers:=[] } default
   refine⟨tS.2 ⟨?_,hk⟩,fun Q hall=>?_⟩
   ·obtain⟨l,hl⟩:=kb.1
    exact⟨p.bC++l,by show m.bC=_;rw[hdm,hl,List.append_assoc]⟩
   ·rw[tR]at hall
    obtain⟨hg,hQ⟩:=hall
    refine⟨fun hc=>?_,fun hc=>?_⟩
    ·rw[ea,tR]
     refine⟨fun g0 e=>?_,fun a w hr=>⟨(.normal,m),rfl,hQ,(hrel a w).1 hc hr⟩⟩
     subst e
     subst hc
     cases h with
     |none=>have:=hg _ rfl;simpa using this
     |some h=>have:=hg _ rfl;simpa using this
    ·rw[eb,tR]
     refine⟨fun g0 e=>?_,fun a w hr=>⟨(.normal,m),rfl,hQ,(hrel a w).2.1 hc hr⟩⟩
     subst e
     subst hc
     cases g with
     |none=>have:=hg _ rfl;simpa using this
     |some h=>have:=hg _ rfl;simpa using this
  ·exact plain
 ·rename_i g p qz hvb
  split
  ·rename_i hf
   have ea:=aez qz
   have eb:=ark hf
   rw[ea,tS]at ka
   refine⟨tS.2 ka,fun Q hall=>?_⟩
   rw[tR]at hall
   obtain⟨hg,hQ⟩:=hall
   have hg:=hg _ rfl
   refine⟨fun hc=>?_,fun hc=>?_⟩
   ·rw[ea,tR]
    refine⟨fun g0 e=>?_,Reach.of hQ⟩
    subst e;subst hc;simpa using hg
   ·subst hc
    cases g<;>simp at hg
  ·exact plain
 ·rename_i h q qz hvb
  split
  ·rename_i hf
   have eb:=aez hvb
   have ea:=ark hf
   rw[eb,tS]at kb
   refine⟨tS.2 kb,fun Q hall=>?_⟩
   rw[tR]at hall
   obtain⟨hg,hQ⟩:=hall
   have hg:=hg _ rfl
   refine⟨fun hc=>?_,fun hc=>?_⟩
   ·subst hc
    cases h<;>simp at hg
   ·rw[eb,tR]
    refine⟨fun g0 e=>?_,Reach.of hQ⟩
    subst e;subst hc;simpa using hg
  ·exact plain
 ·exact plain
theorem wN (hF:fG K A inb) {p0:aG}:∀(t:Tr (Ex×aN)),t.each (dD p0 A)→(kR A inb t).each (dD p0 A)∧∀Q,(kR A inb t).all Q→t.all (Reach K A Q):=by
 intro t
 induction t with
 |leaf x=>exact fun h=>⟨h,fun Q hq=>Reach.of hq⟩
 |fail=>exact fun _=>⟨trivial,fun Q hq=>hq⟩
 |br c a b od nc=>
  intro h
  obtain⟨ka,ha⟩:=od h.1
  obtain⟨kb,hb⟩:=nc h.2
  obtain⟨h1,h2⟩:=aAQ hF c _ _ ka kb
  refine⟨h1,fun Q hq=>?_⟩
  obtain⟨g1,g2⟩:=h2 Q hq
  exact⟨fun hc=>aeA (fun _=>Reach.idem) (ha _ (g1 hc)),fun hc=>aeA (fun _=>Reach.idem) (hb _ (g2 hc))⟩
 |call d o k ih=>exact fun h=>⟨fun x=>(ih x (h x)).1,fun Q ⟨x,hx,hq⟩=>⟨x,hx,(ih x (h x)).2 Q hq⟩⟩
 |sum o k k' ih cM=>exact fun h=>⟨⟨fun x=>(ih x (h.1 x)).1,fun x=>(cM x (h.2 x)).1⟩,fun Q hq=>⟨fun x hx=>(ih x (h.1 x)).2 Q (hq.1 x hx),fun x hx=>(cM x (h.2 x)).2 Q (hq.2 x hx)⟩⟩
end
inductive Sh where
 |i (k:IntKind)|b|s|l (m:Md) (t:Ty)|n (m:Md) (t:Ty)|p (k:Key) (off:Nat)|dd|u (k:NK)
@[reducible] def Sh.T:Sh→Type
  | .i _=>Int
  | .b=>Bool
  | .s=>List UInt8
  | .l _ t=>List t.T
  | .n _ t=>Option (List t.T)
  | .p _ _=>Unit
  | .dd=>Unit
  | .u _=>Unit
def Sh.inst:(h:Sh)→h.T→E
 | .i k,x=>.i k x
 | .b,x=>.b x
 | .s,x=>.s x
 | .l m t,xs=>.l m t xs
 | .n m t,o=>.n m t o
 | .p k off,_=>.ptr k off
 | .dd,_=>.dead
 | .u k,_=>.aK k
def Sh.dflt:(h:Sh)→h.T
 | .i _=>(0:Int)
 | .b=>false
 | .s=>([]:List UInt8)
 | .l _ t=>([]:List t.T)
 | .n _ t=>(none:Option (List t.T))
 | .p _ _=>()
 | .dd=>()
 | .u _=>()
def Sh.di:(h:Sh)→E→Option h.T
 | .i k=>fun c=>match c with
   | .i k' x=>if k'=k then some x else none
   |_=>none
 | .b=>fun c=>qS c
 | .s=>fun c=>match c with
   | .s x=>some x
   |_=>none
 | .l m t=>fun c=>match c with
   | .l m' t' xs=>if m'=m then(if h:t'=t then some (h ▸ xs)else none)else none
   |_=>none
 | .n m t=>fun c=>match c with
   | .l m' t' xs=>if m'=m then(if h:t'=t then some (some (h ▸ xs))else none)else none
   | .n m' t' o=>if m'=m then(if h:t'=t then some (h ▸ o)else none)else none
   | .nil=>some none
   |_=>none
 | .p k off=>fun c=>match c with
   | .ptr k' off'=>match de k k'&&off==off' with
     |true=>some ()
     |false=>none
   |_=>none
 | .dd=>fun c=>match c with
   | .dead=>some ()
   |_=>none
 | .u k=>fun c=>match c with
   | .aK k'=>if k'=k then some ()else none
   |_=>none
theorem Sh.je:∀{h:Sh} {c:E} {x:h.T},h.di c=some x→cE (h.inst x)=cE c
 | .i k,c,x,e=>by
   simp only[Sh.di]at e
   split at e
   ·split at e
    ·rename_i h;subst h;cases e;rfl
    ·cases e
   ·cases e
 | .b,c,x,e=>(zX e).symm
 | .dd,c,x,e=>by
   simp only[Sh.di]at e
   split at e<;>cases e
   rfl
 | .u k,c,x,e=>by
   simp only[Sh.di]at e
   split at e
   ·split at e
    ·rename_i h;subst h;rfl
    ·cases e
   ·cases e
 | .p k off,c,x,e=>by
   simp only[Sh.di]at e
   split at e
   ·split at e
    ·rename_i h
     simp only[Bool.and_eq_true,beq_iff_eq,fQ]at h
     obtain⟨rfl,rfl⟩:=h
     rfl
    ·cases e
   ·cases e
 | .s,c,x,e=>by
   simp only[Sh.di]at e
   split at e<;>cases e
   rfl
 | .l m t,c,x,e=>by
   simp only[Sh.di]at e
   split at e
   ·split at e
    ·rename_i h;subst h
     split at e
     ·rename_i h;subst h;cases e;rfl
     ·cases e
    ·cases e
   ·cases e
 | .n m t,c,x,e=>by
   simp only[Sh.di]at e
   split at e
   ·split at e
    ·rename_i h;subst h
     split at e
     ·rename_i h;subst h;cases e;rfl
     ·cases e
    ·cases e
   ·split at e
    ·rename_i h;subst h
     split at e
     ·rename_i h;subst h;cases e;rfl
     ·cases e
    ·cases e
   ·cases e;rfl
   ·cases e
inductive Pl where
 |slot (t:Nat) (h:Sh)|jw (t:Nat) (r:Ty)|cell (k:Key) (j:Nat) (h:Sh)
@[reducible] def Pl.T:Pl→Type
  | .slot _ h=>h.T
  | .jw _ r=>r.T
  | .cell _ _ h=>h.T
def Pl.dflt:(p:Pl)→p.T
 | .slot _ h=>h.dflt
 | .jw _ r=>r.zero
 | .cell _ _ h=>h.dflt
@[reducible] def VT:List Pl→Type
  | []=>Unit
  |p :: r=>match r with
   | []=>p.T
   |q :: r=>p.T×VT (q :: r)
def VT.dflt:(l:List Pl)→VT l
 | []=>()
 | [p]=>p.dflt
 |p :: q :: r=>(p.dflt,VT.dflt (q :: r))
def pK (t:Nat) (v:aj):List (Nat×aj)→List (Nat×aj)
 | []=>[(t,v)]
 |(u,x) :: r=>match t==u with
  |true=>(t,v) :: r
  |false=>(u,x) :: pK t v r
def setB (k:Key) (j:Nat) (c:E):List (Key×List E)→List (Key×List E)
 | []=>[]
 |(q,x) :: r=>match de k q with
  |true=>(q,iG x j c) :: r
  |false=>(q,x) :: setB k j c r
def Pl.get:(q:Pl)→aN→Option q.T
 | .slot t h=>fun p=>match bM t p.slots with
   | .one c=>h.di c
   |_=>none
 | .jw t r=>fun p=>match bM t p.slots with
   | .agg cs=>iI r cs
   |_=>none
 | .cell k j h=>fun p=>match bw k p.boxes with
   |some cs=>match cs[j]? with
    |some c=>h.di c
    |none=>none
   |none=>none
def Pl.put:(q:Pl)→q.T→aN→aN
 | .slot t h,x,p=>{ p with slots:=pK t (.one (h.inst x)) p.slots }
 | .jw t r,x,p=>{ p with slots:=pK t (.agg (dh r x)) p.slots }
 | .cell k j h,x,p=>{ p with boxes:=setB k j (h.inst x) p.boxes }
def rB:(l:List Pl)→aN→Option (VT l)
 | [],_=>some ()
 | [q],p=>q.get p
 |q :: q' :: r,p=>match q.get p,rB (q' :: r) p with
  |some x,some y=>some (x,y)
  |_,_=>none
def cm:(l:List Pl)→VT l→aN→aN
 | [],_,b=>b
 | [q],x,b=>q.put x b
 |q :: q' :: r,x,b=>q.put x.1 (cm (q' :: r) x.2 b)
def Pl.eM (t:Nat):Pl→Bool
 | .slot u _=>t==u
 | .jw u _=>t==u
 |_=>false
def Pl.gG (k:Key) (j:Nat):Pl→Bool
 | .cell q i _=>de k q&&j==i
 |_=>false
theorem rC (t u:Nat) (v:aj):∀(l:List (Nat×aj)),bM u (pK t v l)=match u==t with|true=>v|false=>bM u l
 | []=>by simp only[pK,bM]<;>cases u==t<;>rfl
 |(q,x) :: r=>by
  simp only[pK]
  cases h:t==q with
  |true=>
   have:t=q:=by simpa using h
   subst this
   simp only[bM]
   cases u==t<;>rfl
  |false=>
   simp only[bM,rC t u v r]
   cases h2:u==q with
   |true=>
    have e:u=q:=by simpa using h2
    subst e
    have:(u==t)=false:=by
     cases h3:u==t with
     |false=>rfl
     |true=>rw[beq_iff_eq]at h3;subst h3;rw[beq_self_eq_true]at h;cases h
    rw[this]
   |false=>rfl
theorem aiM (k q:Key) (j:Nat) (c:E):∀(l:List (Key×List E)),bw q (setB k j c l)=match de q k with|true=>(bw q l).map fun x=>iG x j c|false=>bw q l
 | []=>by simp only[setB,bw];cases de q k<;>rfl
 |(u,x) :: r=>by
  simp only[setB]
  cases h:de k u with
  |true=>
   have:=(fQ k u).1 h
   subst this
   simp only[bw]
   cases de q k<;>rfl
  |false=>
   simp only[bw,aiM k q j c r]
   cases h2:de q u with
   |true=>
    have e:=(fQ q u).1 h2
    subst e
    have:de q k=false:=by
     cases h3:de q k with
     |false=>rfl
     |true=>rw[(fQ q k).1 h3,(fQ k k).2 rfl]at h;cases h
    rw[this]
   |false=>rfl
theorem Pl.aeC (q:Pl) (x:q.T) (b:aN) (t:Nat) (h:q.eM t=false):bM t (q.put x b).slots=bM t b.slots:=by
 cases q with
 |slot u sh=>simp only[Pl.eM]at h;simp only[Pl.put,rC,h]
 |jw u sh=>simp only[Pl.eM]at h;simp only[Pl.put,rC,h]
 |cell k j sh=>rfl
theorem Pl.arl {q:Pl} {x:q.T} {p:aN} (h:q.get p=some x) (b:aN) (t:Nat) (ht:q.eM t=true):ai (bM t (q.put x b).slots)=ai (bM t p.slots):=by
 cases q with
 |slot u sh=>
  simp only[Pl.eM]at ht
  have e:t=u:=by simpa using ht
  subst e
  simp only[Pl.get]at h
  split at h
  ·rename_i c hc
   simp only[Pl.put,rC,ht,hc,ai]
   rw[Sh.je h]
  ·cases h
 |jw u sh=>
  simp only[Pl.eM]at ht
  have e:t=u:=by simpa using ht
  subst e
  simp only[Pl.get]at h
  split at h
  ·rename_i c hc
   simp only[Pl.put,rC,ht,hc,ai]
   rw[gQ,ad5 h]
  ·cases h
 |cell k j sh=>cases ht
theorem aiN {p:aN}:∀(l:List Pl) (y:VT l) (b:aN),rB l p=some y→∀t,(l.any (Pl.eM t)=true∧ai (bM t (cm l y b).slots)=ai (bM t p.slots))∨(l.any (Pl.eM t)=false∧bM t (cm l y b).slots=bM t b.slots)
 | [],_,b,_,t=>.inr ⟨rfl,rfl⟩
 | [q],y,b,h,t=>by
   simp only[List.any_cons,List.any_nil,Bool.or_false]
   cases hq:q.eM t with
   |true=>exact .inl ⟨rfl,Pl.arl h b t hq⟩
   |false=>exact .inr ⟨rfl,Pl.aeC q y b t hq⟩
 |q :: q' :: r,y,b,h,t=>by
  simp only[rB]at h
  split at h
  ·rename_i x ys h1 h2
   cases h
   rw[List.any_cons]
   cases hq:q.eM t with
   |true=>exact .inl ⟨rfl,Pl.arl h1 _ t hq⟩
   |false=>
    simp only[cm]
    rw[Pl.aeC q x _ t hq]
    exact aiN (q' :: r) ys b h2 t
  ·cases h
theorem wO:∀(l:List Pl) (y:VT l) (b:aN) (t:Nat),l.any (Pl.eM t)=false→bM t (cm l y b).slots=bM t b.slots
 | [],_,b,t,_=>rfl
 | [q],y,b,t,h=>Pl.aeC q y b t (by simpa using h)
 |q :: q' :: r,y,b,t,h=>by
  rw[List.any_cons,Bool.or_eq_false_iff]at h
  simp only[cm]
  rw[Pl.aeC q _ _ t h.1]
  exact wO (q' :: r) y.2 b t h.2
def jW (l:List Pl) (k:Key) (R:Nat→E→Prop) (o o':Option (List E)):Prop:=
 match o,o' with
 |none,none=>True
 |some bs,some cs=>bs.length=cs.length∧∀j c,cs[j]? =some c→(l.any (Pl.gG k j)=true∧R j c)∨(l.any (Pl.gG k j)=false∧bs[j]? =some c)
 |_,_=>False
theorem jW.step {l:List Pl} {k:Key} {R:Nat→E→Prop} {q:Pl} {x:q.T} {b b1:aN} (h:jW l k R (bw k b.boxes) (bw k b1.boxes)) (hq:∀j sh (e:q= .cell k j sh),R j (sh.inst (by subst e;exact x))):jW (q :: l) k R (bw k b.boxes) (bw k (q.put x b1).boxes):=by
 have other:(∀j,q.gG k j=false)→bw k (q.put x b1).boxes=bw k b1.boxes→jW (q :: l) k R (bw k b.boxes) (bw k (q.put x b1).boxes):=by
  intro h1 h2
  rw[h2]
  revert h
  cases bw k b.boxes with
  |none=>cases bw k b1.boxes<;>exact fun h=>h
  |some bs=>
   cases bw k b1.boxes with
   |none=>exact fun h=>h
   |some cs=>
    intro h
    refine⟨h.1,fun j c hc=>?_⟩
    rw[List.any_cons,h1 j]
    exact h.2 j c hc
 cases q with
 |slot u sh=>exact other (fun _=>rfl) rfl
 |jw u sh=>exact other (fun _=>rfl) rfl
 |cell k' i sh=>
  cases hk:de k k' with
  |false=>exact other (fun j=>by simp[Pl.gG,hk]) (by simp only[Pl.put,aiM,hk])
  |true=>
   have e:=(fQ k k').1 hk
   subst e
   simp only[Pl.put,aiM,hk]
   revert h
   cases bw k b.boxes with
   |none=>cases bw k b1.boxes<;>exact fun h=>h
   |some bs=>
    cases bw k b1.boxes with
    |none=>exact fun h=>h
    |some cs=>
     intro h
     simp only[Option.map_some]
     refine⟨by rw[oa];simpa using h.1,fun j c hc=>?_⟩
     rw[oa]at hc
     rw[List.any_cons]
     by_cases hj:j=i
     ·subst hj
      left
      have hlt:j<cs.length:=by
       have:=(List.getElem?_eq_some_iff.1 hc).1
       simpa using this
      rw[List.getElem?_set_self hlt]at hc
      cases hc
      exact⟨by simp[Pl.gG,hk],hq j sh rfl⟩
     ·rw[List.getElem?_set_ne (Ne.symm hj)]at hc
      have:Pl.gG k j (.cell k i sh)=false:=by simp[Pl.gG,hj]
      rw[this]
      exact h.2 j c hc
def aiO (p:aN) (k:Key) (j:Nat) (c:E):Prop:=∃cs c0,bw k p.boxes=some cs∧cs[j]? =some c0∧cE c=cE c0
theorem Pl.arn {k:Key} {j:Nat} {sh:Sh} {p:aN} {x:sh.T} (h:(Pl.cell k j sh).get p=some x):aiO p k j (sh.inst x):=by
 simp only[Pl.get]at h
 split at h
 ·rename_i cs hcs
  split at h
  ·rename_i c hc
   exact⟨cs,c,hcs,hc,Sh.je h⟩
  ·cases h
 ·cases h
theorem aeD {p:aN} (k:Key):∀(l:List Pl) (y:VT l) (b:aN),rB l p=some y→jW l k (aiO p k) (bw k b.boxes) (bw k (cm l y b).boxes)
 | [],_,b,_=>by
   simp only[cm,jW]
   cases bw k b.boxes with
   |none=>trivial
   |some bs=>exact⟨rfl,fun j c hc=>.inr ⟨rfl,hc⟩⟩
 | [q],y,b,h=>by
   have h0:jW [] k (aiO p k) (bw k b.boxes) (bw k b.boxes):=aeD k [] () b rfl
   exact jW.step h0 fun j sh e=>by subst e;exact Pl.arn h
 |q :: q' :: r,y,b,h=>by
  simp only[rB]at h
  split at h
  ·rename_i x ys h1 h2
   cases h
   exact jW.step (aeD k (q' :: r) ys b h2) fun j sh e=>by subst e;exact Pl.arn h1
  ·cases h
theorem wP (k:Key):∀(l:List Pl) (y:VT l) (b:aN),jW l k (fun _ _=>True) (bw k b.boxes) (bw k (cm l y b).boxes)
 | [],_,b=>by
   simp only[cm,jW]
   cases bw k b.boxes with
   |none=>trivial
   |some bs=>exact⟨rfl,fun j c hc=>.inr ⟨rfl,hc⟩⟩
 | [q],y,b=>by
   have h0:jW [] k (fun _ _=>True) (bw k b.boxes) (bw k b.boxes):=wP k [] () b
   exact jW.step h0 fun j sh e=>trivial
 |q :: q' :: r,y,b=>jW.step (wP k (q' :: r) y.2 b) fun j sh e=>trivial
theorem Pl.aro (q:Pl) (x:q.T) (b:aN):(q.put x b).aB=b.aB∧(q.put x b).bC=b.bC:=by cases q<;>exact⟨rfl,rfl⟩
theorem tT:∀(l:List Pl) (y:VT l) (b:aN),(cm l y b).aB=b.aB∧(cm l y b).bC=b.bC
 | [],_,b=>⟨rfl,rfl⟩
 | [q],y,b=>Pl.aro q y b
 |q :: q' :: r,y,b=>by
  simp only[cm]
  obtain⟨h1,h2⟩:=Pl.aro q y.1 (cm (q' :: r) y.2 b)
  obtain⟨h3,h4⟩:=tT (q' :: r) y.2 b
  exact⟨h1.trans h3,h2.trans h4⟩
end Go.Ve
