/- The statement ExportSpansUptoCardSaid of the given program is proved here: for every input whose bulk is at most the bound of its row, the law returns true and changes nothing. Part 1 of 7. -/
import Derived.Orders
import Derived.Scope
import Derived.Laws.World
import Derived.Laws.Sem
import GoSem.Dispatch
import Derived.Lib.Strings
import Derived.MapKept
import Derived.WideKeyRuns
set_option linter.unusedVariables false
set_option linter.unusedSimpArgs false
set_option linter.unusedSectionVars false
set_option linter.constructorNameAsVariable false
set_option linter.defProp false
open Array renaming getElem?_toList->qV,range->N3,size_append->ahK,toList_modify->ayE,setIfInBounds->acW,toList->T
open BitVec renaming ofInt->mY
open Bool renaming and_eq_true->ck,false->I,false_eq_true->bL,not_false->sB,toNat->ahC,true->W
open ByteArray renaming ext->ahz,mk->lP,size->Cm
open Eq renaming trans->ab0
open False renaming elim->ab1
open ForInStep renaming yield->HB
open Go renaming Addr->ey,BinOp->kc,FuncId->dT,IntKind->mX,MapEntry->dW,Oper->cS,Operand->cF,Program->ew,TypeDesc->o6,TypeId->bq,Value->aJ,run_underlying->lh
open Go.Act renaming eval->adx
open Go.Addr renaming block->ac6
open Go.Builtin renaming append_->uu,firstCells->qW,growBy->ayH,lenOf->Hy,len_->Ws,nextslicecap->zK,zeroCells->zL
open Go.Conv renaming bytesToString->ayJ,stringToBytes->ayI
open Go.Field renaming offset->adV
open Go.Instr renaming checkKey->m6,entryStore->ayF,fieldAt->ahy,fill->Wu,findAsking->ayB,findKey->N1,indexAt->NY,keyThatStays->Wq,loadAt->Cl,lookup->wV,mapUpdate->N2,sameBits->Hw,sameNow->N0,sliceAt->ahB,sliceBound->ahA,sliceBounds->NZ,storeAt->ahx,sureAddr->wU
open Go.IntKind renaming i64->a7,signed->Hs,wrap->aby
open Go.MapKept renaming bytes_beq->ayC
open Go.Op renaming bytesLess->nN,equalIn->Ht
open Go.Program renaming cellsOf->ayG,underlying->acK
open Go.Question renaming appendCap->zM,cut->ahI,forced->ahJ
open Go.Result renaming andThen_ok->dF
open Go.Sem renaming run_bind->dC,run_pure->fF
open Go.Value renaming cells->ahD,int->nS,cells->adA
open Go.World renaming alloc->ac2,cell?->ve,drawn->adS,output->adH,setCell->acV,tape->adZ
open Iff renaming rfl->uq
open Int renaming toNat->G
open List renaming all_cons->nR,all_eq_true->gy,append_nil->Cn,ext_getElem?->uj,flatMap_cons->mZ,flatten_cons->Wt,getD_eq_getElem?_getD->jP,getElem?_append->ayD,getElem?_append_left->pS,getElem?_cons_succ->qU,getElem?_cons_zero->iA,getElem?_eq_getElem->eM,getElem?_eq_some_iff->iO,getElem?_map->iQ,getElem?_of_mem->nO,getElem?_set->zH,getElem?_toArray->HA,length_append->lg,length_cons->kO,length_take->ayA,map_cons->eU,mem_append->nP,mem_cons->jQ,mem_cons_of_mem->i7,mem_cons_self->lf,mem_flatMap->Hp,mem_iff_getElem?->Wp,mem_map->mh,mem_of_getElem?->fK,mem_or_eq_of_mem_set->ahE,mem_singleton->m7,nodup_cons->wW,pairwise_append->Hv,pairwise_singleton->ahF,replicate->ep,replicate_succ->ahG,contains->ab4,flatten->adC,getD->H,length->Y,toArray->abf
open List.cons renaming injEq->zJ
open Nat renaming ble->gN
open Option renaming none->O,some->J,getD->X
open Or renaming resolve_left->adQ
open Prod.mk renaming injEq->gO
open UInt8 renaming ofNat->kC
open _root_ renaming Array->bW,Bool->az,ByteArray->nT,False->jn,Int->L,List->M,Nat->U,Option->Q,True->dK,UInt8->ao,Unit->bV,absurd->cO,and_true->zI,decide_eq_true_eq->eY,if_false->ch,if_neg->aV,if_pos->aF,if_true->bI
namespace Go.Vs
inductive aC where
 |aB(i:Nat)|aw(t:Nat)|cm(t i:Nat)
 deriving DecidableEq,Repr,Inhabited
inductive aO where
 |tmp(t:Nat)|box(k:aC)|bN(i:Nat)
 deriving DecidableEq,Repr,Inhabited
inductive NK where
 |aW|func|iface|map|chan
 deriving DecidableEq,Repr,Inhabited
inductive D where
 |int(k:IntKind)(n:Int)
 |bool(b:Bool)
 |bh(s:List UInt8)
 |nil
 |sl(e:Nat)(xs:List (List D))
 |cX(k:NK)
 |rep(u:TypeId)(ps:List (UInt8×List UInt8))
 deriving Inhabited
inductive C where
 |d(x:D)
 |ak(e:Nat)(xs:List (List D))
 |bj(r:aO)(j hv cv e k:Nat)(xs:List (List D))
 |ea(r:aO)(j hv e i off:Nat)
 |da(xs:List D)
 |aW(k:aC)(off:Nat)
 |dj(f:FuncId)(caps:List (aC×Nat))
 |bK
 deriving Inhabited
inductive SV where
 |one(c:C)
 |agg(cs:List C)
 |bw(vs:List (Bool×List C))
 |undef
 deriving Inhabited
structure RV where
 hv:Nat:=0
 cv:Nat:=0
 v:SV:=.undef
 deriving Inhabited
abbrev St:=aO→RV
def St.set(s:St)(r:aO)(x:RV):St:=λa=>if a=r then x else s a
theorem lR(s:St)(r:aO)(x:RV):s.set r x r=x:=by simp[St.set]
theorem lS(s:St){r q:aO}(x:RV)(h:q≠r):s.set r x q=s q:=by simp[St.set,h]
def SV.cells:SV→M C|.one c=>[c]|.agg cs=>cs|.bw vs=>vs.flatMap (·.2)|.undef=>[]
def rh:M (az×M C)→U→C→M (az×M C)|[],_,_=>[]|(b,cs)::r,j,c=>if j<Y cs then(b,cs.set j c)::r else(b,cs)::rh r (j-Y cs) c
def SV.setCell(v:SV)(j:U)(c:C):SV:=
 match v with|.one _=>if j=0 then .one c else v|.agg cs=>.agg (cs.set j c)|.bw vs=>.bw (rh vs j c)|.undef=>.undef
def pY(a:U)(b:az)(c:U)(d:az):U:=4294967296+((a*2+b.toNat)*65536+(c*2+d.toNat))
def ca(e:U):az:=gN 4294967296 e
def nX:U:=1099511627776
def fQ(e:U):az:=gN 1099511627776 e
def kf(e:U):U:=e+549755813888
def lT(l:M U):M D:=l.map λ(n:U)=>.int .i64 (n:L)
def ij(e:U):az:=gN 549755813888 e&& !fQ e
def Cy(b:az)(e:U):U:=match b with|true=>kf e|false=>e
def oE(e:U):U:=match ij e with|true=>e-549755813888|false=>e
def uA(e:U):U:=(e-4294967296)/131072
def xh(e:U):az:=(e-4294967296)/65536%2==1
def HU(e:U):U:=(e-4294967296)%65536/2
def xi(e:U):az:=(e-4294967296)%2==1
inductive ax(α:Type)where
 |ret(a:α)
 |ai
 |aE(r:aO)(k:RV→ax α)
 |put(r:aO)(x:RV)(k:ax α)
namespace ax
def bind{α β:Type}:ax α→(α→ax β)→ax β|.ret a,f=>f a|.ai,_=>.ai|.aE r k,f=>.aE r λx=>(k x).bind f|.put r x k,f=>.put r x (k.bind f)
instance:Monad ax where
 pure:=ax.ret
 bind:=ax.bind
def aD{α:Type}:ax α→St→Q (α×St)|.ret a,s=>J (a,s)|.ai,_=>O|.aE r k,s=>(k (s r)).aD s|.put r x k,s=>k.aD (s.set r x)
def dk{α:Type}:ax α→St→M aO×M aO|.ret _,_=>([],[])|.ai,_=>([],[])|.aE r k,s=>let f:=(k (s r)).dk s;(r::f.1,f.2)|.put r x k,s=>let f:=k.dk (s.set r x);(f.1,r::f.2)
end ax
def eu(r:aO)(x:RV):ax bV:=.put r x (.ret ())
def bS(p:Prop)[Decidable p]:ax bV:=if p then .ret ()else .ai
def opt{α:Type}:Q α→ax α|some a=>.ret a|none=>.ai
inductive TK where
 |bool|int(k:IntKind)|bh|aW(e:TypeId)|slice(e:TypeId)|array(n:Nat)(e:TypeId)|struct(fs:List (Nat×TypeId))
 |func|iface|map(k e:TypeId)|other
 deriving DecidableEq,Repr,Inhabited
def TK.agg:TK→az|.struct _|.array _ _=>W|_=>I
structure TI where
 size:Nat
 bytes:Nat
 kind:TK
 zero:Option (List D)
 deriving Inhabited
def tk:o6→TK|.bool=>.bool|.int k=>.int k|.string=>.bh|.pointer e=>.aW e|.slice e=>.slice e|.array n e=>.array n e|.struct fs=>.struct ((T fs).map λf=>(adV f,f.type))|.func .. =>.func|.interface _=>.iface|.map k e=>.map k e|_=>.other
def uB:aJ→Q D|.int k n=>J (.int k n)|.bool b=>J (.bool b)|.string s=>J (.bh (T s.data))|.slice O 0 0=>J .nil|.pointer O=>J (.cX .aW)|.nilFunc=>J (.cX .func)|.nilIface=>J (.cX .iface)|.map O=>J (.cX .map)|.chan O=>J (.cX .chan)|_=>O
def lU:M aJ→Q (M D)|[]=>J []|v::r=>match uB v,lU r with|some d,J ds=>J (d::ds)|_,_=>O
def HW:aJ→az|.agg _=>W|_=>I
def HX(agg:az)(v:aJ):Q (M D):=if HW v=agg then lU (T v.cells) else O
def kR(P:ew)(t:bq):Q TI:=
 match P.info? t,acK P t with|some i,J d=>J {size:=i.size,bytes:=i.bytes,kind:=tk d,zero:=i.zero.bind (HX (tk d).agg)}|_,_=>O
structure ri where
 v:SV
 aI:List (List C)
 cH:List (Nat×Nat):=[]
 deriving Inhabited
abbrev rj:=M SV→M (M C)→Q ri
inductive Sc where
 |int(k:IntKind)|bool|bh
 deriving DecidableEq,Inhabited
def cB:M Sc→M D→az|[],[]=>W|.int k::sh,.int k' _::ds=>decide (k'=k)&&cB sh ds|.bool::sh,.bool _::ds=>cB sh ds|.bh::sh,.bh _::ds=>cB sh ds|_,_=>I
structure bM where
 N:Nat
 T:List (TypeId×TI)
 Γ:Nat→FuncId→Option rj
 var:List Nat
 res:List Nat
 eqs:List (TypeId×List Sc):=[]
 dat:List Nat:=[]
 nb:Bool:=false
 rk:Bool:=false
 un:List Nat:=[]
 sF:List (Nat×List Int):=[]
def bM.keep(af:bM)(u:U):az:=ab4 af.var u&& !ab4 af.dat u
def lk{α:Type}(t:U):M (U×α)→Q α|[]=>O|(u,a)::r=>if t=u then J a else lk t r
def bM.ti(c:bM)(t:bq):Q TI:=lk t c.T
def nY(r:aO)(x:RV)(j:U):C→C|.ak e xs=>.bj r j x.hv x.cv e 0 xs|c=>c
def ja(r:aO)(x:RV):U→M C→M C|_,[]=>[]|j,c::cs=>nY r x j c::ja r x (j+1) cs
def uC(r:aO)(x:RV):U→M (az×M C)→M (az×M C)|_,[]=>[]|j,(b,cs)::vs=>(b,ja r x j cs)::uC r x (j+Y cs) vs
def RV.gD(x:RV)(r:aO):SV:=
 match x.v with|.one c=>.one (nY r x 0 c)|.agg cs=>.agg (ja r x 0 cs)|.bw vs=>.bw (uC r x 0 vs)|.undef=>.undef
def ev:cF→ax SV
 |.tmp t=>.aE (.tmp t) λx=>match x.v with|.undef=>.ai|_=>.ret (x.gD (.tmp t))
 |.const v=>match v with
  |.agg cs=>match lU (T cs) with|some ds=>.ret (.agg (ds.map .d))|none=>.ai
  |v=>match uB v with|some d=>.ret (.one (.d d))|none=>.ai
 |.func f=>.ret (.one (.dj f []))|.global _=>.ai
def rl:M cF→ax (M SV)|[]=>.ret []|o::os=>do let v ←ev o;let vs ←rl os;.ret (v::vs)
def zV:SV→ax C|.one c=>.ret c|_=>.ai
def ed(o:cF):ax C:=do zV (←ev o)
def pa:C→ax L|.d (.int _ n)=>.ret n|_=>.ai
def zX:C→ax az|.d (.bool b)=>.ret b|_=>.ai
def RV.at(x:RV)(j:U):C:=H x.v.cells j .bK
def pb(r:aO)(j:U)(x:RV):ax bV:=
 match x.at j with
 |.ak e ys=>eu r {x with v:=x.v.setCell j (.d (.sl e ys))}
 |.d (.sl _ _)=>.ret ()|_=>.ai
def pZ(r:aO)(j:U)(x:RV):ax bV:=
 match x.at j with
 |.ak _ _=>eu r {x with v:=x.v.setCell j .bK}
 |_=>.ai
def aO.isArg:aO→az|.bN _=>W|_=>I
def nZ(self:Q (aO×U))(take:aO→az):C→ax C
 |.bj r j hv cv e k xs=>
  if r.isArg then .ret (.bj r j hv cv e k xs)else
  .aE r λx=>do
   bS (x.hv=hv∧x.cv=cv)
   match x.at j with|.ak _ _=>if self=J (r,j)∨take r=W then do pZ r j x;.ret (.ak e xs);else do pb r j x;.ret (.d (.sl e xs))|.d (.sl _ _)=>.ret (.d (.sl e xs))|_=>.ai
 |.bK=>.ai|c=>.ret c
def pc(mk:U→aO×U)(take:aO→az):U→M C→ax (M C)|_,[]=>.ret []|i,c::cs=>do let b ←nZ (J (mk i)) take c;let a ←pc mk take (i+1) cs;.ret (b::a)
def xj(mk:U→aO×U)(take:aO→az):U→M (az×M C)→ax (M (az×M C))|_,[]=>.ret []|i,(b,cs)::vs=>do let a ←pc mk take i cs;let c ←xj mk take (i+Y cs) vs;.ret ((b,a)::c)
def nc(r:aO)(take:aO→az):SV→ax SV|.one c=>do .ret (.one (←nZ (J (r,0)) take c))|.agg cs=>do .ret (.agg (←pc (λi=>(r,i)) take 0 cs))|.bw vs=>do .ret (.bw (←xj (λi=>(r,i)) take 0 vs))|.undef=>.ai
def mq:C→ax D
 |.d x=>.ret x|.bj r j hv cv e _ xs=>.aE r λx=>do
   bS (x.hv=hv∧x.cv=cv)
   pb r j x
   .ret (.sl e xs)
 |_=>.ai
def pd:M C→ax (M D)|[]=>.ret []|c::cs=>do let x ←mq c;let xs ←pd cs;.ret (x::xs)
def SV.fM:SV→Q (M C)|.one c=>J [c]|.agg cs=>J cs|_=>O
def alive(x:RV)(j:U):az:=
 match x.at j with|.ak _ _|.d (.sl _ _)=>W|_=>I
def mr(size:U):C→ax (M (M D))|.d .nil=>.ret []|.d (.sl e xs)=>do bS (e=size∧ca e=I);.ret xs|.bj r j hv cv e _ xs=>.aE r λx=>do bS (x.hv=hv∧x.cv=cv∧alive x j=W∧e=size∧ca e=I);.ret xs|_=>.ai
def gR(k:mX)(n:L):SV:=.one (.d (.int k n))
def jR(b:az):SV:=.one (.d (.bool b))
def uD(op:kc)(k:mX)(a b:L):ax SV:=
 match op with|.add=>.ret (gR k (aby k (a+b)))|.sub=>.ret (gR k (aby k (a-b)))|.mul=>.ret (gR k (aby k (a*b)))|.quo=>do bS (b≠0);.ret (gR k (aby k (a.tdiv b)))|.rem=>do bS (b≠0);.ret (gR k (a.tmod b))|.and=>.ret (gR k (aby k ((mY k.bits a &&& mY k.bits b).toNat)))|.or=>.ret (gR k (aby k ((mY k.bits a ||| mY k.bits b).toNat)))|.xor=>.ret (gR k (aby k ((mY k.bits a ^^^ mY k.bits b).toNat)))|.andNot=>.ret (gR k (aby k ((mY k.bits a &&& ~~~(mY k.bits b)).toNat)))|.eql=>.ret (jR (a==b))|.neq=>.ret (jR (a !=b))|.lss=>.ret (jR (a<b))|.leq=>.ret (jR (a≤b))|.gtr=>.ret (jR (a>b))|.geq=>.ret (jR (a≥b))|_=>.ai
def Cz(op:kc)(a b:M ao):ax SV:=
 match op with|.add=>do bS (Y a+Y b≤2 ^ 60);.ret (.one (.d (.bh (a++b))))|.eql=>.ret (jR (decide (a=b)))|.neq=>.ret (jR (!decide (a=b)))|.lss=>.ret (jR (nN a b))|.leq=>.ret (jR (nN a b||decide (a=b)))|.gtr=>.ret (jR (!(nN a b||decide (a=b))))|.geq=>.ret (jR (!nN a b))|_=>.ai
def xk:C→Q az|.d .nil=>J W|.d (.sl e _)=>if ca e=W then O else J I|.ak e _=>if ca e=W then O else J I|.bj _ _ _ _ e _ _=>if ca e=W then O else J I|_=>O
def HY(af:bM)(t:bq)(op:kc)(x:C):ax SV:=
 match af.ti t,op,xk x with|some {kind:=.slice _, ..},.eql,J b=>.ret (jR b)|some {kind:=.slice _, ..},.neq,J b=>.ret (jR (!b))|_,_,_=>.ai
def sG(af:bM)(t:bq)(op:kc)(x y:C):ax SV:=
 match x,y with
 |.d (.int k a),.d (.int k' b)=>
  match op with|.shl=>do bS (0≤b);.ret (gR k (aby k (a*2 ^ (min (G b) k.bits))))|.shr=>do bS (0≤b);.ret (gR k (a.fdiv (2 ^ (min (G b) k.bits))))|op=>if k=k' then uD op k a b else .ai
 |.d (.bh a),.d (.bh b)=>Cz op a b|.d (.bool a),.d (.bool b)=>
  match af.ti t,op with|some {kind:=.bool, ..},.eql=>.ret (jR (a==b))|some {kind:=.bool, ..},.neq=>.ret (jR (!(a==b)))|_,_=>.ai
 |x,.d .nil=>HY af t op x|_,_=>.ai
def jS:D→D→az|.int _ a,.int _ b=>a==b|.bool a,.bool b=>a==b|.bh a,.bh b=>decide (a=b)|_,_=>I
def dG:M D→M D→az|[],[]=>W|x::xs,y::ys=>jS x y&&dG xs ys|_,_=>I
def kg:M C→Q (M D)
 |[]=>J []|.d x::cs=>match kg cs with|some ds=>J (x::ds)|none=>O
 |_::_=>O
def HZ(af:bM)(t:bq)(op:kc)(xs ys:M C):ax SV:=
 match lk t af.eqs,op,kg xs,kg ys with|some sh,.eql,J ds,J es=>if cB sh ds&&cB sh es then .ret (jR (dG ds es))else .ai|some sh,.neq,J ds,J es=>if cB sh ds&&cB sh es then .ret (jR (!dG ds es))else .ai|_,_,_,_=>.ai
def mv(i:TI)(cs:M C)(off:U):ax SV:=do
 bS (0<i.size∧off+i.size≤Y cs)
 if i.kind.agg then .ret (.agg ((cs.drop off).take i.size))
 else match cs[off]? with|some .bK=>.ai|some c=>.ret (.one c)|none=>.ai
def sH(i:TI):C→ax SV
 |.aW k off=>.aE (.box k) λx=>
  match x.v with|.agg cs=>mv i (ja (.box k) x 0 cs) off|_=>.ai
 |.ea r j hv _ n off=>.aE r λx=>do
  bS (x.hv=hv)
  match x.at j with
  |.ak _ ys|.d (.sl _ ys)=>match ys[n]? with|some ds=>mv i (ds.map .d) off|none=>.ai
  |_=>.ai
 |.da ds=>mv i (ds.map .d) 0|_=>.ai
def eG{α:Type}(l:M α)(off:U)(m:M α):M α:=l.take off++m++l.drop (off+Y m)
def CA(take:aO→az)(i:TI)(a:C)(v:SV):ax bV:=
 match a,v.fM with
 |.aW k off,J cs=>do
  bS (Y cs=i.size)
  let b ←pc (λn=>(.box k,off+n)) take 0 cs
  .aE (.box k) λx=>
   match x.v with
   |.agg old=>do
    bS (off+i.size≤Y old)
    eu (.box k) {hv:=x.hv+1,cv:=x.cv,v:=.agg (eG old off b)}
   |_=>.ai
 |.ea r j hv _ n off,J cs=>do
  bS (Y cs=i.size)
  let ds ←pd cs
  .aE r λx=>do
   bS (x.hv=hv∧r.isArg=I)
   match x.at j with
   |.ak e ys=>match ys[n]? with
    |some bC=>do
     bS (off+i.size≤Y bC)
     eu r {x with cv:=x.cv+1,v:=x.v.setCell j (.ak e (ys.set n (eG bC off ds)))}
    |none=>.ai
   |_=>.ai
 |_,_=>.ai
def CD(af:bM)(t:bq)(c:C)(f:U):ax C:=
 match af.ti t with
 |some {kind:=.struct fs, ..}=>match fs[f]? with
  |some (o,a)=>match af.ti a with
   |some i=>do
    bS (i.size≠0)
    match c with|.aW k off=>.ret (.aW k (off+o))|.ea r j hv e n off=>.ret (.ea r j hv e n (off+o))|.da ds=>do bS (o≤Y ds);.ret (.da (ds.drop o))|_=>.ai
   |none=>.ai
  |none=>.ai
 |_=>.ai
def H0(af:bM)(t:bq)(g:U)(n:L):ax C:=
 match lk g af.sF,af.ti t with
 |some l,J {kind:=.array len a, ..}=>match af.ti a with|some i=>do bS (0≤n∧n<len);bS (len=Y l∧i.size=1);.ret (.da [.int .u64 (H l (G n) 0)])|none=>.ai
 |_,_=>.ai
def CF(af:bM)(t:bq)(c:C)(n:L):ax C:=
 match af.ti t with
 |some {kind:=.slice a, ..}=>match af.ti a with
  |some i=>match c with
   |.bj r j hv _ e k xs=>do bS (0≤n∧n<Y xs);bS (i.size=e∧ca e=I);.ret (.ea r j hv e (k+G n) 0)|.d (.sl e xs)=>do
    bS (0≤n∧n<Y xs);bS (i.size=e∧ca e=I)
    match xs[G n]? with|some ds=>.ret (.da ds)|none=>.ai
   |_=>.ai
  |none=>.ai
 |some {kind:=.array len a, ..}=>match af.ti a with
  |some i=>match c with|.aW k off=>do bS (0≤n∧n<len);.ret (.aW k (off+G n*i.size))|_=>.ai
  |none=>.ai
 |_=>.ai
def CG(af:bM)(t:bq)(v:SV)(n:L):ax SV:=
 match af.ti t,v with
 |some {kind:=.bh, ..},.one (.d (.bh s))=>do
  bS (0≤n)
  match s[G n]? with|some b=>.ret (gR .u8 b.toNat)|none=>.ai
 |some {kind:=.array len a, ..},.agg cs=>match af.ti a with|some i=>do bS (0≤n∧n<len);mv i cs (G n*i.size)|none=>.ai
 |_,_=>.ai
def rm(a:az)(v:SV):ax SV:=
 match a,v with|true,.one (.d (.bh s))=>.ret (gR .i64 (Y s))|false,.one (.d .nil)=>.ret (gR .i64 0)|false,.one (.d (.sl e xs))=>do bS (ca e=I);.ret (gR .i64 (Y xs))|false,.one (.bj _ _ _ _ e _ xs)=>do bS (ca e=I);.ret (gR .i64 (Y xs))|_,_=>.ai
def fill(cells:M C):M (U×M C)→M C|[]=>cells|(off,cs)::r=>fill (eG cells off cs) r
def xl(fs:M (U×bq))(af:bM):M (U×cF)→ax (M (U×M C))
 |[]=>.ret []|(i,o)::r=>do
  let v ←ev o
  match fs[i]?,v.fM with
  |some (off,t),J cs=>match af.ti t with|some ti=>do bS (Y cs=ti.size);let rest ←xl fs af r;.ret ((off,cs)::rest)|none=>.ai
  |_,_=>.ai
def H1(af:bM)(t:bq)(parts:M (U×cF)):ax SV:=
 match af.ti t with
 |some {kind:=.struct fs,size,zero:=J z, ..}=>do
  bS (z.length=size∧∀p∈fs,(af.ti p.2).isSome=W)
  let ps ←xl fs af parts
  bS (∀p∈ps,p.1+p.2.length≤size)
  .ret (.agg (fill (z.map .d) ps))
 |some {kind:=.array n a,size,zero:=J z, ..}=>match af.ti a with
  |some i=>do
   bS (z.length=size)
   let ps ←xl ((List.range n).map λj=>(j*i.size,a)) af parts
   bS (∀p∈ps,p.1+p.2.length≤size)
   .ret (.agg (fill (z.map .d) ps))
  |none=>.ai
 |_=>.ai
def rowsOf(size:U):M (U×cF)→M (M D)→ax (M (M D))
 |[],rows=>.ret rows|(i,o)::r,rows=>do
  let v ←ev o
  match v.fM with
  |some cs=>do
   bS (Y cs=size∧i<Y rows)
   let ds ←pd cs
   rowsOf size r (rows.set i ds)
  |none=>.ai
def H3(af:bM)(t:bq)(len:U)(parts:M (U×cF)):ax SV:=
 match af.ti t with
 |some {kind:=.slice a, ..}=>match af.ti a with
  |some i=>match i.zero with
   |some z=>do
    bS (Y z=i.size∧0<i.size∧len*i.size≤2 ^ 24∧ca i.size=I)
    let rows ←rowsOf i.size parts (ep len z)
    .ret (.one (.ak i.size rows))
   |none=>.ai
  |none=>.ai
 |_=>.ai
def H4(af:bM)(t:bq)(len cap:L):ax SV:=
 match af.ti t with
 |some {kind:=.slice a, ..}=>match af.ti a with
  |some i=>match i.zero with
   |some z=>do
    bS (Y z=i.size∧0<i.size∧i.bytes≤2 ^ 10∧ca i.size=I)
    bS (0≤len∧len≤cap∧cap≤2 ^ 36)
    .ret (.one (.ak i.size (ep (G len) z)))
   |none=>.ai
  |none=>.ai
 |_=>.ai
def xm(i:TI)(c:C)(ys:M (M D)):ax SV:=do
 bS (0<i.size∧0<i.bytes∧i.bytes≤2 ^ 10∧(i.zero.map (·.length))=J i.size∧ca i.size=I)
 match c with
 |.d .nil=>do
  bS (Y ys≤2 ^ 36)
  if ys=[]then .ret (.one (.d .nil))else .ret (.one (.ak i.size ys))
 |.bj r j hv cv e k xs=>.aE r λx=>do
  bS (x.hv=hv∧x.cv=cv∧e=i.size∧r.isArg=I)
  match x.at j with
  |.ak _ a=>do
   bS (k+Y xs=Y a)
   bS (Y xs+Y ys≤2 ^ 36)
   pZ r j x
   .ret (.one (.ak e (xs++ys)))
  |_=>.ai
 |_=>.ai
def Oe(c:C):ax SV:=
 match c with|.d .nil=>.ret (.one (.d (.int .i64 0)))|_=>.ai
def zY(i:TI)(c:C)(n:L):ax SV:=
 match c,i.zero with
 |.d .nil,J z=>do
  bS (Y z=i.size∧0<i.size∧0<i.bytes∧i.bytes≤2 ^ 10∧ca i.size=I)
  bS (0≤n∧n≤2 ^ 36)
  if G n=0 then .ret (.one (.d .nil))else .ret (.one (.ak i.size (ep (G n) z)))
 |_,_=>.ai
def xn(af:bM)(i:TI)(t:bq)(c:C):ax (M (M D)):=
 match af.ti t,c with|some {kind:=.bh, ..},.d (.bh s)=>do bS (i.size=1);.ret (s.map λb=>[.int .u8 b.toNat])|some {kind:=.slice _, ..},c=>mr i.size c|_,_=>.ai
def H6(v:SV)(lo hi:Q L):ax SV:=
 match v with
 |.one (.d (.bh s))=>do
  let h:=X hi (Y s)
  let l:=X lo 0
  bS (0≤l∧l≤h∧h≤Y s)
  .ret (.one (.d (.bh ((s.take (G h)).drop (G l)))))
 |_=>.ai
def ro(size:U)(v:SV)(lo hi:Q L):ax SV:=
 match v with
 |.one (.d .nil)=>do
  bS (X lo 0=0∧X hi 0=0)
  .ret (.one (.d .nil))
 |.one (.d (.sl e xs))=>do
  let h:=X hi (Y xs)
  let l:=X lo 0
  bS (0≤l∧l≤h∧h≤Y xs)
  bS (e=size∧ca e=I)
  .ret (.one (.d (.sl e ((xs.take (G h)).drop (G l)))))
 |.one (.bj r j hv cv e k xs)=>do
  let h:=X hi (Y xs)
  let l:=X lo 0
  bS (0≤l∧l≤h∧h≤Y xs)
  bS (e=size∧ca e=I)
  .ret (.one (.bj r j hv cv e (k+G l) ((xs.take (G h)).drop (G l))))
 |_=>.ai
def uE(af:bM)(src dst:bq)(v:SV):ax SV:=
 match af.ti src,af.ti dst,v with
 |some _,J {kind:=.int k, ..},.one (.d (.int _ n))=>.ret (gR k (aby k n))|some _,J {kind:=.bh, ..},.one (.d (.bh s))=>.ret (.one (.d (.bh s)))|some _,J {kind:=.slice a, ..},.one (.d (.bh s))=>match af.ti a with|some {kind:=.int .u8,size:=1, ..}=>.ret (.one (.ak 1 (s.map λb=>[.int .u8 b.toNat])))|_=>.ai
 |some {kind:=.slice a, ..},J {kind:=.bh, ..},.one c=>match af.ti a with
  |some {kind:=.int .u8,size:=1, ..}=>do
   let xs ←mr 1 c
   match xs.mapM (λx=>match x with|[.int .u8 n]=>J (kC (G n))|_=>O)with|some l=>.ret (.one (.d (.bh l)))|none=>.ai
  |_=>.ai
 |_,_,_=>.ai
def dn(ki ei:TI):U:=pY ki.size ki.kind.agg ei.size ei.kind.agg
def jD(af:bM)(t:bq):Q (bq×TI×TI):=
 match af.ti t with
 |some {kind:=.map kt a, ..}=>match af.ti kt,af.ti a with|some ki,J ei=>if ki.size<32768∧ei.size<32768 then J (kt,ki,ei)else O|_,_=>O
 |_=>O
def rp(af:bM)(kt:bq):Q (M Sc):=
 match af.ti kt with|some {kind:=.int k, ..}=>J [.int k]|some {kind:=.bh, ..}=>J [.bh]|some {kind:=.bool, ..}=>J [.bool]|some {kind:=.struct _, ..}=>lk kt af.eqs|_=>O
def eA(n:U)(ks:M D):M (M D)→Q U|[]=>O|x::xs=>if dG ks (x.take n)=W then J 0 else(eA n ks xs).map (·+1)
def ng(e:U):C→ax (M (M D))
 |.d (.cX .map)=>.ret []|.d (.sl a xs)=>do bS (a=e∨a=kf e);.ret xs|.bj r j hv _ a _ _=>.aE r λx=>do
  bS (x.hv=hv∧(a=e∨a=kf e))
  match x.at j with|.ak _ ys=>.ret ys|.d (.sl _ ys)=>.ret ys|_=>.ai
 |_=>.ai
def lm(sh:M Sc)(n:U)(xs:M (M D)):az:=xs.all λx=>cB sh (x.take n)
def SV.isAgg:SV→az|.agg _=>W|_=>I
def SV.key(v:SV):Q (M D):=match v.fM with|some cs=>kg cs|none=>O
def p5(agg:az)(ds:M D):ax SV:=
 match agg with
 |true=>.ret (.agg (ds.map .d))|false=>match ds with|[d]=>.ret (.one (.d d))|_=>.ai
def iR(n:U)(xs:M (M D))(z:M D):Q U→M D|some i=>(H xs i []).drop n|none=>z
def jt(af:bM)(t:bq)(c:C)(a:SV)(ok:az):ax SV:=
 match jD af t with
 |some (kt,ki,ei)=>match rp af kt,a.key,ei.zero with
  |some sh,J kd,J z=>do
   bS (cB sh kd=W∧Y kd=ki.size∧a.isAgg=ki.kind.agg∧Y z=ei.size∧(ei.kind.agg=W∨ei.size=1))
   let xs ←ng (dn ki ei) c
   bS (lm sh ki.size xs=W)
   match ok with|true=>.ret (.bw [(ei.kind.agg,(iR ki.size xs z (eA ki.size kd xs)).map .d),(I,[.d (.bool (eA ki.size kd xs).isSome)])])|false=>p5 ei.kind.agg (iR ki.size xs z (eA ki.size kd xs))
  |_,_,_=>.ai
 |none=>.ai
def CH(n:U)(kd vd:M D)(xs:M (M D)):M (M D):=
 match eA n kd xs with|some i=>xs.set i (kd++vd)|none=>xs++[kd++vd]
def Og:M ao→M ao→az|[],_::_=>W|a::l,b::m=>Nat.blt a.toNat b.toNat||(Nat.beq a.toNat b.toNat&&Og l m)|_,[]=>I
def zZ:D→D→az|.int _ a,.int _ b=>decide (a<b)|.bool a,.bool b=> !a&&b|.bh a,.bh b=>Og a b|_,_=>I
def pe:M D→M D→az|a::l,b::m=>zZ a b||(jS a b&&pe l m)|_,_=>I
def z7(n:U)(kd bC:M D):M (M D)→M (M D)|[]=>[bC]|x::xs=>if pe kd (x.take n)=W then bC::x::xs else x::z7 n kd bC xs
def H7(n:U)(kd vd:M D)(xs:M (M D)):M (M D):=
 match eA n kd xs with|some i=>xs.set i (kd++vd)|none=>z7 n kd (kd++vd) xs
def putRow(un:az)(n:U)(kd vd:M D)(xs:M (M D)):M (M D):=
 match un with|true=>H7 n kd vd xs|false=>CH n kd vd xs
def xo(af:bM)(t:bq)(c:C)(a b:SV):ax bV:=
 match jD af t with
 |some (kt,ki,ei)=>match rp af kt,a.key,b.fM with
  |some sh,J kd,J d=>do
   bS (cB sh kd=W∧Y kd=ki.size∧a.isAgg=ki.kind.agg∧Y d=ei.size∧b.isAgg=ei.kind.agg)
   let vd ←pd d
   match c with
   |.bj r j hv _ e _ _=>.aE r λx=>do
    bS (x.hv=hv∧r.isArg=I∧(e=dn ki ei∨e=kf (dn ki ei)))
    match x.at j with
    |.ak f xs=>do
     bS (lm sh ki.size xs=W)
     eu r {x with cv:=x.cv+1,v:=x.v.setCell j (.ak f (putRow (ij f) ki.size kd vd xs))}
    |_=>.ai
   |_=>.ai
  |_,_,_=>.ai
 |none=>.ai
def xp(af:bM)(t:bq)(c:C)(a:SV):ax SV:=
 match jD af t with
 |some (kt,ki,ei)=>match rp af kt,a.key,ei.zero with
  |some sh,J kd,J z=>do
   bS (cB sh kd=W∧Y kd=ki.size∧a.isAgg=ki.kind.agg∧Y z=ei.size∧(ei.kind.agg=W∨ei.size=1))
   match c with
   |.bj r j hv _ e _ _=>.aE r λx=>do
    bS (x.hv=hv∧r.isArg=I∧e=dn ki ei)
    match x.at j with
    |.ak b xs=>do
     bS (lm sh ki.size xs=W)
     eu r {x with cv:=x.cv+1,v:=x.v.setCell j (.ak b (if(eA ki.size kd xs).isSome=W then xs else xs++[kd++z]))}
     .ret (.bw [(ei.kind.agg,(iR ki.size xs z (eA ki.size kd xs)).map .d),(I,[.d (.int .i64 (X (eA ki.size kd xs) (Y xs):U))])])
    |_=>.ai
   |_=>.ai
  |_,_,_=>.ai
 |none=>.ai
def CI(af:bM)(t:bq)(c st:C)(a:SV):ax bV:=
 match jD af t,st,a.fM with
 |some (_,ki,ei),.d (.int _ n),J b=>do
  bS (Y b=ei.size∧a.isAgg=ei.kind.agg)
  let vd ←pd b
  match c with
  |.bj r j hv _ e _ _=>.aE r λx=>do
   bS (x.hv=hv∧r.isArg=I∧e=dn ki ei)
   match x.at j with
   |.ak f xs=>do
    bS (0≤n∧n<Y xs)
    eu r {x with cv:=x.cv+1,v:=x.v.setCell j (.ak f (xs.set (G n) ((H xs (G n) []).take ki.size++vd)))}
   |_=>.ai
  |_=>.ai
 |_,_,_=>.ai
def CJ(af:bM)(t:bq)(dst:U):ax SV:=
 match jD af t with|some (_,ki,ei)=>.ret (.one (.ak (Cy (ab4 af.un dst) (dn ki ei)) []))|none=>.ai
def z8(af:bM)(t:bq)(c:C):ax SV:=
 match jD af t with
 |some (_,ki,ei)=>do
  let xs ←ng (dn ki ei) c
  .ret (gR .i64 (Y xs))
 |none=>.ai
def H8(af:bM)(t:bq)(c:C):ax SV:=
 match jD af t with
 |some (_,ki,ei)=>do
  let d ←mq c
  match d with|.sl e xs=>do bS (e=dn ki ei);.ret (.one (.ak nX [[.sl e xs],[]]))|_=>.ai
 |none=>.ai
def qa(em:U)(bC:M D):M (az×M C):=[(xh em,(bC.take (uA em)).map .d),(xi em,(bC.drop (uA em)).map .d)]
def WK(c:C):ax SV:=
 match c with
 |.bj r j hv _ e _ _=>.aE r λx=>do
  bS (x.hv=hv∧r.isArg=I∧fQ e=W)
  match x.at j with
  |.ak a [[.sl em []],[]]=>do bS (a=e);.ret (.bw [(I,[.d (.bool I)])])|.ak a [[.sl em [bC]],[]]=>do
   eu r {x with cv:=x.cv+1,v:=x.v.setCell j (.ak a [[.sl em [bC]],[.int .i64 0]])}
   .ret (.bw ((I,[.d (.bool W)])::qa em bC))
  |.ak a [[.sl em [bC]],[.int .i64 0]]=>do bS (a=e);.ret (.bw [(I,[.d (.bool I)])])|_=>.ai
 |_=>.ai
def H9(c:C):ax SV:=
 match c with
 |.bj r j hv _ e _ _=>.aE r λx=>do
  bS (x.hv=hv∧r.isArg=I∧fQ e=W)
  match x.at j with|.ak _ [[.sl em rows],.int .i64 n::_]=>do bS (0≤n∧G n<Y rows);.ret (.bw (qa em (H rows (G n) [])))|_=>.ai
 |_=>.ai
def iB:M C→M aC|[]=>[]|.aW k _::cs=>k::iB cs|.dj _ caps::cs=>caps.map (·.1)++iB cs|_::cs=>iB cs
def nh:M aC→M aC|[]=>[]|k::r=>k::(nh r).filter (·≠k)
def idx(k:aC):M aC→U|[]=>0|k'::r=>if k=k' then 0 else idx k r+1
def pf(af:bM):C→ax C|.bj (.tmp u) j hv cv e k xs=>if af.keep u then .ret (.bj (.tmp u) j hv cv e k xs)else do let x ←mq (.bj (.tmp u) j hv cv e k xs);.ret (.d x)|.bj (.box q) j hv cv e k xs=>if af.rk then(do let x ←mq (.bj (.box q) j hv cv e k xs);.ret (.d x))else .ret (.bj (.box q) j hv cv e k xs)|c=>.ret c
def xq(af:bM):M C→ax (M C)|[]=>.ret []|c::cs=>do let a ←pf af c;let r ←xq af cs;.ret (a::r)
def qb(af:bM):SV→ax SV|.one c=>do .ret (.one (←pf af c))|.agg cs=>do .ret (.agg (←xq af cs))|_=>.ai
def Aa(af:bM):M SV→ax (M SV)|[]=>.ret []|v::vs=>do let a ←qb af v;let r ←Aa af vs;.ret (a::r)
def canon(ks:M aC):C→ax C
 |.d x=>.ret (.d x)|.bj r j hv cv e _ xs=>.aE r λx=>do
  bS (x.hv=hv∧x.cv=cv)
  match x.at j with
  |.ak _ _=>do
   bS (∀k∈ks,r≠.box k)
   .ret (.ak e xs)
  |.d (.sl _ _)=>.ret (.d (.sl e xs))|_=>.ai
 |.aW k off=>.ret (.aW (.aB (idx k ks)) off)|.dj f caps=>.ret (.dj f (caps.map λp=>(.aB (idx p.1 ks),p.2)))|_=>.ai
def sJ(ks:M aC):M C→ax (M C)|[]=>.ret []|c::cs=>do let a ←canon ks c;let r ←sJ ks cs;.ret (a::r)
def n5(ks:M aC):SV→ax SV|.one c=>do .ret (.one (←canon ks c))|.agg cs=>do .ret (.agg (←sJ ks cs))|_=>.ai
def uF(ks:M aC):M SV→ax (M SV)|[]=>.ret []|v::vs=>do let a ←n5 ks v;let r ←uF ks vs;.ret (a::r)
def plain:C→az|.d _|.ak _ _=>W|_=>I
def tok(ks:M aC):C→az|.d _|.ak _ _|.bK=>W|.aW k _=>ab4 ks k|_=>I
def tc(ks:M aC):C→C|.aW k off=>.aW (.aB (idx k ks)) off|c=>c
def jE(n:U):C→az|.d _|.ak _ _|.bK=>W|.aW (.aB i) _=>decide (i<n)|_=>I
def bc(ks:M aC):C→C|.aW (.aB i) off=>.aW (H ks i default) off|c=>c
def xt(a:M aC):M aC→ax (M (M C))
 |[]=>.ret []|k::ks=>.aE (.box k) λx=>match x.v with|.agg cs=>do bS (cs.all (tok a)=W);let r ←xt a ks;.ret (cs.map (tc a)::r)|_=>.ai
def Ab:M aC→ax (M aC)
 |[]=>.ret []|k::ks=>.aE (.box k) λx=>match x.v with|.agg cs=>do let r ←Ab ks;.ret (iB cs++r)|_=>.ai
def uG:SV→M C→az|.agg [.aW k off],[.aW k' a]=>decide (k=k')&&Nat.beq off a|_,_=>I
def rq(a:M aC):M aC→M (M C)→ax bV
 |[],[]=>.ret ()|k::ks,b::c=>.aE (.box k) λx=>do
  bS (b.all (jE (Y a))=W)
  match uG x.v (b.map (bc a))with|true=>rq a ks c|false=>do eu (.box k) {hv:=x.hv+1,cv:=x.cv,v:=.agg (b.map (bc a))};rq a ks c
 |_,_=>.ai
def escape(t:U):U→M (M C)→ax bV
 |_,[]=>.ret ()|i,b::a=>.aE (.box (.cm t i)) λx=>match x.v with|.undef=>do bS (b.all plain=W);eu (.box (.cm t i)) {hv:=x.hv+1,cv:=x.cv,v:=.agg b};escape t (i+1) a|_=>.ai
def Ac(args:M SV)(l:M (U×U)):az:=
 l.all λp=>match(H (H args p.1 .undef).cells) p.2 .bK with|.d _=>W|_=>I
def pg(v:SV)(j:U):SV:=
 match H v.cells j .bK with|.ak e ys=>v.setCell j (.d (.sl e ys))|_=>v
def ln:M (U×U)→M SV→M SV|[],args=>args|(i,j)::r,args=>ln r (args.set i (pg (H args i .undef) j))
def Oh(ks:M aC)(t:U):aC→aC|.aB i=>if i<Y ks then H ks i default else .cm t (i-Y ks)|k=>k
def back(ks:M aC)(t:U):C→ax C|.d x=>.ret (.d x)|.ak e xs=>.ret (.ak e xs)|.aW (.aB i) off=>.ret (.aW (Oh ks t (.aB i)) off)|.dj f caps=>do bS (caps=[]);.ret (.dj f [])|_=>.ai
def rr(ks:M aC)(t:U):M C→ax (M C)|[]=>.ret []|c::cs=>do let a ←back ks t c;let r ←rr ks t cs;.ret (a::r)
def sK(ks:M aC)(t:U):M (az×M C)→ax (M (az×M C))|[]=>.ret []|(b,cs)::vs=>do let a ←rr ks t cs;let r ←sK ks t vs;.ret ((b,a)::r)
def lp(ks:M aC)(t:U):SV→ax SV|.one c=>do .ret (.one (←back ks t c))|.agg cs=>do .ret (.agg (←rr ks t cs))|.bw vs=>do .ret (.bw (←sK ks t vs))|.undef=>.ai
def Ia(af:bM)(f:dT)(b:M SV)(t:U):ax SV:=
 match af.Γ t f with
 |none=>.ai|some F=>do
  let args ←Aa af b
  let more ←Ab (nh (iB (args.flatMap SV.cells)))
  let ks:=nh (iB (args.flatMap SV.cells)++more)
  let a ←uF ks args
  let c ←xt ks ks
  match F a c with
  |none=>.ai|some r=>do
   bS (Y ks≤Y r.aI∧Ac a r.cH=W)
   rq ks ks (r.aI.take (Y ks))
   escape t 0 (r.aI.drop (Y ks))
   lp ks t r.v
def Ib(o:cF):ax (dT×M SV):=
 match o with
 |.func f=>.ret (f,[])|o=>do
  match ←ed o with|.dj f caps=>.ret (f,caps.map λp=>.one (.aW p.1 p.2))|_=>.ai
def sL(u:cF)(r:aO):az:=
 match u,r with|.tmp u,.tmp t=>t==u|_,_=>I
def isVar(af:bM)(o:cF):az:=
 match o with|.tmp u=>ab4 af.var u|_=>I
def WL(af:bM)(dst:U)(r:aO):az:=
 match r with|.tmp u=> !ab4 af.var u||ab4 af.res dst|.box (.aw _)=>ab4 af.res dst|_=>I
def CK(af:bM)(c:C)(r:aO):az:=
 match r with
 |.tmp u=> !ab4 af.var u||(match c with|.aW (.aw t) _=>ab4 af.res t|_=>I)
 |.box (.aw _)=>(match c with|.aW (.aw t) _=>ab4 af.res t|_=>I)
 |_=>I
def uH(self:aO×U)(u:cF):C→ax C|.bj r j hv cv e k xs=>if sL u r then nZ (J self) (sL u) (.bj r j hv cv e k xs)else .ret (.bj r j hv cv e k xs)|c=>.ret c
def uI(r:aO)(u:cF):U→M C→ax (M C)|_,[]=>.ret []|i,c::cs=>do let b ←uH (r,i) u c;let a ←uI r u (i+1) cs;.ret (b::a)
def xu(r:aO)(u:cF):U→M (az×M C)→ax (M (az×M C))|_,[]=>.ret []|i,(b,cs)::vs=>do let a ←uI r u i cs;let c ←xu r u (i+Y cs) vs;.ret ((b,a)::c)
def lV(r:aO)(u:cF):SV→ax SV|.one c=>do .ret (.one (←uH (r,0) u c))|.agg cs=>do .ret (.agg (←uI r u 0 cs))|.bw vs=>do .ret (.bw (←xu r u 0 vs))|.undef=>.ai
def uJ:Q cF→ax (Q L)|none=>.ret O|some o=>do .ret (J (←pa (←ed o)))
def CL(c:az):M SV→ax SV|[.one (.d (.int k a)),.one (.d (.int _ b))]=>.ret (gR k (if c then(if b<a then b else a)else(if b>a then b else a)))|_=>.ai
def cn(af:bM)(op:Op)(dst:U):ax SV:=
 match op with
 |.move x=>do
  let v ←ev x
  if isVar af x then .ret v else lV (.tmp dst) x v
 |.assign x=>do
  let v ←ev x
  nc (.tmp dst) (WL af dst) v
 |.pick c a b=>do
  let b' ←zX (←ed c)
  if b'=W then ev a else ev b
 |.alloc t=>match af.ti t with
  |some {size,zero:=J z, ..}=>do
   bS (Y z=size)
   .aE (.box (.aw dst)) λx=>match x.v with|.undef=>do eu (.box (.aw dst)) {hv:=x.hv+1,cv:=x.cv,v:=.agg (z.map .d)};.ret (.one (.aW (.aw dst) 0))|_=>.ai
  |_=>.ai
 |.box _ x=>do
  let v ←ev x
  match v.fM with
  |some cs=>do
   let cs' ←pc (λn=>(.box (.aw dst),n)) (CK af (.aW (.aw dst) 0)) 0 cs
   .aE (.box (.aw dst)) λx=>match x.v with|.undef=>do eu (.box (.aw dst)) {hv:=x.hv+1,cv:=x.cv,v:=.agg cs'};.ret (.one (.aW (.aw dst) 0))|_=>.ai
  |none=>.ai
 |.build t ps=>H1 af t (T ps)|.buildSlice t len ps=>H3 af t len (T ps)|.load t a=>match af.ti t with|some i=>do sH i (←ed a)|none=>.ai
 |.nilCheck x=>do
  match ←ed x with|.aW k o=>.ret (.one (.aW k o))|.ea r j hv e i o=>.ret (.one (.ea r j hv e i o))|.da ds=>.ret (.one (.da ds))|_=>.ai
 |.binOp op t x y _=>do
  match ←ev x,←ev y with|.one a,.one b=>sG af t op a b|.agg xs,.agg ys=>HZ af t op xs ys|_,_=>.ai
 |.unOp op _ x=>do
  match op,←ed x with|.neg,.d (.int k n)=>.ret (gR k (aby k (0-n)))|.xor,.d (.int k n)=>uD .xor k (if k.signed then-1 else k.max) n|.not,.d (.bool b)=>.ret (jR (!b))|_,_=>.ai
 |.convert s t x=>do uE af s t (←ev x)|.makeFunc (.func f) first captured=>do
  bS (first=#[])
  let vs ←rl (T captured)
  match vs.mapM (λv=>match v with|.one (.aW k o)=>J (k,o)|_=>O)with|some l=>.ret (.one (.dj f l))|none=>.ai
 |.makeSlice t l c=>do
  let n ←pa (←ed l)
  let m ←pa (←ed c)
  H4 af t n m
 |.slice t x lo hi O=>match af.ti t with
  |some {kind:=.bh, ..}=>do
   let v ←ev x
   let l ←uJ lo
   let h ←uJ hi
   H6 v l h
  |some {kind:=.slice et, ..}=>match af.ti et with
   |some i=>do
    let v ←ev x
    let l ←uJ lo
    let h ←uJ hi
    ro i.size v l h
   |none=>.ai
  |_=>.ai
 |.fieldAddr t x f=>do .ret (.one (←CD af t (←ed x) f))|.field t x f=>do
  match af.ti t,←ev x with
  |some {kind:=.struct fs, ..},.agg cs=>match fs[f]? with
   |some (o,ft')=>match af.ti ft' with|some i=>mv i cs o|none=>.ai
   |none=>.ai
  |_,_=>.ai
 |.indexAddr t x ix=>match x with
  |.global g=>do
   let n ←pa (←ed ix)
   .ret (.one (←H0 af t g n))
  |x=>do
   let c ←ed x
   let n ←pa (←ed ix)
   .ret (.one (←CF af t c n))
 |.index t x ix=>do
  let v ←ev x
  let n ←pa (←ed ix)
  CG af t v n
 |.extract x n=>do
  match ←ev x with
  |.bw vs=>match vs[n]? with|some (W,cs)=>lV (.tmp dst) x (.agg cs)|some (I,[c])=>lV (.tmp dst) x (.one c)|_=>.ai
  |_=>.ai
 |.call {callee:=.builtin .len,args,argTypes}=>match T args,T argTypes with
  |[x],[t]=>match af.ti t with|some {kind:=.bh, ..}=>do rm W (←ev x)|some {kind:=.slice _, ..}=>do rm I (←ev x)|some {kind:=.map _ _, ..}=>do z8 af t (←ed x)|_=>.ai
  |_,_=>.ai
 |.makeMap t O=>CJ af t dst|.lookup t x ix ok=>do
  let c ←ed x
  let v ←ev ix
  jt af t c v ok
 |.range t x=>do H8 af t (←ed x)|.next x I=>do WK (←ed x)|.entry x=>do H9 (←ed x)|.mapEntry t m k=>do
  let c ←ed m
  let v ←ev k
  xp af t c v
 |.call {callee:=.builtin .append,args,argTypes}=>match T args,T argTypes with
  |[x,y],[t,t2]=>match af.ti t with
   |some {kind:=.slice et, ..}=>match af.ti et with
    |some i=>match af.ti t2 with
     |some {kind:=.int .i64, ..}=>do
      let c ←ed x
      let n ←pa (←ed y)
      zY i c n
     |_=>do
      let c ←ed x
      let c2 ←ed y
      let ys ←xn af i t2 c2
      xm i c ys
    |none=>.ai
   |_=>.ai
  |_,_=>.ai
 |.call {callee:=.builtin .cap,args,argTypes}=>match T args,T argTypes with
  |[x],[t]=>match af.ti t with|some {kind:=.slice _, ..}=>do Oe (←ed x)|_=>.ai
  |_,_=>.ai
 |.call {callee:=.builtin .min,args, ..}=>do CL W (←rl (T args))|.call {callee:=.builtin .max,args, ..}=>do CL I (←rl (T args))|.call {callee:=.value o,args, ..}=>do
  let (f,caps) ←Ib o
  let vs ←rl (T args)
  Ia af f (vs++caps) dst
 |_=>.ai
def kh(af:bM)(t:U)(v:SV):ax bV:=
 .aE (.tmp t) λx=>do
  bS (t<af.N)
  eu (.tmp t) {hv:=x.hv+1,cv:=x.cv,v}
def Oi(a:bW cS)(j:U):ax (Q az):=
 match(a[j]?).bind (·.dst)with
 |some t=>.aE (.tmp t) λx=>match x.v with|.one (.d (.bool b))=>.ret (J b)|.bw []=>.ret O|_=>.ai
 |none=>.ai
def mx(af:bM)(o:cS):ax bV:=
 match o.op,o.dst with
 |.store t a x,O=>match af.ti t with
  |some i=>do
   let c ←ed a
   let v ←ev x
   CA (CK af c) i c v
  |none=>.ai
 |.mapUpdate t m k x,O|.insert t m k x,O=>do
  let c ←ed m
  let b ←ev k
  let vx ←ev x
  xo af t c b vx
 |.entryStore t m st x,O=>do
  let c ←ed m
  let s ←ed st
  let vx ←ev x
  CI af t c s vx
 |op,J d=>do kh af d (←cn af op d)|_,O=>.ai
def ni(af:bM)(c:bW cS)(o:cS):ax bV:=
 match o.guard with
 |none=>mx af o|some (j,a)=>do
  let b ←Oi c j
  if b=J a then mx af o
  else match o.dst with|some d=>kh af d (.bw [])|none=>.ret ()
def ru(af:bM)(a:bW cS):M cS→St→Q St
 |[],s=>J s|o::r,s=>match(ni af a o).aD s with|some (_,s')=>ru af a r s'|none=>O
structure PS where
 cj:List (Nat×SV)
 aI:List (aC×List C)
 args:List SV
def n6{α:Type}(k:aC):M (aC×α)→Q α|[]=>O|(u,a)::r=>if k=u then J a else n6 k r
def PS.st(p:PS):St
 |.tmp t=>{v:=X (lk t p.cj) .undef}|.box k=>{v:=match n6 k p.aI with|some cs=>.agg cs|none=>.undef}
 |.bN i=>{v:=H p.args i .undef}
def kj(s:St)(bk:M aC):C→C|.bj r j hv cv e k xs=>if(s r).hv=hv∧(s r).cv=cv then .bj r j 0 0 e k xs else .bK|.ea _ _ _ _ _ _=>.bK|.aW k off=>if ab4 bk k then .aW k off else .bK|.dj f caps=>if caps.all (λp=>ab4 bk p.1)then .dj f caps else .bK|c=>c
def jF(s:St)(bk:M aC):M C→M C|[]=>[]|c::cs=>kj s bk c::jF s bk cs
def uK(s:St)(bk:M aC):M (az×M C)→M (az×M C)|[]=>[]|(b,cs)::r=>(b,jF s bk cs)::uK s bk r
def jb(s:St)(bk:M aC):SV→SV|.one c=>.one (kj s bk c)|.agg cs=>.agg (jF s bk cs)|.bw vs=>.bw (uK s bk vs)|.undef=>.undef
def CM(t:U)(v:SV)(r:M (U×SV)):M (U×SV):=
 match v with|.undef=>r|v=>(t,v)::r
def xv(k:aC)(v:SV)(r:M (aC×M C)):M (aC×M C):=
 match v with|.agg cs=>(k,cs)::r|_=>r
def Ad(s:St)(bk:M aC):M U→M (U×SV)|[]=>[]|t::ts=>CM t (jb s bk (s (.tmp t)).v) (Ad s bk ts)
def Ae(s:St)(bk:M aC):M aC→M (aC×M C)|[]=>[]|k::ks=>xv k (jb s bk (s (.box k)).v) (Ae s bk ks)
def uL(s:St)(bk:M aC):U→U→M SV|_,0=>[]|i,n+1=>jb s bk (s (.bN i)).v::uL s bk (i+1) n
def fin(s:St)(keys:M U)(hI:M aC)(a:U):PS:={cj:=Ad s hI keys,aI:=Ae s hI hI,args:=uL s hI 0 a}
def aQ{α β:Type}(R:α→β→Prop):M α→M β→Prop|[],[]=>dK|a::as,b::c=>R a b∧aQ R as c|_,_=>jn
def Oj:NK→Value→Prop|.aW,v=>v=.pointer O|.func,v=>v=.nilFunc|.iface,v=>v=.nilIface|.map,v=>v=.map O|.chan,v=>v=.chan O
def hJ:Value→az|.agg _|.tuple _=>I|_=>W
def eH:Value→Option Nat|.slice (J a) _ _=>J a.block|.map (J b)=>J b|.pointer (J a)=>J a.block|_=>O
def gS(e b:Nat):Value:=
 match fQ e with|true=>.pointer (J ⟨b,0,O⟩)|false=>.map (J b)
theorem lW(e b:Nat):eH (gS e b)=J b:=by unfold gS;split<;>rfl
theorem Ol(e b:Nat):hJ (gS e b)=W:=by unfold gS;split<;>rfl
theorem ph{e:Nat}(h:fQ e=I)(b:Nat):gS e b=.map (J b):=by simp only[gS,h]
def Om{e:Nat}(h:fQ e=W)(b:Nat):gS e b=.pointer (J ⟨b,0,O⟩):=by simp only[gS,h]
theorem CN{e b c:Nat}(h:gS e b=gS e c):b=c:=by grind [lW]
theorem WM{e b:Nat}{a:Option ey}{l c:Nat}(h:Value.slice a l c=gS e b):jn:=by grind [gS]
def ahX(x:M D)(rest:M (M D))(since:Nat)(seen:bW Nat)(a:Nat):Prop:=∃e ys,x=[.sl e ys]∧ca e=W∧fQ e=I∧ij e=I∧since=Y ys∧a=Y ys∧rest=[lT (T seen).reverse]
def iK(agg:az)(n:Nat)(v:Value):Prop:=
 match agg with|true=>∃cs:bW Value,v=.agg cs∧cs.size=n|false=>hJ v=W∧n=1
def pi(en:dW):M Value:=T en.key.cells++T en.val.cells
def qc(e:Nat)(en:dW):Prop:=iK (xh e) (uA e) en.key∧iK (xi e) (HU e) en.val
structure kl(e cq:Nat)(es:List MapEntry):Prop where
 ok:∀en∈es,qc e en
 born:∀(i:Nat)en,es[i]?=some en→en.born=i
 cq:cq=Y es
 nd:es.Pairwise λa b=>a.key≠b.key
def eZ(ps:M (ao×M ao))(c:ao):Option (M ao):=match ps.find? λp=>p.1==c with|some p=>J p.2|none=>O
def CO(w:World)(Z:Nat→Prop)(l:M ao)(v:Value):Prop:=∃(b o cap:Nat),v=.slice (J ⟨b,o,O⟩) (Y l) cap∧Z b∧∀(i:Nat)x,l[i]?=J x→ve w ⟨b,o+i,O⟩=J (.int .u8 x.toNat)
def rx(w:World)(Z:Nat→Prop)(ps:M (ao×M ao))(b:Nat):Prop:=
 (∀c:ao,∃v,ve w ⟨b,c.toNat,O⟩=J v∧match eZ ps c with|none=>v=.slice O 0 0|some l=>CO w Z l v)∧
 ∃(q o cap:Nat),ve w ⟨b,256,O⟩=J (.slice (J ⟨q,o,O⟩) (Y ps) cap)∧Z q∧
  ∀(i:Nat)(c:ao),(ps.reverse.map (·.1))[i]?=J c→ve w ⟨q,o+i,O⟩=J (.string ⟨#[c]⟩)
def my(w:World)(Z:Nat→Prop)(u:bq)(ps:M (ao×M ao))(v:Value):Prop:=
 match ps with|[]=>v=.nilIface|_=>∃b,v=.iface u (.pointer (J ⟨b,0,O⟩))∧Z b∧rx w Z ps b
mutual
def bA(w:World)(Z:Nat→Prop):D→Value→Prop
 |.int k n,v=>v=.int k n|.bool b,v=>v=.bool b|.bh s,v=>v=.string ⟨abf s⟩|.nil,v=>v=.slice O 0 0|.sl e xs,v=>match ca e with
  |false=>∃(c:ey)(cap:Nat),v=.slice (J c) (Y xs) cap∧(cap=0∨c.spot=O∧Z c.block)∧Y xs≤cap∧dy w Z e xs c.block c.off|true=>∃b,v=gS e b∧Z b∧match fQ e with|false=>∃(es:bW dW)(cq:Nat)(a:M dW),w.heap[b]?=J (.map es cq)∧kl (oE e) cq (T es)∧fR w Z xs a∧a.Perm (T es)∧(ij e=I→a=T es)|true=>uM w Z xs b
 |.cX k,v=>Oj k v|.rep u ps,v=>my w Z u ps v
def fB(w:World)(Z:Nat→Prop):M D→Nat→Nat→Prop|[],_,_=>dK|d::ds,b,o=>(∃v,ve w ⟨b,o,O⟩=J v∧bA w Z d v)∧fB w Z ds b (o+1)
def dy(w:World)(Z:Nat→Prop)(e:Nat):M (M D)→Nat→Nat→Prop|[],_,_=>dK|x::xs,b,o=>Y x=e∧fB w Z x b o∧dy w Z e xs b (o+e)
def km(w:World)(Z:Nat→Prop):M D→M Value→Prop|[],[]=>dK|d::ds,v::vs=>bA w Z d v∧km w Z ds vs|_,_=>jn
def uM(w:World)(Z:Nat→Prop):M (M D)→Nat→Prop|x::rest,b=>∃(m since:Nat)(seen:bW Nat)(a:Nat),w.heap[b]?=J (.mapIter (J m) since seen a)∧km w Z x [.map (J m)]∧ahX x rest since seen a|[],_=>jn
def fR(w:World)(Z:Nat→Prop):M (M D)→M dW→Prop|[],[]=>dK|x::xs,en::es=>km w Z x (pi en)∧fR w Z xs es|_,_=>jn
end
def ej(w:World)(Z:Nat→Prop)(e:Nat)(xs:M (M D))(b:Nat):Prop:=
 match fQ e with|true=>uM w Z xs b|false=>∃(es:bW dW)(cq:Nat)(a:M dW),w.heap[b]?=J (.map es cq)∧kl (oE e) cq (T es)∧fR w Z xs a∧a.Perm (T es)∧(ij e=I→a=T es)
theorem ej.mu{w:World}{Z:Nat→Prop}{e:Nat}{xs:M (M D)}{b:Nat}(a:fQ e=I):ej w Z e xs b↔ ∃(es:bW dW)(cq:Nat)(es':M dW),w.heap[b]?=J (.map es cq)∧kl (oE e) cq (T es)∧fR w Z xs es'∧es'.Perm (T es)∧(ij e=I→es'=T es):=by simp only[ej,a]
def WN{e:Nat}(h:ij e=I):oE e=e:=by unfold oE;rw[h]
def ej.mp{w:World}{Z:Nat→Prop}{e:Nat}{xs:M (M D)}{b:Nat}(a:fQ e=I)(c:ij e=I):ej w Z e xs b↔ ∃(es:bW dW)(cq:Nat),w.heap[b]?=J (.map es cq)∧kl e cq (T es)∧fR w Z xs (T es):=by rw[ej.mu a];rw[WN c];simp_all
theorem ej.it{w:World}{Z:Nat→Prop}{e:Nat}{xs:M (M D)}{b:Nat}(a:fQ e=W):ej w Z e xs b↔uM w Z xs b:=by simp only[ej,a]
def bA.ik{w:World}{Z:Nat→Prop}{e:Nat}{xs:M (M D)}{v:Value}(b:ca e=I):bA w Z (.sl e xs) v↔ ∃(a:ey)(cap:Nat),v=.slice (J a) (Y xs) cap∧(cap=0∨a.spot=O∧Z a.block)∧Y xs≤cap∧dy w Z e xs a.block a.off:=by simp only[bA,b]
theorem bA.n7{w:World}{Z:Nat→Prop}{e:Nat}{xs:M (M D)}{v:Value}(a:ca e=W):bA w Z (.sl e xs) v↔ ∃b,v=gS e b∧Z b∧ej w Z e xs b:=by simp only[bA,a,ej];cases fQ e<;>rfl
theorem cell_of_heap{w w':World}{b:Nat}(h:w'.heap[b]?=w.heap[b]?)(o:Nat)(sp:Option Nat):ve w' ⟨b,o,sp⟩=ve w ⟨b,o,sp⟩:=by simp only[World.cell?,h]
section mono
variable{w w':World}{Z Z':Nat→Prop}(hZ:∀b,Z b→w'.heap[b]?=w.heap[b]? ∧Z' b)
include hZ
theorem CO.mono{l:M ao}{v:Value}(h:CO w Z l v):CO w' Z' l v:=by let⟨b,o,cap,h1,h2,h3⟩:=h;exact⟨b,o,cap,h1,(hZ b h2).2,λi x a=>by rw[cell_of_heap (hZ b h2).1];exact h3 i x a⟩
theorem rx.mono{ps:M (ao×M ao)}{b:Nat}(a:Z b)(h:rx w Z ps b):rx w' Z' ps b:=by let⟨h1,q,o,cap,h2,h3,d⟩:=h;refine⟨λc=>?_,q,o,cap,by rw[cell_of_heap (hZ b a).1];exact h2,(hZ q h3).2,λi c e=>by rw[cell_of_heap (hZ q h3).1];exact d i c e⟩;let⟨v,f,g⟩:=h1 c;refine⟨v,by rw[cell_of_heap (hZ b a).1];exact f,?_⟩;split<;>simp_all only;exact CO.mono hZ g
theorem my.mono{u:bq}{ps:M (ao×M ao)}{v:Value}(h:my w Z u ps v):my w' Z' u ps v:=by
 cases ps with|nil=>exact h|cons p ps=>let⟨b,h1,h2,h3⟩:=h;exact⟨b,h1,(hZ b h2).2,rx.mono hZ h2 h3⟩
mutual
theorem bA.mono:∀(d:D)(v:Value),bA w Z d v→bA w' Z' d v
 |.int _ _,_,h=>h|.bool _,_,h=>h|.bh _,_,h=>h|.nil,_,h=>h|.cX _,_,h=>h|.rep _ _,_,h=>my.mono hZ h|.sl e xs,v,h=>by
  by_cases a:ca e=W;rw[bA.n7 a]at h ⊢;let⟨b,h1,h2,h3⟩:=h;refine⟨b,h1,(hZ _ h2).2,?_⟩;by_cases hi:fQ e=W;exact(ej.it hi).2 (uM.mono xs b (hZ _ h2).1 ((ej.it hi).1 h3));have hi:fQ e=I:=by simpa using hi
  let⟨es,cq,f,h3,c,g,j⟩:=(ej.mu hi).1 h3;exact(ej.mu hi).2 ⟨es,cq,f,by grind,c,fR.mono xs _ g,j⟩;have a:ca e=I:=by simpa using a
  rw[bA.ik a]at h ⊢;let⟨i,cap,h1,h2,h3,g⟩:=h;rcases h2 with h2|⟨h2,c⟩
  have:xs=[]:=List.length_eq_zero_iff.1 (by omega);subst this;exact⟨i,cap,h1,.inl h2,h3,trivial⟩;exact⟨i,cap,h1,.inr ⟨h2,(hZ _ c).2⟩,h3,dy.mono e xs _ _ (hZ _ c).1 g⟩
theorem fB.mono:∀(ds:M D)(b o:Nat),w'.heap[b]?=w.heap[b]? →fB w Z ds b o→fB w' Z' ds b o|[],_,_,_,_=>trivial|d::ds,b,o,a,h=>by let⟨⟨v,h1,h2⟩,h3⟩:=h;exact⟨⟨v,by rw[cell_of_heap a];exact h1,bA.mono d v h2⟩,fB.mono ds b (o+1) a h3⟩
theorem dy.mono(e:Nat):∀(xs:M (M D))(b o:Nat),w'.heap[b]?=w.heap[b]? →dy w Z e xs b o→dy w' Z' e xs b o|[],_,_,_,_=>trivial|x::xs,b,o,a,h=>⟨h.1,fB.mono x b o a h.2.1,dy.mono e xs b (o+e) a h.2.2⟩
theorem km.mono:∀(ds:M D)(vs:M Value),km w Z ds vs→km w' Z' ds vs|[],[],_=>trivial|d::ds,v::vs,h=>⟨bA.mono d v h.1,km.mono ds vs h.2⟩
theorem uM.mono:∀(xs:M (M D))(b:Nat),w'.heap[b]?=w.heap[b]? →uM w Z xs b→uM w' Z' xs b|[],_,_,h=>ab1 h|x::rest,b,c,h=>by let⟨m,since,seen,a,h1,h2,h3⟩:=h;exact⟨m,since,seen,a,by rw[c];exact h1,km.mono x _ h2,h3⟩
theorem fR.mono:∀(xs:M (M D))(es:M dW),fR w Z xs es→fR w' Z' xs es|[],[],_=>trivial|x::xs,en::es,h=>⟨km.mono x _ h.1,fR.mono xs es h.2⟩
end
theorem ej.mono(e:Nat)(xs:M (M D))(b:Nat)(a:w'.heap[b]?=w.heap[b]?)(h:ej w Z e xs b):ej w' Z' e xs b:=by by_cases hi:fQ e=W;grind [ej.it,uM.mono];grind [ej.mu,fR.mono]
end mono
section rows
variable{w:World}{Z:Nat→Prop}{b e:Nat}
theorem fB.aE:∀{ds:M D}{o j:Nat}{d:D},fB w Z ds b o→ds[j]?=J d→∃v,ve w ⟨b,o+j,O⟩=J v∧bA w Z d v|[],_,_,_,_,h=>by simp at h|x::ds,o,0,d,h,a=>by simp only[iA,Option.some.injEq]at a;subst a;exact h.1|x::ds,o,j+1,d,h,a=>by have:=fB.aE (j:=j) h.2 (by simpa using a);grind
def fB.drop:∀{ds:M D}{o:Nat}(j:Nat),fB w Z ds b o→fB w Z (ds.drop j) b (o+j)|ds,o,0,h=>by simpa using h|[],o,j+1,_=>by simp[fB]|x::ds,o,j+1,h=>by have:=fB.drop (ds:=ds) (o:=o+1) j h.2;grind
def fB.take:∀{ds:M D}{o:Nat}(j:Nat),fB w Z ds b o→fB w Z (ds.take j) b o|ds,o,0,h=>by simp[fB]|[],o,j+1,_=>by simp[fB]|x::ds,o,j+1,h=>⟨h.1,fB.take j h.2⟩
theorem dy.append:∀{xs ys:M (M D)}{o:Nat},dy w Z e xs b o→dy w Z e ys b (o+Y xs*e)→dy w Z e (xs++ys) b o|[],ys,o,_,h=>by simpa using h|x::xs,ys,o,h,k=>⟨h.1,h.2.1,dy.append h.2.2 (by grind)⟩
theorem dy.aE:∀{xs:M (M D)}{o i:Nat}{x:M D},dy w Z e xs b o→xs[i]?=J x→Y x=e∧fB w Z x b (o+i*e)|[],_,_,_,_,h=>by simp at h|y::xs,o,0,x,h,a=>by simp only[iA,Option.some.injEq]at a;subst a;exact⟨h.1,by simpa using h.2.1⟩|y::xs,o,i+1,x,h,a=>by have:=dy.aE (i:=i) h.2.2 (by simpa using a);grind
def dy.drop:∀{xs:M (M D)}{o:Nat}(k:Nat),dy w Z e xs b o→dy w Z e (xs.drop k) b (o+k*e)|xs,o,0,h=>by simpa using h|[],o,k+1,_=>by simp[dy]|x::xs,o,k+1,h=>by have:=dy.drop (xs:=xs) (o:=o+e) k h.2.2;grind
def dy.take:∀{xs:M (M D)}{o:Nat}(k:Nat),dy w Z e xs b o→dy w Z e (xs.take k) b o|xs,o,0,h=>by simp[dy]|[],o,k+1,_=>by simp[dy]|x::xs,o,k+1,h=>⟨h.1,h.2.1,dy.take k h.2.2⟩
theorem dy.dX:∀{xs:M (M D)}{o:Nat},(∀(i:Nat)x,xs[i]?=J x→Y x=e∧fB w Z x b (o+i*e))→dy w Z e xs b o|[],_,_=>trivial|x::xs,o,h=>⟨(h 0 x rfl).1,by simpa using(h 0 x rfl).2,dy.dX λi y hy=>by have:=h (i+1) y (by simpa using hy);grind⟩
theorem fB.dX:∀{ds:M D}{o:Nat},(∀(j:Nat)d,ds[j]?=J d→∃v,ve w ⟨b,o+j,O⟩=J v∧bA w Z d v)→fB w Z ds b o|[],_,_=>trivial|d::ds,o,h=>⟨h 0 d rfl,fB.dX λj y hy=>by have:=h (j+1) y (by simpa using hy);grind⟩
def dy.len{xs:M (M D)}{o:Nat}(h:dy w Z e xs b o):∀x∈xs,Y x=e:=by intro x a;let⟨i,hi⟩:=nO a;exact(h.aE hi).1
end rows
structure dh where
 P:Program
 N:Nat
 base:Nat
 w0:World
 E0:Nat→Prop
 Z0:Nat→Prop
 argv:Array Value
 kn:aC→Option Nat
def ahY(n:String):Option (M Value):=if n== "internal/strconv.uint64pow10" then J (([1,10,100,1000,10000,100000,1000000,10000000,100000000,1000000000,10000000000,100000000000,1000000000000,10000000000000,100000000000000,1000000000000000,10000000000000000,100000000000000000,1000000000000000000,10000000000000000000]:M L).map λn=>.int .u64 n)else O
def On:Nat→M Global→M (Nat×M Value)
 |_,[]=>[]|i,g::r=>match ahY g.name with|some l=>(i,l)::On (i+1) r|none=>On (i+1) r
def ry(P:ew):M (Nat×M Value):=On 0 (T P.globals)
def oa(w:World)(g:Nat)(l:M Value):Prop:=∀j:Nat,ve w ⟨g,j,O⟩=l[j]?
theorem oa.aE{w:World}{g:Nat}{l:M Value}(h:oa w g l){j:Nat}{v:Value}(a:l[j]?=J v):ve w ⟨g,j,O⟩=J v:=by rw[h j,a]
def Oo:Nat→M Global→M Nat|_,[]=>[]|i,g::r=>if g.name== "internal/bytealg.MaxLen" then i::Oo (i+1) r else Oo (i+1) r
def sM(P:ew):M Nat:=Oo 0 (T P.globals)
def uN(w:World)(g:Nat):Prop:=∃m,ve w ⟨g,0,O⟩=J (.int .i64 m)
def ahZ(K:dh):Prop:=(∀g l,(g,l)∈ry K.P→g<K.base∧K.Z0 g∧¬K.E0 g∧oa K.w0 g l)∧∀g,g∈sM K.P→g<K.base∧K.Z0 g∧¬K.E0 g∧uN K.w0 g
abbrev cT:=aO×Option Nat
def eB:Value→M Value|.agg cs=>T cs|.tuple vs=>(T vs).flatMap λv=>T v.cells|v=>[v]
def lX{v:Value}(h:hJ v=W):adA v=#[v]:=by cases v<;>simp_all [hJ,Value.cells]
def Af{v:Value}(h:hJ v=W):eB v=[v]:=by cases v<;>simp_all [hJ,eB]
def cK(K:dh)(β:aC→Option Nat)(a:Act)(w:World):aO→Nat→Option Value|.tmp t,j=>(eB (a.tmps.getD t undef))[j]?|.box k,j=>(β k).bind λb=>ve w ⟨b,j,O⟩|.bN i,j=>(eB (K.argv.getD i undef))[j]?
def aR(K:dh)(β:aC→Option Nat)(Z:Nat→Prop)(s:St)(a:Act)(w:World):C→Value→Prop
 |.d x,v=>bA w Z x v|.ak e xs,v=>match ca e with|false=>∃(c:ey)(cap:Nat),v=.slice (J c) (Y xs) cap∧c.spot=O∧Y xs≤cap∧dy w Z e xs c.block c.off|true=>∃b,v=gS e b∧ej w Z e xs b
 |.bj r j hv cv e k xs,v=>match ca e with
  |true=>∃b,v=gS e b∧hv≤(s r).hv∧cv≤(s r).cv∧
   ((s r).hv=hv→(s r).at j≠.bK→cK K β a w r j=J (gS e b)∧∃ys,((s r).at j=.ak e ys∨(s r).at j=.d (.sl e ys))∧((s r).cv=cv→xs=ys))
  |false=>∃(h:ey)(g:Nat),v=.slice (J h) (Y xs) g∧h.spot=O∧Y xs≤g∧hv≤(s r).hv∧cv≤(s r).cv∧
   ((s r).hv=hv→(s r).at j≠.bK→∃(c:ey)(len cap:Nat),cK K β a w r j=J (.slice (J c) len cap)∧c.spot=O∧ac6 h=ac6 c∧
     (h.off=c.off+k*e∨g=0)∧h.off≤c.off+cap*e∧g+k=cap∧k+Y xs≤len∧len≤cap∧
     ∃ys,((s r).at j=.ak e ys∨(s r).at j=.d (.sl e ys))∧((s r).cv=cv→xs=(ys.drop k).take (Y xs)))
 |.ea r j hv e i off,v=>∃(b o:Nat),v=.pointer (J ⟨b,o,O⟩)∧hv≤(s r).hv∧
   ((s r).hv=hv→(s r).at j≠.bK→∃(c:ey)(len cap:Nat),cK K β a w r j=J (.slice (J c) len cap)∧c.spot=O∧b=ac6 c∧o=c.off+i*e+off∧
     ∃ys,(s r).at j=.ak e ys∨(s r).at j=.d (.sl e ys))
 |.da xs,v=>∃(b o:Nat),v=.pointer (J ⟨b,o,O⟩)∧Z b∧fB w Z xs b o|.aW k off,v=>∃b,β k=J b∧v=.pointer (J ⟨b,off,O⟩)|.dj f caps,v=>∃vs:bW Value,v=.func (.func f) #[] vs∧aQ (λu p=>∃b,β p.1=J b∧u=.pointer (J ⟨b,p.2,O⟩)) (T vs) caps|.bK,_=>dK
section
variable{K:dh}{β:aC→Option Nat}{Z:Nat→Prop}{s:St}{a:Act}{w:World}{e:Nat}{v:Value}
theorem aR.ju{xs:M (M D)}(c:ca e=I):aR K β Z s a w (.ak e xs) v↔ ∃(b:ey)(cap:Nat),v=.slice (J b) (Y xs) cap∧b.spot=O∧Y xs≤cap∧dy w Z e xs b.block b.off:=by simp only[aR,c]
theorem aR.kG{xs:M (M D)}(c:ca e=W):aR K β Z s a w (.ak e xs) v↔ ∃b,v=gS e b∧ej w Z e xs b:=by simp only[aR,c]
theorem aR.pj{r:aO}{j hv cv k:Nat}{xs:M (M D)}(g:ca e=I):aR K β Z s a w (.bj r j hv cv e k xs) v↔
  ∃(c:ey)(b:Nat),v=.slice (J c) (Y xs) b∧c.spot=O∧Y xs≤b∧hv≤(s r).hv∧cv≤(s r).cv∧
   ((s r).hv=hv→(s r).at j≠.bK→∃(f:ey)(len cap:Nat),cK K β a w r j=J (.slice (J f) len cap)∧f.spot=O∧ac6 c=ac6 f∧
     (c.off=f.off+k*e∨b=0)∧c.off≤f.off+cap*e∧b+k=cap∧k+Y xs≤len∧len≤cap∧
     ∃ys,((s r).at j=.ak e ys∨(s r).at j=.d (.sl e ys))∧((s r).cv=cv→xs=(ys.drop k).take (Y xs))):=by
 simp only[aR,g]
theorem aR.rz{r:aO}{j hv cv k:Nat}{xs:M (M D)}(c:ca e=W):aR K β Z s a w (.bj r j hv cv e k xs) v↔
  ∃b,v=gS e b∧hv≤(s r).hv∧cv≤(s r).cv∧
   ((s r).hv=hv→(s r).at j≠.bK→cK K β a w r j=J (gS e b)∧∃ys,((s r).at j=.ak e ys∨(s r).at j=.d (.sl e ys))∧((s r).cv=cv→xs=ys)):=by
 simp only[aR,c]
end
theorem aQ.length{α β:Type}{R:α→β→Prop}:∀{as:M α}{a:M β},aQ R as a→Y as=Y a|[],[],_=>rfl|_::_,_::_,h=>by simp[aQ.length h.2]
theorem aQ.mono{α β:Type}{R c:α→β→Prop}(d:∀a b,R a b→c a b):∀{as:M α}{e:M β},aQ R as e→aQ c as e|[],[],_=>trivial|_::_,_::_,h=>⟨d _ _ h.1,aQ.mono d h.2⟩
def aQ.kS{α β:Type}{R d:α→β→Prop}:∀{as:M α}{c:M β},(∀a b,b∈c→R a b→d a b)→aQ R as c→aQ d as c|[],[],_,_=>trivial|_::_,_::_,e,h=>⟨e _ _ (lf ..) h.1,aQ.kS (λa b f=>e a b (i7 _ f)) h.2⟩
theorem aQ.aE{α β:Type}{R:α→β→Prop}:∀{as:M α}{d:M β}{j:Nat}{b:β},aQ R as d→d[j]?=J b→∃a,as[j]?=J a∧R a b|[],[],_,_,_,h=>by simp at h|a::as,b::d,0,c,h,e=>by simp only[iA,Option.some.injEq]at e;subst e;exact⟨a,rfl,h.1⟩|a::as,b::d,j+1,c,h,e=>by obtain⟨x,h1,h2⟩:=aQ.aE (j:=j) h.2 (by simpa using e);grind
theorem aQ.dX{α β:Type}{R:α→β→Prop}:∀{as:M α}{d:M β},Y as=Y d→(∀(j:Nat)a b,as[j]?=J a→d[j]?=J b→R a b)→aQ R as d|[],[],_,_=>trivial|a::as,b::d,c,h=>⟨h 0 a b rfl rfl,aQ.dX (by simpa using c) λj x y e hy=>h (j+1) x y (by simpa using e) (by simpa using hy)⟩|[],_::_,c,_=>by simp at c|_::_,[],c,_=>by simp at c
theorem aQ.append{α β:Type}{R:α→β→Prop}:∀{as a:M α}{b bs':M β},aQ R as b→aQ R a bs'→aQ R (as++a) (b++bs')|[],_,[],_,_,h=>h|_::_,_,_::_,_,h,k=>⟨h.1,aQ.append h.2 k⟩
def aQ.drop{α β:Type}{R:α→β→Prop}:∀{as:M α}{a:M β}(n:Nat),aQ R as a→aQ R (as.drop n) (a.drop n)|_,_,0,h=>h|[],[],_+1,_=>trivial|_::_,_::_,n+1,h=>aQ.drop n h.2
def aQ.take{α β:Type}{R:α→β→Prop}:∀{as:M α}{a:M β}(n:Nat),aQ R as a→aQ R (as.take n) (a.take n)|as,a,0,h=>by simp[aQ]|[],[],_+1,_=>trivial|_::_,_::_,n+1,h=>⟨h.1,aQ.take n h.2⟩
def eC(R:C→Value→Prop)(v:Value)(x:az×M C):Prop:=if x.1 then ∃ws:bW Value,v=.agg ws∧aQ (λu c=>R c u) (T ws) x.2 else ∃c,x.2=[c]∧hJ v=W∧R c v
def bO(R:C→Value→Prop)(v:Value):SV→Prop|.one c=>hJ v=W∧R c v|.agg cs=>∃ws:bW Value,v=.agg ws∧aQ (λu c=>R c u) (T ws) cs|.bw xs=>∃vs:bW Value,v=.tuple vs∧aQ (eC R) (T vs) xs|.undef=>dK
theorem eC.eB{R:C→Value→Prop}{v:Value}{x:az×M C}(h:eC R v x):aQ (λu c=>R c u) (T v.cells) x.2:=by unfold eC at h;split at h;obtain⟨ws,rfl,h⟩:=h;exact h;let⟨c,h1,h2,h3⟩:=h;rw[lX h2,h1];exact⟨h3,trivial⟩
def WO{R:C→Value→Prop}:∀{vs:M Value}{xs:M (az×M C)},aQ (eC R) vs xs→aQ (λu c=>R c u) (vs.flatMap λv=>T v.cells) (xs.flatMap (·.2))|[],[],_=>trivial|_::_,_::_,h=>by simp only[mZ];exact aQ.append (eC.eB h.1) (WO h.2)
theorem bO.eB{R:C→Value→Prop}{v:Value}{a:SV}(h:bO R v a)(b:a≠.undef):aQ (λu c=>R c u) (eB v) a.cells:=by
 cases a with
 |one c=>rw[Af h.1];exact⟨h.2,trivial⟩|agg cs=>obtain⟨ws,rfl,h⟩:=h;exact h
 |bw xs=>obtain⟨vs,rfl,h⟩:=h;exact WO h
 |undef=>exact cO rfl b
theorem bO.cell{R:C→Value→Prop}{v:Value}{a:SV}{j:Nat}{c:C}(h:bO R v a)(b:a.cells[j]?=J c):∃u,(Vs.eB v)[j]?=J u∧R c u:=by by_cases d:a=.undef;subst d;simp[SV.cells]at b;exact(h.eB d).aE b
theorem bO.mono{R g:C→Value→Prop}{v:Value}{sv:SV}(b:∀c u,c∈sv.cells→R c u→g c u)(h:bO R v sv):bO g v sv:=by
 cases sv with
 |one c=>exact⟨h.1,b _ _ (by simp[SV.cells]) h.2⟩|agg cs=>let⟨ws,h1,h2⟩:=h;exact⟨ws,h1,h2.kS λu c d a=>b c u d a⟩
 |bw xs=>let⟨vs,h1,h2⟩:=h;refine⟨vs,h1,h2.kS λv x i a=>?_⟩;unfold eC at a ⊢;split;rename_i e;simp only[e,bI]at a;let⟨ws,h3,f⟩:=a;exact⟨ws,h3,f.kS λu c d a=>b c u (Hp.2 ⟨x,i,d⟩) a⟩;rename_i e;simp only[e]at a;let⟨c,h3,f,j⟩:=a;exact⟨c,h3,f,b c _ (Hp.2 ⟨x,i,by simp[h3]⟩) j⟩
 |undef=>trivial
theorem aQ.set{α β:Type}{R:α→β→Prop}:∀{as:M α}{d:M β}{j:Nat}{b:β},aQ R as d→(∀a,as[j]?=J a→R a b)→aQ R as (d.set j b)|[],[],_,_,_,_=>trivial|a::as,c::d,0,b,h,e=>⟨e a rfl,h.2⟩|a::as,c::d,j+1,b,h,e=>⟨h.1,aQ.set h.2 λx f=>e x (by simpa using f)⟩
theorem eC.set{R:C→Value→Prop}{v:Value}{b:az}{cs:M C}{j:Nat}{c:C}(h:eC R v (b,cs))(e:j<Y cs)(a:∀u,(T v.cells)[j]?=J u→R c u):eC R v (b,cs.set j c):=by
 unfold eC at *;cases b with
 |true=>simp only[bI]at h ⊢;obtain⟨ws,rfl,h⟩:=h;exact⟨ws,rfl,h.set a⟩
 |false=>simp only[bL,ch]at h ⊢;let⟨d,h1,h2,h3⟩:=h;simp_all [lX]
def WP{R:C→Value→Prop}:∀{vs:M Value}{xs:M (az×M C)}{j:Nat}{c:C},aQ (eC R) vs xs→(∀u,(vs.flatMap λv=>T v.cells)[j]?=J u→R c u)→aQ (eC R) vs (rh xs j c)|[],[],_,_,_,_=>trivial|v::vs,(b,cs)::xs,j,c,h,a=>by simp only[rh];have f:Y (T v.cells)=Y cs:=(eC.eB h.1).length;split;rename_i d;exact⟨eC.set h.1 d λu e=>a u (by grind),h.2⟩;rename_i d;exact⟨h.1,WP h.2 λu e=>a u (by grind)⟩
theorem bO.setCell{R:C→Value→Prop}{v:Value}{a:SV}{j:Nat}{c:C}(h:bO R v a)(b:∀u,(Vs.eB v)[j]?=J u→R c u):bO R v (a.setCell j c):=by
 cases a with
 |one d=>simp only[SV.setCell];split;rename_i e;subst e;exact⟨h.1,b v (by rw[Af h.1];rfl)⟩;exact h
 |agg cs=>obtain⟨ws,rfl,h⟩:=h;exact⟨ws,rfl,h.set b⟩
 |bw xs=>obtain⟨vs,rfl,h⟩:=h;exact⟨vs,rfl,WP h b⟩
 |undef=>trivial
def WQ:∀(xs:M (az×M C))(j:Nat)(c:C),(rh xs j c).flatMap (·.2)=(xs.flatMap (·.2)).set j c|[],j,c=>by simp[rh]|(b,cs)::xs,j,c=>by simp only[rh];split;grind;rename_i h;simp only[mZ,WQ xs,List.set_append,aV h]
theorem rA(a:SV)(j:Nat)(c:C):(a.setCell j c).cells=a.cells.set j c:=by
 cases a with
 |one d=>
  simp only[SV.setCell];split;simp_all [SV.cells];rename_i h;cases j with|zero=>exact cO rfl h|succ j=>simp[SV.cells]
 |agg cs=>simp[SV.setCell,SV.cells]|bw xs=>simp[SV.setCell,SV.cells,WQ]|undef=>simp[SV.setCell,SV.cells]
theorem aQ.split{α β:Type}{R:α→β→Prop}:∀{as c:M α}{e bs':M β},Y as=Y e→aQ R (as++c) (e++bs')→aQ R as e∧aQ R c bs'
 |[],_,[],_,_,h=>⟨trivial,h⟩|a::as,_,b::e,_,d,h=>by let⟨h1,h2⟩:=h;let⟨h3,f⟩:=aQ.split (by simpa using d) h2;exact⟨⟨h1,h3⟩,f⟩
 |[],_,_::_,_,d,_=>by simp at d|_::_,_,[],_,d,_=>by simp at d
def lY(_:C)(_:aJ):Prop:=dK
def WR{R:C→aJ→Prop}:∀{vs:M aJ}{xs:M (az×M C)},aQ (eC lY) vs xs→aQ (λu c=>R c u) (vs.flatMap λv=>T v.cells) (xs.flatMap (·.2))→aQ (eC R) vs xs|[],[],_,_=>trivial|v::vs,x::xs,h,k=>by simp only[mZ]at k;let⟨k1,k2⟩:=aQ.split (eC.eB h.1).length k;refine⟨?_,WR h.2 k2⟩;have h1:=h.1;unfold eC at h1 ⊢;split;rename_i a;simp only[a,bI]at h1;obtain⟨ws,rfl,_⟩:=h1;exact⟨ws,rfl,k1⟩;rename_i a;simp only[a]at h1;let⟨c,h2,h3,_⟩:=h1;rw[lX h3,h2]at k1;exact⟨c,h2,h3,k1.1⟩
def bO.of_flat{R:C→aJ→Prop}{v:aJ}{sv:SV}(h:bO lY v sv)(k:sv≠.undef→aQ (λu c=>R c u) (Vs.eB v) sv.cells):bO R v sv:=by
 cases sv with
 |one c=>have:=k (by simp);rw[Af h.1]at this;exact⟨h.1,this.1⟩|agg cs=>obtain⟨ws,rfl,_⟩:=h;exact⟨ws,rfl,k (by simp)⟩
 |bw xs=>obtain⟨vs,rfl,h⟩:=h;exact⟨vs,rfl,WR h (k (by simp))⟩
 |undef=>trivial
def bO.shape{R:C→aJ→Prop}{v:aJ}{sv:SV}(h:bO R v sv):bO lY v sv:=bO.mono (λ_ _ _ _=>trivial) h
def bO.oc{R a:C→aJ→Prop}{v:aJ}{sv:SV}(f:∀(j:Nat)c u,sv.cells[j]?=J c→(Vs.eB v)[j]?=J u→R c u→a c u)(h:bO R v sv):bO a v sv:=by refine bO.of_flat h.shape λb=>?_;have d:=h.eB b;exact aQ.dX d.length λj u c b e=>by let⟨g,h1,h2⟩:=d.aE e;grind
def jc{x:RV}{j:Nat}{c:C}(h:x.at j=c)(a:c≠.bK):x.v.cells[j]?=J c:=by grind [RV.at]
theorem uO{x:RV}{j:Nat}{c:C}(h:x.v.cells[j]?=J c):x.at j=c:=by simp[RV.at,jP,h]
def sN(same:Prop)(c c':C):Prop:=c=c'∨(∃e ys,c=.ak e ys∧c'=.d (.sl e ys))∨(¬same∧∃e ys a,c=.ak e ys∧(c'=.ak e a∨c'=.d (.sl e a)))
def gT(x a:RV):Prop:=x.hv≤a.hv∧x.cv≤a.cv∧(a.hv=x.hv→∀j,a.at j≠.bK→sN (a.cv=x.cv) (x.at j) (a.at j))
theorem gT.refl(x:RV):gT x x:=⟨Nat.le_refl _,Nat.le_refl _,λ_ _ _=>.inl rfl⟩
theorem gT.bump{x x':RV}(h:x'.hv=x.hv+1)(a:x'.cv=x.cv):gT x x':=⟨by omega,by omega,λe=>by omega⟩
def aR.step{K K':dh}{β B:aC→Option Nat}{Z Z':Nat→Prop}{s s':St}{a a':Act}{w w':World}(F:∀k b,β k=J b→B k=J b) (hZ:∀b,Z b→w'.heap[b]?=w.heap[b]? ∧Z' b)(V:∀r,gT (s r) (s' r)) (hh:∀r j,(s' r).hv=(s r).hv→(s' r).at j≠.bK→cK K' B a' w' r j=cK K β a w r j){c:C}{v:aJ} (G:∀(e:Nat)(xs:M (M D))(b:Nat),c=.ak e xs→eH v=J b→w'.heap[b]?=w.heap[b]?) (h:aR K β Z s a w c v):aR K' B Z' s' a' w' c v:=by
 cases c with
 |d x=>exact bA.mono hZ x v h|ak e xs=>
  by_cases z:ca e=W;grind [aR.kG,ej.mono,lW];have z:ca e=I:=by simpa using z
  rw[aR.ju z]at h ⊢;let⟨E,cap,h1,h2,h3,H⟩:=h;exact⟨E,cap,h1,h2,h3,dy.mono hZ e xs _ _ (G e xs E.block rfl (by rw[h1];rfl)) H⟩
 |bj r j hv cv e k xs=>
  have y:∀t:(s' r).hv=hv,hv≤(s r).hv→(s' r).at j≠.bK→(s' r).hv=(s r).hv∧(s r).hv=hv∧sN ((s' r).cv=(s r).cv) ((s r).at j) ((s' r).at j)∧(s r).at j≠.bK:=by
   intro t hle l;let⟨Y,e2,N⟩:=V r;have g:(s' r).hv=(s r).hv:=(by omega);have m:=N g j l;refine⟨g,by omega,m,?_⟩;rcases m with h|⟨e,ys,h,_⟩|⟨_,e,ys,q,h,_⟩
   rw[h];exact l;rw[h];simp;rw[h];simp
  by_cases z:ca e=W;rw[aR.rz z]at h ⊢;let⟨b,h1,H,h5,h6⟩:=h;let⟨Y,e2,N⟩:=V r;refine⟨b,h1,by omega,by omega,λt l=>?_⟩;let⟨g,A,m,n⟩:=y t H l;let⟨X,ys,g9,g10⟩:=h6 A n;refine⟨by grind,?_⟩;rcases m with h|⟨P,q,h,R⟩|⟨hn,P,q,zs,h,R⟩
  grind;grind;grind;have z:ca e=I:=by simpa using z
  rw[aR.pj z]at h ⊢;let⟨X6,S,h1,h2,h3,H,h5,h6⟩:=h;let⟨Y,e2,N⟩:=V r;refine⟨X6,S,h1,h2,h3,by omega,by omega,λt l=>?_⟩;let⟨g,A,m,n⟩:=y t H l;let⟨E,len,cap,X,T,g3,g4,g4b,g5,g6,g7,g8⟩:=h6 (by omega) n;let⟨ys,g9,g10⟩:=g8;refine⟨E,len,cap,by grind,T,g3,g4,g4b,g5,g6,g7,?_⟩;rcases m with h|⟨P,q,h,R⟩|⟨hn,P,q,zs,h,R⟩
  grind;grind;grind
 |ea r j hv e i off=>
  let⟨b,o,h1,h2,h3⟩:=h;let⟨Y,e2,N⟩:=V r;refine⟨b,o,h1,by omega,λt l=>?_⟩;have g:(s' r).hv=(s r).hv:=by omega
  have m:=N g j l;have n:(s r).at j≠.bK:=by
   rcases m with h|⟨e,ys,h,_⟩|⟨_,e,ys,q,h,_⟩
   rw[h];exact l;rw[h];simp;rw[h];simp
  let⟨E,len,cap,X,T,g3,g4,ys,g5⟩:=h3 (by omega) n;refine⟨E,len,cap,by grind,T,g3,g4,?_⟩;rcases m with h|⟨P,q,h,R⟩|⟨_,P,q,zs,h,R⟩
  grind;grind;grind
 |da xs=>let⟨b,o,h1,h2,h3⟩:=h;exact⟨b,o,h1,(hZ b h2).2,fB.mono hZ xs b o (hZ b h2).1 h3⟩
 |aW k off=>let⟨b,h1,h2⟩:=h;exact⟨b,F k b h1,h2⟩
 |dj f caps=>let⟨vs,h1,h2⟩:=h;exact⟨vs,h1,h2.mono λu p⟨b,X,T⟩=>⟨b,F _ b X,T⟩⟩
 |bK=>trivial
def Wr(w:World)(b n:Nat):Prop:=∃(cs:bW aJ)(el:bq)(lo hi:Nat),w.heap[b]?=J (.cells cs el (lo,hi))∧n≤cs.size∧∀o,o<cs.size→¬(lo≤o∧o<hi)
theorem Wr.mono{w w':World}{b n m:Nat}(h:Wr w b n)(a:w'.heap[b]?=w.heap[b]?)(hm:m≤n):Wr w' b m:=by let⟨cs,el,lo,hi,h1,h2,h3⟩:=h;exact⟨cs,el,lo,hi,by rw[a];exact h1,by omega,h3⟩
def mA(w:World)(e:Nat):aJ→Prop|.slice (J a) _ cap=>Wr w a.block (a.off+cap*e)|.map (J b)=>∃(es:bW dW)(cq:Nat),w.heap[b]?=J (.map es cq)|.pointer (J _)=>dK|_=>jn
theorem mA.mono{w w':World}{e b:Nat}{u:aJ}(h:mA w e u)(a:eH u=J b)(c:w'.heap[b]?=w.heap[b]?):mA w' e u:=by unfold mA at *;split at h;rename_i d len cap;simp only[eH,Option.some.injEq]at a;subst a;exact h.mono c (Nat.le_refl _);simp_all [eH];trivial;exact h
def Live:aJ→Prop|.slice (J _) _ cap=>cap≠0|_=>dK
theorem WS(e b:Nat):Live (gS e b):=by unfold gS;split<;>trivial
def ah0{w:World}{Z:Nat→Prop}{e b:Nat}{xs:M (M D)}(a:Nat)(h:ej w Z e xs b):mA w a (gS e b):=by
 by_cases hi:fQ e=W;rw[Om hi];trivial;have hi:fQ e=I:=by simpa using hi
 rw[ph hi];let⟨es,cq,_,h1,_⟩:=(ej.mu hi).1 h;exact⟨es,cq,h1⟩
def bA.live{w:World}{Z:Nat→Prop}{e b:Nat}{ys:M (M D)}{u:aJ}(h:bA w Z (.sl e ys) u)(a:eH u=J b)(d:Live u):Z b:=by by_cases f:ca e=W;grind [bA.n7,lW];obtain⟨g,c,rfl,h3,_⟩:=(bA.ik (by simpa using f)).1 h;simp only[eH,Option.some.injEq]at a;exact a▸(adQ h3 d).2
def ek(K:dh)(β:aC→Option Nat)(ω:Nat→Option cT)(Z:Nat→Prop)(s:St)(a:Act)(w:World)(k:aC):SV→Prop
 |.agg cs=>∃(b:Nat)(ws:bW aJ)(el:bq)(lo hi:Nat),β k=J b∧ω b=J (.box k,O)∧w.heap[b]?=J (.cells ws el (lo,hi))∧
   (∀o,o<ws.size→¬(lo≤o∧o<hi))∧aQ (λu c=>aR K β Z s a w c u) (T ws) cs
 |.undef=>β k=O|_=>jn
structure aY(K:dh)(β:aC→Option Nat)(ω:Nat→Option cT)(Z:Nat→Prop)(s:St)(a:Act)(w:World):Prop where
 size:a.tmps.size=K.N
 defers:a.defers=[]∧ahZ K
 os:w.os=K.w0.os
 tape:adZ w=adZ K.w0
 output:adH w=adH K.w0
 base:K.base≤w.heap.size
 frame:∀b,b<K.base→¬K.E0 b→w.heap[b]?=K.w0.heap[b]?
 dp:∀b,Z b→b<w.heap.size
 lZ:∀b,K.Z0 b→Z b
 nj:∀b,Z b→K.Z0 b∨K.base≤b∨K.E0 b∨∃(i j e:Nat)(ys:List (List D))(u:Value),(s (.bN i)).v.cells[j]?=some (.d (.sl e ys))∧(eB (K.argv.getD i undef))[j]?=some u∧eH u=some b∧Live u
 tmps:∀t,bO (aR K β Z s a w) (a.tmps.getD t undef) (s (.tmp t)).v
 args:∀i,bO (aR K β Z s a w) (K.argv.getD i undef) (s (.bN i)).v
 aI:∀k,ek K β ω Z s a w k (s (.box k)).v
 ak:∀(r:aO)(j e:Nat)(xs:List (List D))(u:Value)(b:Nat),r.isArg=false→(s r).v.cells[j]?=some (.ak e xs)→cK K β a w r j=some u→eH u=some b→ω b=some (r,some j)∧mA w e u
 iS:∀(i j e:Nat)(xs:List (List D))(u:Value)(b:Nat),(s (.bN i)).v.cells[j]?=some (.ak e xs)→(eB (K.argv.getD i undef))[j]?=some u→eH u=some b→b<K.base∧¬K.E0 b
 dZ:∀b h,ω b=some h→¬Z b∧b<w.heap.size∧(b<K.base→K.E0 b)
 og:∀k b,K.kn k=some b→β k=some b
section
variable{K:dh}{β:aC→Option Nat}{ω:Nat→Option cT}{Z:Nat→Prop}{s:St}{a:Act}{w:World}
def aY.still(h:aY K β ω Z s a w){g:Nat}(h1:g<K.base)(h2:K.Z0 g)(h3:¬K.E0 g):g<w.heap.size∧Z g∧ω g=O∧w.heap[g]?=K.w0.heap[g]? :=by
 have b:=h.lZ g h2;refine⟨Nat.lt_of_lt_of_le h1 h.base,b,?_,h.frame g h1 h3⟩;cases c:ω g with|none=>rfl|some x=>exact cO b (h.dZ g x c).1
def aY.laid(h:aY K β ω Z s a w)(g:Nat)(l:M aJ)(b:(g,l)∈ry K.P):g<w.heap.size∧Z g∧ω g=O∧oa w g l:=by let⟨h1,h2,h3,c⟩:=h.defers.2.1 g l b;let⟨d,e,f,i⟩:=h.still h1 h2 h3;exact⟨d,e,f,λj=>by rw[cell_of_heap i];exact c j⟩
def aY.opens(h:aY K β ω Z s a w)(g:Nat)(b:g∈sM K.P):g<w.heap.size∧Z g∧ω g=O∧uN w g:=by let⟨h1,h2,h3,m,c⟩:=h.defers.2.2 g b;let⟨d,e,f,i⟩:=h.still h1 h2 h3;exact⟨d,e,f,m,by rw[cell_of_heap i];exact c⟩
theorem ek.cell(h:aY K β ω Z s a w){k:aC}{cs:M C}(hv:(s (.box k)).v=.agg cs):∃(b:Nat)(ws:bW aJ)(el:bq)(lo hi:Nat),β k=J b∧ω b=J (.box k,O)∧w.heap[b]?=J (.cells ws el (lo,hi))∧(∀o,o<ws.size→¬(lo≤o∧o<hi))∧aQ (λu c=>aR K β Z s a w c u) (T ws) cs:=by have:=h.aI k;rw[hv]at this;exact this
theorem nk{k:aC}{b j:Nat}{ws:bW aJ}{el:bq}{lo hi:Nat}(c:β k=J b)(d:w.heap[b]?=J (.cells ws el (lo,hi))):cK K β a w (.box k) j=(T ws)[j]? :=by simp[cK,c,World.cell?,d]
theorem aY.cell(h:aY K β ω Z s a w){r:aO}{j:Nat}{c:C}(d:(s r).v.cells[j]?=J c):∃u,cK K β a w r j=J u∧aR K β Z s a w c u:=by
 cases r with
 |tmp t=>exact(h.tmps t).cell d|bN i=>exact(h.args i).cell d|box k=>
  have e:=h.aI k;cases hv:(s (.box k)).v with
  |agg cs=>let⟨b,ws,el,lo,hi,h1,h2,h3,g,f⟩:=ek.cell h hv;rw[hv]at d;let⟨u,l,m⟩:=f.aE d;grind [nk]
  |one c=>rw[hv]at e;exact ab1 e|bw x=>rw[hv]at e;exact ab1 e|undef=>simp_all [SV.cells]
def aY.ownRow(h:aY K β ω Z s a w){r:aO}{j:Nat}{e:Nat}{ys:M (M D)}(f:ca e=I)(c:(s r).at j=.ak e ys):∃b cap,cK K β a w r j=J (.slice (J b) (Y ys) cap)∧b.spot=O∧Y ys≤cap∧dy w Z e ys b.block b.off:=by let⟨u,h1,d⟩:=h.cell (jc c (by simp));simp_all [aR.ju]
def aY.Ic(h:aY K β ω Z s a w){r:aO}{j:Nat}{e:Nat}{ys:M (M D)}(f:ca e=W)(c:(s r).at j=.ak e ys):∃b,cK K β a w r j=J (gS e b)∧ej w Z e ys b:=by let⟨u,h1,d⟩:=h.cell (jc c (by simp));simp_all [aR.kG]
def aR.WT{e:Nat}{xs:M (M D)}{u:aJ}(c:aR K β Z s a w (.ak e xs) u):∃b,eH u=J b:=by by_cases d:ca e=W;grind [aR.kG,lW];let⟨f,cap,h1,_⟩:=(aR.ju (by simpa using d)).1 c;exact⟨ac6 f,by rw[h1];rfl⟩
end
section
variable{K:dh}{β:aC→Option Nat}{ω:Nat→Option cT}{Z:Nat→Prop}{s:St}{a:Act}{w:World}
def lq(K:dh)(β:aC→Option Nat)(s:St)(a:Act)(w:World)(b:Nat):Prop:=∀(r:aO)(j e:Nat)(xs:M (M D))(u:aJ)(c:Nat),r.isArg=I→(s r).v.cells[j]?=J (.ak e xs)→cK K β a w r j=J u→eH u=J c→c≠b
def lr(K:dh)(β:aC→Option Nat)(ω:Nat→Option cT)(Z:Nat→Prop)(s:St)(a:Act)(w:World)(r:aO)(i:Nat)(c:C)(u:aJ):Prop:=aR K β Z s a w c u∧∀(e:Nat)(xs:M (M D))(b:Nat),c=.ak e xs→eH u=J b→ω b=J (r,J i)∧mA w e u∧lq K β s a w b
structure dD(K:dh)(β:aC→Option Nat)(a:Act)(ω:Nat→Option cT)(Z:Nat→Prop)(s:St)(w:World)(ω':Nat→Option cT)(Z':Nat→Prop)(s':St)(w':World):Prop where
 z:∀b,Z b→Z' b
 heap:∀b,b<w.heap.size→w'.heap[b]?=w.heap[b]?
 size:w.heap.size≤w'.heap.size
 Oq:∀r,gT (s r) (s' r)
 cK:∀r j,cK K β a w' r j=cK K β a w r j
 fr:∀b,b<w.heap.size→lq K β s a w b→ω' b=ω b∧lq K β s' a w' b
theorem dD.refl:dD K β a ω Z s w ω Z s w:=⟨λ_ h=>h,λ_ _=>rfl,Nat.le_refl _,λ_=>gT.refl _,λ_ _=>rfl,λ_ _ h=>⟨rfl,h⟩⟩
theorem sN.trans{p q t:Prop}(hp:t→p)(j:t→q){c c' c'':C}(h:sN p c c')(k:sN q c' c''):sN t c c'':=by
 rcases h with rfl|⟨e,ys,rfl,rfl⟩|⟨hn,e,ys,a,rfl,rfl|rfl⟩
 rcases k with k|k|⟨hn,k⟩
 exact .inl k;exact .inr (.inl k);exact .inr (.inr ⟨λb=>hn (j b),k⟩);rcases k with rfl|⟨f,a,h1,rfl⟩|⟨hn,f,a,g,h1,h2⟩
 exact .inr (.inl ⟨e,ys,rfl,rfl⟩);cases h1;cases h1;rcases k with rfl|⟨f,d,h1,rfl⟩|⟨i,f,d,g,h1,h2⟩
 exact .inr (.inr ⟨λb=>hn (hp b),e,ys,a,rfl,.inl rfl⟩);cases h1;exact .inr (.inr ⟨λb=>hn (hp b),e,ys,a,rfl,.inr rfl⟩);cases h1;exact .inr (.inr ⟨λb=>hn (hp b),e,ys,g,rfl,h2⟩);rcases k with rfl|⟨f,d,h1,rfl⟩|⟨i,f,d,g,h1,h2⟩
 exact .inr (.inr ⟨λb=>hn (hp b),e,ys,a,rfl,.inr rfl⟩);cases h1;cases h1
theorem sN.alive{p:Prop}{c c':C}(h:sN p c c')(a:c'≠.bK):c≠.bK:=by
 rcases h with rfl|⟨e,ys,rfl,_⟩|⟨_,e,ys,b,rfl,_⟩
 exact a;simp;simp
theorem gT.trans{x y z:RV}(h:gT x y)(k:gT y z):gT x z:=by let⟨h1,h2,h3⟩:=h;let⟨k1,k2,k3⟩:=k;refine⟨by omega,by omega,λe j a=>?_⟩;have hk:=k3 (by omega) j a;exact sN.trans (λ_=>by omega) (λ_=>by omega) (h3 (by omega) j (hk.alive a)) hk
theorem dD.trans{ω' d:Nat→Option cT}{Z' e:Nat→Prop}{s' f:St}{w' w'':World}(h:dD K β a ω Z s w ω' Z' s' w')(k:dD K β a ω' Z' s' w' d e f w''):dD K β a ω Z s w d e f w'':=⟨λb c=>k.z b (h.z b c),λb c=>ab0 (k.heap b (Nat.lt_of_lt_of_le c h.size)) (h.heap b c),Nat.le_trans h.size k.size,λr=>(h.Oq r).trans (k.Oq r),λr j=>ab0 (k.cK r j) (h.cK r j),λb c g=>⟨ab0 ((k.fr b (Nat.lt_of_lt_of_le c h.size) (h.fr b c g).2).1) (h.fr b c g).1,(k.fr b (Nat.lt_of_lt_of_le c h.size) (h.fr b c g).2).2⟩⟩
def dD.ls{ω':Nat→Option cT}{Z':Nat→Prop}{s':St}{w':World}(k:dD K β a ω Z s w ω' Z' s' w')(g:∀b,Z b→b<w.heap.size){c:C}{u:aJ} (d:∀(e:Nat)(xs:M (M D))(b:Nat),c=.ak e xs→eH u=J b→b<w.heap.size)(h:aR K β Z s a w c u):aR K β Z' s' a w' c u:=aR.step (λ_ _ h=>h) (λb f=>⟨k.heap b (g b f),k.z b f⟩) k.Oq (λr j _ _=>k.cK r j) (λe xs b h1 h2=>k.heap _ (d e xs b h1 h2)) h
def dD.Ot{ω':Nat→Option cT}{Z':Nat→Prop}{s':St}{w':World}(k:dD K β a ω Z s w ω' Z' s' w')(g:aY K β ω Z s a w){r:aO}{i:Nat}{c:C}{u:aJ}(h:lr K β ω Z s a w r i c u):lr K β ω' Z' s' a w' r i c u:=by have d:∀(e:Nat)(xs:M (M D))(b:Nat),c=.ak e xs→eH u=J b→b<w.heap.size:=λe xs b h1 h2=>(g.dZ _ _ (h.2 e xs b h1 h2).1).2.1;refine⟨k.ls g.dp d h.1,λe xs b h1 h2=>?_⟩;let⟨l,m,j⟩:=h.2 e xs b h1 h2;have f:=d e xs b h1 h2;exact⟨by rw[(k.fr _ f j).1];exact l,m.mono h2 (k.heap _ f),(k.fr _ f j).2⟩
def lr.Ag{r:aO}{i:Nat}{c:C}{u:aJ}(b:∀e xs,c≠.ak e xs)(h:aR K β Z s a w c u):lr K β ω Z s a w r i c u:=⟨h,λe xs _ h1 _=>cO h1 (b e xs)⟩
def CP(s:St)(r q:aO)(x:RV):(s.set r x q).v=if q=r then x.v else(s q).v:=by grind [St.set]
theorem Ie{b:SV}{j a:Nat}{c d:C}(h:(b.setCell j c).cells[a]?=J d):(a=j∧d=c)∨(a≠j∧b.cells[a]?=J d):=by grind [rA]
def aY.WU(h:aY K β ω Z s a w){r:aO}{j e:Nat}{ys:M (M D)}{c':C}(hc:(s r).at j=.ak e ys)(hr:r.isArg=I)(S:c'=.bK∨c'=.d (.sl e ys)) {u0:aJ}{b0:Nat}(hh:cK K β a w r j=J u0)(A:eH u0=J b0){ω':Nat→Option cT}{Z':Nat→Prop} (hZ:∀b,Z' b↔Z b∨(c'≠.bK∧b=b0))(H:∀b,b≠b0→ω' b=ω b)(ay2:c'≠.bK→ω' b0=O):aY K β ω' Z' (s.set r {s r with v:=(s r).v.setCell j c'}) a w∧dD K β a ω Z s w ω' Z' (s.set r {s r with v:=(s r).v.setCell j c'}) w∧lq K β (s.set r {s r with v:=(s r).v.setCell j c'}) a w b0:=by
 have z:=jc hc (by simp);let⟨Is,hwr⟩:=h.ak r j e ys u0 b0 hr z hh A;let⟨hnz,hlt,hE⟩:=h.dZ _ _ Is;let⟨u,hu1,P⟩:=h.cell z;rw[hh]at hu1;cases hu1;have hno:∀e xs,c'≠.ak e xs:=by rcases S with rfl|rfl<;>simp
 generalize T:s.set r {s r with v:=(s r).v.setCell j c'}=s';have n:∀q,(s' q).v=if q=r then(s r).v.setCell j c' else(s q).v:=λq=>by rw[←T];exact CP ..
 have l:∀(q:aO)(i e:Nat)(xs:M (M D)),(s' q).v.cells[i]?=J (.ak e xs)→(s q).v.cells[i]?=J (.ak e xs)∧¬(q=r∧i=j):=by grind [Ie]
 have R:∀q,gT (s q) (s' q):=by
  intro q;by_cases N:q=r;subst N;rw[←T,lR];refine⟨Nat.le_refl _,Nat.le_refl _,λ_ i hi=>?_⟩;have Ou:∀i,({s q with v:=(s q).v.setCell j c'}:RV).at i=if i=j∧i<(s q).v.cells.length then c' else(s q).at i:=by grind [RV.at,rA]
  rw[Ou]at hi ⊢;by_cases hx:i=j∧i<(s q).v.cells.length;rw[aF hx]at hi ⊢;obtain⟨rfl,_⟩:=hx;rw[hc];rcases S with rfl|rfl
  exact cO rfl hi;exact .inr (.inl ⟨e,ys,rfl,rfl⟩);rw[aV hx];exact .inl rfl;rw[←T,lS _ _ N];exact gT.refl _
 have F:∀b,Z b→Z' b:=λb f=>(hZ b).2 (.inl f);have hfr:∀b,b<w.heap.size→lq K β s a w b→ω' b=ω b∧lq K β s' a w b:=by intro b _ hf;have hne:b≠b0:=λf=>hf r j e ys u0 b0 hr z hh A f.symm;exact⟨H b hne,λq i B xs E G N o p y=>hf q i B xs E G N (l q i B xs o).1 p y⟩
 have V:dD K β a ω Z s w ω' Z' s' w:=⟨F,λ_ _=>rfl,Nat.le_refl _,R,λ_ _=>rfl,hfr⟩;have m:∀(c:C)(u:aJ),aR K β Z s a w c u→aR K β Z' s' a w c u:=λc u rB=>aR.step (λ_ _ h=>h) (λb f=>⟨rfl,F b f⟩) R (λ_ _ _ _=>rfl) (λ_ _ _ _ _=>rfl) rB;have hnew:aR K β Z' s' a w c' u0:=by
  rcases S with rfl|rfl
  trivial;by_cases he:ca e=W;obtain⟨b,rfl,g⟩:=(aR.kG he).1 P;rw[lW,Option.some.injEq]at A;subst A;exact(bA.n7 he).2 ⟨b,rfl,(hZ _).2 (.inr ⟨by simp,rfl⟩),ej.mono (λb f=>⟨rfl,F b f⟩) e ys _ rfl g⟩;have he:ca e=I:=by simpa using he
  obtain⟨ad,cap,rfl,hsp,hle,X⟩:=(aR.ju he).1 P;simp only[eH,Option.some.injEq]at A;subst A;exact(bA.ik he).2 ⟨ad,cap,rfl,.inr ⟨hsp,(hZ _).2 (.inr ⟨by simp,rfl⟩)⟩,hle,dy.mono (λb f=>⟨rfl,F b f⟩) e ys _ _ rfl X⟩
 have hne_of:∀(q:aO)(i B:Nat)(xs:M (M D))(E:aJ)(G:Nat),q.isArg=I→(s q).v.cells[i]?=J (.ak B xs)→¬(q=r∧i=j)→cK K β a w q i=J E→eH E=J G→G≠b0:=by intro q i B xs E G N o hn p y f;have:=(h.ak q i B xs E G N o p y).1;grind
 have Ig:∀(v:aJ),bO (aR K β Z s a w) v (s r).v→(∀u,(eB v)[j]?=J u→u=u0)→bO (aR K β Z' s' a w) v ((s r).v.setCell j c'):=λv hv hu=>bO.setCell (bO.mono (λc u _=>m c u) hv) λu WV=>by grind
 refine⟨⟨h.size,h.defers,h.os,h.tape,h.output,h.base,h.frame,?_,λb f=>F b (h.lZ b f),?_,?_,?_,?_,?_,?_,?_,h.og⟩,V,?_⟩;intro b f;rcases(hZ b).1 f with f|⟨_,rfl⟩
 exact h.dp b f;exact hlt;intro b f;rcases(hZ b).1 f with f|⟨_,rfl⟩
 rcases h.nj b f with g|g|g|⟨i,j',B,ys',E,Y,g2,g3⟩
 exact .inl g;exact .inr (.inl g);grind;grind [aO.isArg];grind;intro t;rw[n];split;rename_i ht;have ht':(s (.tmp t)).v=(s r).v:=by rw[ht]
 refine Ig _ (ht'▸h.tmps t) λu hu=>?_;grind [cK];exact bO.mono (λc u _=>m c u) (h.tmps t);intro i;rw[n,aV (by grind [aO.isArg])];exact bO.mono (λc u _=>m c u) (h.args i);intro k;have f:=h.aI k;rw[n];split;rename_i hk;subst hk;cases hv:(s (.box k)).v with
 |agg cs=>let⟨b,ws,el,lo,hi,Y,g2,g3,g4,g5⟩:=ek.cell h hv;refine⟨b,ws,el,lo,hi,Y,?_,g3,g4,?_⟩;rw[H b];exact g2;grind;refine aQ.set (g5.mono λu c=>m c u) λu hu=>?_;grind [nk]
 |one c=>rw[hv]at f;exact ab1 f|bw x=>rw[hv]at f;exact ab1 f|undef=>simp_all [SV.cells]
 cases hv:(s (.box k)).v with
 |agg cs=>let⟨b,ws,el,lo,hi,Y,g2,g3,g4,g5⟩:=ek.cell h hv;refine⟨b,ws,el,lo,hi,Y,?_,g3,g4,g5.mono λu c=>m c u⟩;rw[H b];exact g2;grind
 |one c=>rw[hv]at f;exact ab1 f|bw x=>rw[hv]at f;exact ab1 f|undef=>rw[hv]at f;exact f
 intro q i B xs E G N o p y;let⟨Y,g2⟩:=l q i B xs o;let⟨g3,g4⟩:=h.ak q i B xs E G N Y p y;grind;intro i j' B xs E G o p y;exact h.iS i j' B xs E G (l _ _ _ _ o).1 p y;intro b g f;by_cases hbb:b=b0;grind;rw[H b hbb]at f;let⟨Y,g2,g3⟩:=h.dZ b g f;grind;intro q i B xs E G N o p y;grind
end
section
variable{K:dh}{β:aC→Option Nat}{ω:Nat→Option cT}{Z:Nat→Prop}{s:St}{a:Act}{w:World}
def aY.kh(h:aY K β ω Z s a w){t:Nat}(Y:t<K.N){u:aJ}{v:SV}(hv:bO (aR K β Z s a w) u v) (ho:∀(j e:Nat)(xs:M (M D))(p:aJ)(b:Nat),v.cells[j]?=J (.ak e xs)→(eB u)[j]?=J p→eH p=J b→ω b=J (.tmp t,J j)∧mA w e p):aY K β ω Z (s.set (.tmp t) {hv:=(s (.tmp t)).hv+1,cv:=(s (.tmp t)).cv,v}) (a.put (J t) u) w:=by
 generalize m:s.set (.tmp t) {hv:=(s (.tmp t)).hv+1,cv:=(s (.tmp t)).cv,v}=s';have d:∀q,(s' q).v=if q=.tmp t then v else(s q).v:=λq=>by rw[←m];exact CP ..
 have A:∀n,(a.put (J t) u).tmps.getD n undef=if n=t then u else a.tmps.getD n undef:=by intro n;simp only[Act.put,Array.getD_eq_getD_getElem?,Array.getElem?_setIfInBounds];grind [aY.size]
 have o:∀r j,r≠.tmp t→cK K β (a.put (J t) u) w r j=cK K β a w r j:=by
  intro r j F;cases r with|tmp n=>simp_all [cK]|box k=>rfl|bN i=>rfl
 have B:∀q,gT (s q) (s' q):=by intro q;by_cases y:q=.tmp t;subst y;rw[←m,lR];exact gT.bump rfl rfl;rw[←m,lS _ _ y];exact gT.refl _
 have f:∀(c:C)(x:aJ),aR K β Z s a w c x→aR K β Z s' (a.put (J t) u) w c x:=λc x G=>aR.step (λ_ _ h=>h) (λb l=>⟨rfl,l⟩) B (λr j F _=>by by_cases y:r=.tmp t;subst y;rw[←m,lR]at F;simp at F;exact o r j y) (λ_ _ _ _ _=>rfl) G;refine⟨by simpa[Act.put]using h.size,h.defers,h.os,h.tape,h.output,h.base,h.frame,h.dp,h.lZ,?_,?_,?_,?_,?_,?_,h.dZ,h.og⟩;intro b l;rcases h.nj b l with g|g|g|⟨i,j',H,T,u',P,R,S⟩
 exact .inl g;exact .inr (.inl g);grind;grind;intro n;rw[d,A];by_cases e:n=t;grind [bO.mono];rw[aV e,aV (by simpa using e)];exact bO.mono (λc x _=>f c x) (h.tmps n);intro i;rw[d,aV (by simp)];exact bO.mono (λc x _=>f c x) (h.args i);intro k;rw[d,aV (by simp)];have l:=h.aI k;cases hv:(s (.box k)).v with
 |agg cs=>let⟨b,ws,el,lo,hi,P,R,S,V,X⟩:=ek.cell h hv;exact⟨b,ws,el,lo,hi,P,R,S,V,X.mono λu c=>f c u⟩
 |one c=>rw[hv]at l;exact l.elim|bw x=>rw[hv]at l;exact l.elim|undef=>rw[hv]at l;exact l
 intro q i e xs p b y z E l;rw[d]at z;by_cases H:q=.tmp t;grind [cK];rw[aV H]at z;rw[o q i H]at E;exact h.ak q i e xs p b y z E l;intro i j e xs p b z E l;rw[d,aV (by simp)]at z;exact h.iS i j e xs p b z E l
def aY.ah1(h:aY K β ω Z s a w){i j e:Nat}{ys:M (M D)}(hc:(s (.bN i)).at j=.ak e ys){u0:aJ}{A:Nat}(hh:(eB (K.argv.getD i undef))[j]?=J u0)(F:eH u0=J A):aY K β ω (λb=>Z b∨(b=A∧Live u0)) (s.set (.bN i) {s (.bN i)with v:=(s (.bN i)).v.setCell j (.d (.sl e ys))}) a w∧dD K β a ω Z s w ω (λb=>Z b∨(b=A∧Live u0)) (s.set (.bN i) {s (.bN i)with v:=(s (.bN i)).v.setCell j (.d (.sl e ys))}) w:=by
 have n:=jc hc (by simp);let⟨u,G,T⟩:=h.cell n;simp only[cK]at G;rw[hh]at G;cases G;let⟨V,hE⟩:=h.iS i j e ys u0 A n hh F;generalize H:s.set (.bN i) {s (.bN i)with v:=(s (.bN i)).v.setCell j (.d (.sl e ys))}=s';have o:∀q,(s' q).v=if q=.bN i then(s (.bN i)).v.setCell j (.d (.sl e ys))else(s q).v:=λq=>by rw[←H];exact CP ..
 have ay3:ω A=O:=by
  cases hω:ω A with|none=>rfl|some g=>exact cO ((h.dZ _ _ hω).2.2 V) hE
 have f:∀(q:aO)(l e:Nat)(xs:M (M D)),(s' q).v.cells[l]?=J (.ak e xs)→(s q).v.cells[l]?=J (.ak e xs):=by grind [Ie]
 have B:∀q,gT (s q) (s' q):=by intro q;by_cases R:q=.bN i;subst R;rw[←H,lR];refine⟨Nat.le_refl _,Nat.le_refl _,λ_ l hl=>?_⟩;simp only[RV.at,rA,jP,zH]at hl ⊢;by_cases X:j=l;subst X;have Y:j<(s (.bN i)).v.cells.length:=(iO.1 n).1;simp only[bI,Y,Option.getD_some];exact .inr (.inl ⟨e,ys,by rw[n];rfl,rfl⟩);simp only[X,ch];exact .inl rfl;rw[←H,lS _ _ R];exact gT.refl _
 have hfr:∀b,b<w.heap.size→lq K β s a w b→ω b=ω b∧lq K β s' a w b:=λb _ hf=>⟨rfl,λq l E xs S b' R r y z=>hf q l E xs S b' R (f q l E xs r) y z⟩;have N:dD K β a ω Z s w ω (λb=>Z b∨(b=A∧Live u0)) s' w:=⟨λb m=>.inl m,λ_ _=>rfl,Nat.le_refl _,B,λ_ _=>rfl,hfr⟩;have p:∀(c:C)(u:aJ),aR K β Z s a w c u→aR K β (λb=>Z b∨(b=A∧Live u0)) s' a w c u:=λc u rB=>aR.step (λ_ _ h=>h) (λb m=>⟨rfl,.inl m⟩) B (λ_ _ _ _=>rfl) (λ_ _ _ _ _=>rfl) rB;have hnew:aR K β (λb=>Z b∨(b=A∧Live u0)) s' a w (.d (.sl e ys)) u0:=by
  show bA w (λb=>Z b∨(b=A∧Live u0)) (.sl e ys) u0;by_cases he:ca e=W;grind [aR.kG,lW,bA.n7,WS];have he:ca e=I:=by simpa using he
  obtain⟨ad,cap,rfl,hsp,hle,P⟩:=(aR.ju he).1 T;simp only[eH,Option.some.injEq]at F;subst F;exact(bA.ik he).2 ⟨ad,cap,rfl,(Nat.eq_zero_or_pos cap).imp id λhc=>⟨hsp,.inr ⟨rfl,Nat.ne_of_gt hc⟩⟩,hle,dy.mono (λb m=>⟨rfl,.inl m⟩) e ys _ _ rfl P⟩
 refine⟨⟨h.size,h.defers,h.os,h.tape,h.output,h.base,h.frame,?_,λb m=>.inl (h.lZ b m),?_,?_,?_,?_,?_,?_,?_,h.og⟩,N⟩;rintro b (m|⟨rfl,hcap⟩);exact h.dp b m;exact Nat.lt_of_lt_of_le V h.base;rintro b (m|⟨rfl,hcap⟩);rcases h.nj b m with g|g|g|⟨i',j',E,ys',S,g1,g2,g3⟩
 exact .inl g;exact .inr (.inl g);grind;grind [rA];grind [rA];intro t;rw[o,aV (by simp)];exact bO.mono (λc u _=>p c u) (h.tmps t);intro i';rw[o];split;rename_i hi;cases hi;refine bO.setCell (bO.mono (λc u _=>p c u) (h.args i)) λu hu=>?_;grind;exact bO.mono (λc u _=>p c u) (h.args i');intro k;have m:=h.aI k;rw[o,aV (by simp)];cases hv:(s (.box k)).v with
 |agg cs=>let⟨b,ws,el,lo,hi,g1,g2,g3,g4,g5⟩:=ek.cell h hv;exact⟨b,ws,el,lo,hi,g1,g2,g3,g4,g5.mono λu c=>p c u⟩
 |one c=>rw[hv]at m;exact ab1 m|bw x=>rw[hv]at m;exact ab1 m|undef=>rw[hv]at m;exact m
 intro q l E xs S b' R r y z;exact h.ak q l E xs S b' R (f q l E xs r) y z;intro i' j' E xs S b' r y z;exact h.iS i' j' E xs S b' (f _ _ _ _ r) y z;intro b g m;let⟨g1,g2,g3⟩:=h.dZ b g m;grind
def aY.Ov(h:aY K β ω Z s a w){w':World}(e:∀b,b<w.heap.size→w'.heap[b]?=w.heap[b]?)(r:aO)(j:Nat):cK K β a w' r j=cK K β a w r j:=by
 cases r with
 |tmp t=>rfl|bN i=>rfl|box k=>
  have d:=h.aI k;cases hv:(s (.box k)).v with|agg cs=>grind [ek.cell,cK,cell_of_heap]|one c=>rw[hv]at d;exact ab1 d|bw x=>rw[hv]at d;exact ab1 d|undef=>rw[hv]at d;simp only[ek]at d;simp[cK,d]
theorem aY.grow(h:aY K β ω Z s a w){w':World}(d:∀b,b<w.heap.size→w'.heap[b]?=w.heap[b]?)(n:w.heap.size≤w'.heap.size)(S:w'.os=w.os)(D:adZ w'=adZ w)(F:adH w'=adH w) {ω':Nat→Option cT}(G:∀b,b<w.heap.size→ω' b=ω b)(H:∀b g,w.heap.size≤b→ω' b=J g→b<w'.heap.size):aY K β ω' Z s a w'∧dD K β a ω Z s w ω' Z s w':=by
 have B:=h.Ov d;have T:∀b,b<w.heap.size→lq K β s a w b→ω' b=ω b∧lq K β s a w' b:=λb f hf=>⟨G b f,λq l e' xs P V X Y hh1 z=>hf q l e' xs P V X Y (by grind) z⟩;have p:dD K β a ω Z s w ω' Z s w':=⟨λb f=>f,d,n,λ_=>gT.refl _,B,T⟩;have m:∀(r:aO)(j:Nat)(c:C)(u:aJ),(s r).v.cells[j]?=J c→cK K β a w r j=J u→aR K β Z s a w c u→aR K β Z s a w' c u:=by
  intro r j c u y A rB;refine p.ls h.dp (λe xs b h1 h2=>?_) rB;subst h1;by_cases hr:r.isArg=W;cases r with|bN i=>exact Nat.lt_of_lt_of_le (h.iS i j e xs u b y A h2).1 h.base|tmp t=>simp[aO.isArg]at hr|box k=>simp[aO.isArg]at hr
  exact(h.dZ _ _ (h.ak r j e xs u b (by simpa using hr) y A h2).1).2.1
 refine⟨⟨h.size,h.defers,ab0 S h.os,ab0 D h.tape,ab0 F h.output,Nat.le_trans h.base n,?_,λb f=>Nat.lt_of_lt_of_le (h.dp b f) n,h.lZ,h.nj,?_,?_,?_,?_,h.iS,?_,h.og⟩,p⟩;intro b f hE;rw[d b (Nat.lt_of_lt_of_le f h.base)];exact h.frame b f hE;intro t;exact bO.oc (λj c u y A=>m (.tmp t) j c u y A) (h.tmps t);intro i;exact bO.oc (λj c u y A=>m (.bN i) j c u y A) (h.args i);intro k;have f:=h.aI k;cases hv:(s (.box k)).v with
 |agg cs=>let⟨b,ws,el,lo,hi,N,R,g3,g4,g5⟩:=ek.cell h hv;have o:=(h.dZ _ _ R).2.1;refine⟨b,ws,el,lo,hi,N,by grind,by grind,g4,aQ.dX g5.length λj u c A y=>?_⟩;let⟨P,h1,h2⟩:=g5.aE y;rw[A]at h1;cases h1;exact m (.box k) j c u (by rw[hv];exact y) (by rw[nk N g3];exact A) h2
 |one c=>rw[hv]at f;exact ab1 f|bw x=>rw[hv]at f;exact ab1 f|undef=>rw[hv]at f;exact f
 intro q i e xs P V X y hh z;rw[B]at hh;let⟨N,R⟩:=h.ak q i e xs P V X y hh z;have o:=(h.dZ _ _ N).2.1;exact⟨by grind,R.mono z (d _ o)⟩;intro b g f;by_cases o:b<w.heap.size;rw[G b o]at f;let⟨N,R,g3⟩:=h.dZ b g f;grind;exact⟨λhz=>o (h.dp b hz),H b g (by omega) f,λE=>cO (Nat.lt_of_lt_of_le E h.base) o⟩
def aY.newObj(h:aY K β ω Z s a w)(o:Obj)(g:cT):aY K β (λb=>if b=w.heap.size then J g else ω b) Z s a (ac2 w o)∧dD K β a ω Z s w (λb=>if b=w.heap.size then J g else ω b) Z s (ac2 w o)∧lq K β s a (ac2 w o) w.heap.size∧(ac2 w o).heap[w.heap.size]?=J o:=by
 have c:∀b,b<w.heap.size→(ac2 w o).heap[b]?=w.heap[b]? :=λb e=>by show(w.heap.push _)[b]?=_;grind
 let⟨h1,h2⟩:=h.grow (w':=ac2 w o) (ω':=λb=>if b=w.heap.size then J g else ω b) c (by simp) rfl rfl rfl (λb e=>by simp[Nat.ne_of_lt e]) (λb t e k=>by simp only[World.size_alloc];by_cases f:b=w.heap.size;omega;rw[aV f]at k;have:=(h.dZ b _ k).2.1;omega);refine⟨h1,h2,?_,?_⟩;intro q l m xs n p r i d j e;rw[h.Ov c]at d;have:=(h.dZ _ _ (h.ak q l m xs n p r i d j).1).2.1;omega;show(w.heap.push _)[w.heap.size]?=_;simp
def aY.alloc(h:aY K β ω Z s a w)(cs:bW aJ)(el:bq)(g:cT):aY K β (λb=>if b=w.heap.size then J g else ω b) Z s a (ac2 w (.cells cs el))∧dD K β a ω Z s w (λb=>if b=w.heap.size then J g else ω b) Z s (ac2 w (.cells cs el))∧lq K β s a (ac2 w (.cells cs el)) w.heap.size∧(ac2 w (.cells cs el)).heap[w.heap.size]?=J (.cells cs el (0,0)):=h.newObj _ g
def aY.drew(h:aY K β ω Z s a w):aY K β ω Z s a {w with drawn:=adS w+1}∧dD K β a ω Z s w ω Z s {w with drawn:=adS w+1}:=h.grow (w':={w with drawn:=adS w+1}) (ω':=ω) (λ_ _=>rfl) (Nat.le_refl _) rfl rfl rfl (λ_ _=>rfl) (λb g d c=>by have:=(h.dZ b g c).2.1;omega)
end
theorem xw(b o n:Nat):Addr.add ⟨b,o,O⟩ n=⟨b,o+n,O⟩:=by simp_all [Addr.add]
theorem rC{a:ey}(h:a.spot=O)(n:Nat):a.add n=⟨ac6 a,a.off+n,O⟩:=by let⟨b,o,c⟩:=a;simp_all [xw]
def run_loadCellsFrom{P:ew}{w:World}{b o:Nat}{ws:bW aJ}{el:bq}{fz:Nat×Nat}(d:w.heap[b]?=J (.cells ws el fz)):∀(n i:Nat)(acc:bW aJ),o+i+n≤ws.size→(loadCellsFrom ⟨b,o,O⟩ i n acc).run P w=.ok (acc++(ws.extract (o+i) (o+i+n))) w:=by
 intro n;induction n with
 |zero=>simp_all [loadCellsFrom]|succ n a=>
  intro i acc h;have c:ve w ⟨b,o+i,O⟩=J ws[o+i]:=by grind [World.cell?]
  simp only[loadCellsFrom,dC,xw,load,Sem.run,c,dF];rw[a (i+1) _ (by omega)];congr 1;grind
def Ow{P:ew}{w:World}{b o n:Nat}{ws:bW aJ}{el:bq}{fz:Nat×Nat}(a:w.heap[b]?=J (.cells ws el fz))(h:o+n≤ws.size):(loadCells ⟨b,o,O⟩ n).run P w=.ok (ws.extract o (o+n)) w:=by have:=run_loadCellsFrom (P:=P) a n 0 #[] (by omega);simpa[loadCells]using this
structure CQ(w w':World)(b:Nat)(ws iC:Array Value)(el:TypeId)(fz:Nat×Nat):Prop where
 os:w'.os=w.os
 tape:adZ w'=adZ w
 output:adH w'=adH w
 size:w'.heap.size=w.heap.size
 other:∀c,c≠b→w'.heap[c]?=w.heap[c]?
 here:w'.heap[b]?=some (.cells iC el fz)
 len:iC.size=ws.size
def mB{w:World}{b o:Nat}{v:aJ}{ws:bW aJ}{el:bq}{fz:Nat×Nat}(a:w.heap[b]?=J (.cells ws el fz)):(acV w ⟨b,o,O⟩ v).heap[b]?=J (.cells (acW ws o v) el fz)∧∀c,c≠b→(acV w ⟨b,o,O⟩ v).heap[c]?=w.heap[c]? :=by simp_all [World.setCell,Array.getElem?_modify,Ne.symm]
theorem WW{l:M aJ}{o:Nat}{v:aJ}{vs:M aJ}(h:o<l.length):eG (l.set o v) (o+1) vs=eG l o (v::vs):=by
 have h1:(l.set o v).take (o+1)=l.take o++[v]:=by rw[List.take_set,List.take_succ_eq_append_getElem h,List.set_append_right _ _ (by simp;omega)];simp[Nat.min_eq_left (Nat.le_of_lt h)]
 grind [eG,List.drop_set_of_lt]
def Ox{P:ew}{b o:Nat}{el:bq}{lo hi:Nat}:∀(vs:M aJ)(i:Nat)(w:World)(ws:bW aJ),w.heap[b]?=J (.cells ws el (lo,hi))→(∀x,x<ws.size→¬(lo≤x∧x<hi))→o+i+Y vs≤ws.size→(∀v∈vs,hJ v=W)→∃w' iC,(storeCells ⟨b,o,O⟩ vs i).run P w=.ok () w'∧CQ w w' b ws iC el (lo,hi)∧T iC=eG (T ws) (o+i) vs:=by
 intro vs;induction vs with
 |nil=>intro i w ws e h j hv;exact⟨w,ws,by simp[storeCells],⟨rfl,rfl,rfl,rfl,λ_ _=>rfl,e,rfl⟩,by simp[eG]⟩
 |cons v vs l=>
  intro i w ws e h j hv;simp only[kO]at j;have f:o+i<ws.size:=by omega
  have g:ve w ⟨b,o+i,O⟩=J ws[o+i]:=by simp[World.cell?,e,Array.getElem?_eq_getElem f]
  have m:w.frozen? ⟨b,o+i,O⟩=I:=by simp_all [World.frozen?]
  have k:=hv v (lf ..);have a:(store ⟨b,o+i,O⟩ v).run P w=.ok () (acV w ⟨b,o+i,O⟩ v):=by cases v<;>simp_all [store,Sem.run,hJ]
  let⟨h1,h2⟩:=mB (w:=w) (v:=v) (o:=o+i) e;let⟨w',iC,n,d,q⟩:=l (i+1) (acV w ⟨b,o+i,O⟩ v) (acW ws (o+i) v) h1 (by simpa using h) (by simp;omega) (λx p=>hv x (i7 _ p));refine⟨w',iC,?_,⟨d.os,d.tape,d.output,by rw[d.size];simp[World.setCell],λc g=>ab0 (d.other c g) (h2 c g),d.here,by rw[d.len];simp⟩,?_⟩;simp only[storeCells,dC,xw,a,dF];exact n;grind [WW]
section
variable{K:dh}{β:aC→Option Nat}{ω:Nat→Option cT}{Z:Nat→Prop}{s:St}{a:Act}{w:World}
def aY.ay4(h:aY K β ω Z s a w){k k':aC}{b d:Nat}(i:β k=J b)(f:ω b=J (.box k,O))(hk:k'≠k)(g:β k'=J d):d≠b:=by
 intro e;subst e;have:=h.aI k';cases hv:(s (.box k')).v with|agg cs=>grind [ek.cell]|one c=>rw[hv]at this;exact ab1 this|bw x=>rw[hv]at this;exact ab1 this|undef=>rw[hv]at this;simp only[ek]at this;grind
def aY.Oy(h:aY K β ω Z s a w){k:aC}{b:Nat}{ws:bW aJ}{el:bq}{lo hi:Nat}{w':World}{cs:M C} (hω:ω b=J (.box k,O))(WX:β k=O∨β k=J b) (hos:w'.os=w.os)(T:adZ w'=adZ w)(hout:adH w'=adH w)(z:w'.heap.size=w.heap.size)(d:∀c,c≠b→w'.heap[c]?=w.heap[c]?) (F:w'.heap[b]?=J (.cells ws el (lo,hi)))(hfz:∀o,o<ws.size→¬(lo≤o∧o<hi)) (hcs:aQ (λu c=>aR K β Z s a w c u) ws.toList cs) (V:∀(j e:Nat)(xs:M (M D))(E:aJ)(m:Nat),cs[j]?=J (.ak e xs)→ws.toList[j]?=J E→eH E=J m→ω m=J (.box k,J j)∧mA w e E):aY K (λk'=>if k'=k then J b else β k') ω Z (s.set (.box k) {hv:=(s (.box k)).hv+1,cv:=(s (.box k)).cv,v:=.agg cs}) a w'∧
  (∀(c:C)(u:aJ),(∀(e:Nat)(xs:M (M D))(m:Nat),c=.ak e xs→eH u=J m→m≠b)→aR K β Z s a w c u→
    aR K (λk'=>if k'=k then J b else β k') Z (s.set (.box k) {hv:=(s (.box k)).hv+1,cv:=(s (.box k)).cv,v:=.agg cs}) a w' c u):=by
 generalize P:s.set (.box k) {hv:=(s (.box k)).hv+1,cv:=(s (.box k)).cv,v:=.agg cs}=s'
 generalize WY:(λk'=>if k'=k then J b else β k')=B
 have R:B k=J b:=by rw[←WY];simp
 have CR:∀k',k'≠k→B k'=β k':=λk' hk=>by grind
 have f:∀q,(s' q).v=if q=.box k then .agg cs else(s q).v:=λq=>by rw[←P];exact CP ..
 let⟨hnz,hlt,hE⟩:=h.dZ _ _ hω
 have ay5:∀k' b',k'≠k→β k'=J b'→b'≠b:=by
  intro k' b' hk l e;subst e;have:=h.aI k';cases hv:(s (.box k')).v with|agg cs'=>grind [ek.cell]|one c=>rw[hv]at this;exact ab1 this|bw x=>rw[hv]at this;exact ab1 this|undef=>rw[hv]at this;simp only[ek]at this;grind
 have S:∀r j,r≠.box k→cK K B a w' r j=cK K β a w r j:=by
  intro r j hr;cases r with
  |tmp t=>rfl|bN i=>rfl|box k'=>
   have hk:k'≠k:=λe=>hr (by rw[e]);simp only[cK,CR k' hk];cases l:β k' with|none=>rfl|some b'=>grind [cell_of_heap]
 have Oz:∀q,gT (s q) (s' q):=by intro q;by_cases X:q=.box k;subst X;rw[←P,lR];exact gT.bump rfl rfl;rw[←P,lS _ _ X];exact gT.refl _
 have y:∀k' b',β k'=J b'→B k'=J b':=by grind
 have G:∀(c:C)(u:aJ),(∀(e:Nat)(xs:M (M D))(m:Nat),c=.ak e xs→eH u=J m→m≠b)→aR K β Z s a w c u→aR K B Z s' a w' c u:=λc u rB h1=>
  aR.step y (λb' l=>⟨d b' (λe=>hnz (e▸l)),l⟩) Oz (λr j hr _=>by
   by_cases X:r=.box k
   subst X;rw[←P,lR]at hr;simp at hr
   exact S r j X) (λe xs m h2 h3=>d _ (rB e xs m h2 h3)) h1
 have p:∀(r:aO)(j:Nat)(c:C)(u:aJ),r≠.box k→(s r).v.cells[j]?=J c→cK K β a w r j=J u→aR K β Z s a w c u→aR K B Z s' a w' c u:=by
  intro r j c u hr n N;refine G c u λe xs m h1 h2 Y=>?_;subst h1;by_cases qf:r.isArg=W;cases r with
  |bN i=>let⟨g1,g2⟩:=h.iS i j e xs u m n N h2;grind
  |tmp t=>simp[aO.isArg]at qf|box k=>simp[aO.isArg]at qf
  have:=(h.ak r j e xs u m (by simpa using qf) n N h2).1;grind
 have H:∀(j e:Nat)(xs:M (M D))(E:aJ)(m:Nat),cs[j]?=J (.ak e xs)→ws.toList[j]?=J E→eH E=J m→m≠b:=by grind
 refine⟨⟨h.size,h.defers,ab0 hos h.os,ab0 T h.tape,ab0 hout h.output,by rw[z];exact h.base,?_,λb' l=>by rw[z];exact h.dp b' l,h.lZ,?_,?_,?_,?_,?_,?_,?_,λk' b' l=>y k' b' (h.og k' b' l)⟩,G⟩
 intro b' l OA
 rw[d b' (λe=>by grind)]
 exact h.frame b' l OA
 intro b' l
 rcases h.nj b' l with g|g|g|⟨i,j',e',ys',u',g1,g2,g3⟩
 exact .inl g
 exact .inr (.inl g)
 grind
 grind
 intro t
 rw[f,aV (by simp)]
 exact bO.oc (λj c u n N=>p (.tmp t) j c u (by simp) n N) (h.tmps t)
 intro i
 rw[f,aV (by simp)]
 exact bO.oc (λj c u n N=>p (.bN i) j c u (by simp) n N) (h.args i)
 intro k'
 rw[f]
 by_cases hk:k'=k
 subst hk
 rw[aF rfl]
 refine⟨b,ws,el,lo,hi,R,hω,F,hfz,aQ.dX hcs.length λj u c N n=>?_⟩
 let⟨u',h1,h2⟩:=hcs.aE n
 grind
 rw[aV (by simpa using hk)]
 have Y:=h.aI k'
 cases hv:(s (.box k')).v with
 |agg cs'=>let⟨b2,Ah,CS,CT,hi2,g1,g2,g3,g4,g5⟩:=ek.cell h hv;refine⟨b2,Ah,CS,CT,hi2,by grind,g2,by grind,g4,aQ.dX g5.length λj u c N n=>?_⟩;let⟨u',h1,h2⟩:=g5.aE n;rw[N]at h1;cases h1;exact p (.box k') j c u (by simpa using hk) (by rw[hv];exact n) (by rw[nk g1 g3];exact N) h2
 |one c=>rw[hv]at Y;exact ab1 Y|bw x=>rw[hv]at Y;exact ab1 Y|undef=>rw[hv]at Y;simp only[ek]at Y ⊢;grind
 intro q i e xs E m X n hh A
 rw[f]at n
 by_cases hqk:q=.box k
 subst hqk
 rw[aF rfl]at n
 rw[nk R F]at hh
 let⟨g1,g2⟩:=V i e xs E m n hh A
 exact⟨g1,g2.mono A (d _ (H i e xs E m n hh A))⟩
 rw[aV hqk]at n
 rw[S q i hqk]at hh
 let⟨g1,g2⟩:=h.ak q i e xs E m X n hh A
 exact⟨g1,g2.mono A (d _ (λe=>by grind))⟩
 intro i j e xs E m n hh A
 rw[f,aV (by simp)]at n
 exact h.iS i j e xs E m n hh A
 intro b' g l
 rw[z]
 exact h.dZ b' g l
structure Ih(w w':World)(b:Nat):Prop where
 os:w'.os=w.os
 tape:adZ w'=adZ w
 output:adH w'=adH w
 size:w'.heap.size=w.heap.size
 other:∀c,c≠b→w'.heap[c]?=w.heap[c]?
def CQ.chg{w w':World}{b:Nat}{ws iC:bW aJ}{el:bq}{fz:Nat×Nat}(h:CQ w w' b ws iC el fz):Ih w w' b:=⟨h.os,h.tape,h.output,h.size,h.other⟩
def aY.WZ(h:aY K β ω Z s a w){r:aO}{j e:Nat}{ys ys':M (M D)}(hc:(s r).at j=.ak e ys)(hr:r.isArg=I){u0:aJ}{b0:Nat}(hh:cK K β a w r j=J u0)(hb0:eH u0=J b0) {w':World}(B:Ih w w' b0)(ay6:mA w' e u0) (hnew:∀(s':St),aR K β Z s' a w' (.ak e ys') u0):aY K β ω Z (s.set r {s r with cv:=(s r).cv+1,v:=(s r).v.setCell j (.ak e ys')}) a w':=by
 have p:=jc hc (by simp);let⟨Is,hwr⟩:=h.ak r j e ys u0 b0 hr p hh hb0;let⟨hnz,hlt,hE⟩:=h.dZ _ _ Is;generalize X:s.set r {s r with cv:=(s r).cv+1,v:=(s r).v.setCell j (.ak e ys')}=s';have d:∀q,(s' q).v=if q=r then(s r).v.setCell j (.ak e ys')else(s q).v:=λq=>by rw[←X];exact CP ..
 have l:∀(q:aO)(i F:Nat)(xs:M (M D)),(s' q).v.cells[i]?=J (.ak F xs)→(q=r∧i=j∧F=e∧xs=ys')∨((s q).v.cells[i]?=J (.ak F xs)∧¬(q=r∧i=j)):=by grind [Ie]
 have Oz:∀q,gT (s q) (s' q):=by intro q;by_cases y:q=r;subst y;rw[←X,lR];refine⟨Nat.le_refl _,by simp,λ_ i hi=>?_⟩;simp only[RV.at,rA,jP,zH]at hi ⊢;by_cases hij:j=i;subst hij;have hl:j<(s q).v.cells.length:=(iO.1 p).1;simp only[bI,hl,Option.getD_some];exact .inr (.inr ⟨by omega,e,ys,ys',by rw[p];rfl,.inl rfl⟩);simp only[hij,ch];exact .inl rfl;rw[←X,lS _ _ y];exact gT.refl _
 have m:∀k' f,β k'=J f→f≠b0:=by
  intro k' f b e;subst e;have:=h.aI k';cases hv:(s (.box k')).v with|agg G=>grind [ek.cell]|one c=>rw[hv]at this;exact ab1 this|bw x=>rw[hv]at this;exact ab1 this|undef=>rw[hv]at this;simp only[ek]at this;grind
 have V:∀q i,cK K β a w' q i=cK K β a w q i:=by
  intro q i;cases q with
  |tmp t=>rfl|bN i=>rfl|box k'=>
   simp only[cK];cases b:β k' with|none=>rfl|some f=>simp only[Option.bind_some];exact cell_of_heap (B.other f (m k' f b)) _ _
 have W2:∀(c:C)(u:aJ),(∀(e:Nat)(xs:M (M D))(H:Nat),c=.ak e xs→eH u=J H→H≠b0)→aR K β Z s a w c u→aR K β Z s' a w' c u:=λc u rB h1=>aR.step (λ_ _ h=>h) (λf b=>⟨B.other f (λe=>hnz (e▸b)),b⟩) Oz (λq i _ _=>V q i) (λe xs H h2 h3=>B.other _ (rB e xs H h2 h3)) h1;have N:∀(q:aO)(i e':Nat)(xs:M (M D))(u':aJ)(f:Nat),(s q).v.cells[i]?=J (.ak e' xs)→¬(q=r∧i=j)→cK K β a w q i=J u'→eH u'=J f→f≠b0:=by
  intro q i e' xs u' f A hn n o Y;by_cases y:q.isArg=W;cases q with
  |bN i'=>let⟨E,g2⟩:=h.iS i' i e' xs u' f A n o;grind
  |tmp t=>simp[aO.isArg]at y|box k=>simp[aO.isArg]at y
  have:=(h.ak q i e' xs u' f (by simpa using y) A n o).1;grind
 have Ii:∀(q:aO)(i:Nat)(c:C)(u:aJ),¬(q=r∧i=j)→(s q).v.cells[i]?=J c→cK K β a w q i=J u→aR K β Z s a w c u→aR K β Z s' a w' c u:=by grind
 have z:∀(q:aO)(i:Nat)(c:C)(u:aJ),(s' q).v.cells[i]?=J c→cK K β a w q i=J u→(∀c0,(s q).v.cells[i]?=J c0→aR K β Z s a w c0 u)→aR K β Z s' a w' c u:=by grind [Ie]
 have P:∀(q:aO)(v:aJ),bO lY v (s q).v→bO lY v (s' q).v:=by intro q v hv;rw[d];split;rename_i y;subst y;exact bO.setCell hv λ_ _=>trivial;exact hv
 have hlenc:∀q,(s' q).v.cells.length=(s q).v.cells.length:=by grind [rA]
 have R:∀q,(s' q).v≠.undef→(s q).v≠.undef:=by intro q y e;apply y;rw[d];split;rename_i OB;subst OB;rw[e];rfl;exact e
 have Ig:∀(q:aO)(v:aJ),(∀i,cK K β a w q i=(eB v)[i]?)→bO (aR K β Z s a w) v (s q).v→bO (aR K β Z s' a w') v (s' q).v:=by intro q v y hv;refine bO.of_flat (P q v hv.shape) λhu=>?_;have hf:=hv.eB (R q hu);refine aQ.dX (by rw[hf.length,hlenc]) λi u c O6 Pz=>?_;refine z q i c u Pz (by rw[y];exact O6) λc0 S=>?_;let⟨u2,h1,h2⟩:=hf.aE S;grind
 refine⟨h.size,h.defers,ab0 B.os h.os,ab0 B.tape h.tape,ab0 B.output h.output,by rw[B.size];exact h.base,?_,λf b=>by rw[B.size];exact h.dp f b,h.lZ,?_,?_,?_,?_,?_,?_,?_,h.og⟩;intro f b OA;rw[B.other f (λe=>by grind)];exact h.frame f b OA;intro f b;rcases h.nj f b with g|g|g|⟨i,j',e',ys',u',E,g2,g3⟩
 exact .inl g;exact .inr (.inl g);grind;grind [aO.isArg];intro t;exact Ig (.tmp t) _ (λ_=>rfl) (h.tmps t);intro i;exact Ig (.bN i) _ (λ_=>rfl) (h.args i);intro k;have Y:=h.aI k;cases hv:(s (.box k)).v with
 |agg cs=>
  let⟨b2,Ah,CS,CT,hi2,E,g2,g3,g4,g5⟩:=ek.cell h hv;have T:∃G,(s' (.box k)).v=.agg G∧G.length=cs.length:=by rw[d];split;rename_i hk;rw[←hk,hv];exact⟨_,rfl,by simp⟩;grind
  let⟨G,T,hl'⟩:=T;rw[T];refine⟨b2,Ah,CS,CT,hi2,E,g2,by rw[B.other b2 (m k b2 E)];exact g3,g4,aQ.dX (by rw[g5.length,hl']) λi u c O6 Pz=>?_⟩;refine z (.box k) i c u (by rw[T];exact Pz) (by rw[nk E g3];exact O6) λc0 S=>?_;rw[hv]at S;let⟨u2,h1,h2⟩:=g5.aE S;grind
 |one c=>rw[hv]at Y;exact ab1 Y|bw x=>rw[hv]at Y;exact ab1 Y|undef=>rw[hv]at Y;rw[d];split;grind [SV.cells];rw[hv];exact Y
 intro q i F xs u1 H y A n o;rw[V]at n;rcases l q i F xs A with⟨rfl,rfl,rfl,rfl⟩|⟨E,g2⟩
 grind;let⟨f1,f2⟩:=h.ak q i F xs u1 H y E n o;exact⟨f1,f2.mono o (B.other _ (N q i F xs u1 H E g2 n o))⟩;intro i j' F xs u1 H A n o;rcases l _ _ _ _ A with⟨rfl,_⟩|⟨E,g2⟩
 simp[aO.isArg]at hr;exact h.iS i j' F xs u1 H E n o;intro f g b;rw[B.size];exact h.dZ f g b
def aY.setRow(h:aY K β ω Z s a w){r:aO}{j e:Nat}{ys ys':M (M D)}(hm:ca e=I)(x:(s r).at j=.ak e ys)(y:r.isArg=I){d:ey}{len cap:Nat}(l:cK K β a w r j=J (.slice (J d) len cap)) {iC ws:bW aJ}{el:bq}{fz:Nat×Nat}{w':World}(i:CQ w w' d.block ws iC el fz)(hold:w.heap[ac6 d]?=J (.cells ws el fz))(c:Y ys'=Y ys) (f:dy w' Z e ys' d.block d.off):aY K β ω Z (s.set r {s r with cv:=(s r).cv+1,v:=(s r).v.setCell j (.ak e ys')}) a w':=by have b:=jc x (by simp);let⟨z,m⟩:=h.ak r j e ys _ d.block y b l rfl;let⟨u,g,n⟩:=h.cell b;let⟨B,A,p,q,t,k⟩:=(aR.ju hm).1 n;rw[l]at g;cases g;cases p;refine h.WZ x y l rfl i.chg ?_ λs'=>(aR.ju hm).2 ⟨d,cap,by rw[c],q,by rw[c];exact t,f⟩;let⟨cs,C,lo,hi,f1,f2,f3⟩:=m;rw[hold]at f1;cases f1;exact⟨iC,_,lo,hi,i.here,by rw[i.len];exact f2,λo E=>f3 o (by rw[←i.len];exact E)⟩
def aY.OD(h:aY K β ω Z s a w){r:aO}{j e:Nat}{ys ys':M (M D)}(hm:ca e=W)(d:(s r).at j=.ak e ys)(f:r.isArg=I){b:Nat}(g:cK K β a w r j=J (gS e b)) {w':World}(i:Ih w w' b)(c:ej w' Z e ys' b):aY K β ω Z (s.set r {s r with cv:=(s r).cv+1,v:=(s r).v.setCell j (.ak e ys')}) a w':=by exact h.WZ d f g (lW ..) i (ah0 _ c) λs'=>(aR.kG hm).2 ⟨b,rfl,c⟩
def aY.ah3(h:aY K β ω Z s a w){b:Nat}{r0:aO}{i0:Nat}(T:ω b=J (r0,J i0))(E:lq K β s a w b){iC ws:bW aJ}{el:bq}{fz:Nat×Nat}{w':World}(r:CQ w w' b ws iC el fz):aY K β ω Z s a w'∧lq K β s a w' b∧(∀(c:C)(u:aJ),(∀(e:Nat)(xs:M (M D))(y:Nat),c=.ak e xs→eH u=J y→y≠b)→aR K β Z s a w c u→aR K β Z s a w' c u)∧(∀q i,cK K β a w' q i=cK K β a w q i):=by
 let⟨V,hlt,hE⟩:=h.dZ _ _ T;have m:∀k' f,β k'=J f→f≠b:=by
  intro k' f d e;subst e;have:=h.aI k';cases hv:(s (.box k')).v with|agg cs'=>grind [ek.cell]|one c=>rw[hv]at this;exact ab1 this|bw x=>rw[hv]at this;exact ab1 this|undef=>rw[hv]at this;simp only[ek]at this;grind
 have z:∀q i,cK K β a w' q i=cK K β a w q i:=by
  intro q i;cases q with
  |tmp t=>rfl|bN i=>rfl|box k'=>
   simp only[cK];cases d:β k' with|none=>rfl|some f=>simp only[Option.bind_some];exact cell_of_heap (r.other f (m k' f d)) _ _
 have F:∀(c:C)(u:aJ),(∀(e:Nat)(xs:M (M D))(y:Nat),c=.ak e xs→eH u=J y→y≠b)→aR K β Z s a w c u→aR K β Z s a w' c u:=λc u X h1=>aR.step (λ_ _ h=>h) (λf d=>⟨r.other f (λe=>V (e▸d)),d⟩) (λ_=>gT.refl _) (λq i _ _=>z q i) (λe xs y h2 h3=>r.other _ (X e xs y h2 h3)) h1;have A:∀(q:aO)(i R:Nat)(xs:M (M D))(G:aJ)(f:Nat),(s q).v.cells[i]?=J (.ak R xs)→cK K β a w q i=J G→eH G=J f→f≠b:=by
  intro q i R xs G f p n o B;by_cases H:q.isArg=W;cases q with
  |bN i'=>let⟨S,g2⟩:=h.iS i' i R xs G f p n o;grind
  |tmp t=>simp[aO.isArg]at H|box k=>simp[aO.isArg]at H
  exact E q i R xs G f (by simpa using H) p n o B
 have l:∀(q:aO)(i:Nat)(c:C)(u:aJ),(s q).v.cells[i]?=J c→cK K β a w q i=J u→aR K β Z s a w c u→aR K β Z s a w' c u:=by grind
 refine⟨⟨h.size,h.defers,ab0 r.os h.os,ab0 r.tape h.tape,ab0 r.output h.output,by rw[r.size];exact h.base,?_,λf d=>by rw[r.size];exact h.dp f d,h.lZ,h.nj,?_,?_,?_,?_,h.iS,?_,h.og⟩,?_,F,z⟩;intro f d Y;rw[r.other f (λe=>by grind)];exact h.frame f d Y;intro t;exact bO.oc (λj c u N P=>l (.tmp t) j c u N P) (h.tmps t);intro i;exact bO.oc (λj c u N P=>l (.bN i) j c u N P) (h.args i);intro k;have B:=h.aI k;cases hv:(s (.box k)).v with
 |agg cs=>let⟨b2,Ah,CS,CT,hi2,S,g2,g3,g4,g5⟩:=ek.cell h hv;refine⟨b2,Ah,CS,CT,hi2,S,g2,by rw[r.other b2 (m k b2 S)];exact g3,g4,aQ.dX g5.length λj u c P N=>?_⟩;let⟨G,h1,h2⟩:=g5.aE N;rw[P]at h1;cases h1;exact l (.box k) j c u (by rw[hv];exact N) (by rw[nk S g3];exact P) h2
 |one c=>rw[hv]at B;exact ab1 B|bw x=>rw[hv]at B;exact ab1 B|undef=>rw[hv]at B;exact B
 intro q i e1 xs u1 y H p n o;rw[z]at n;let⟨f1,f2⟩:=h.ak q i e1 xs u1 y H p n o;exact⟨f1,f2.mono o (r.other _ (A q i e1 xs u1 y p n o))⟩;intro f g d;rw[r.size];exact h.dZ f g d;intro q i e1 xs u1 y H p n o;grind
end
def cQ(c:C):Prop:=∀e xs,c≠.ak e xs
section
variable{K:dh}{β:aC→Option Nat}{ω:Nat→Option cT}{Z:Nat→Prop}{s:St}{a:Act}{w:World}
theorem OE(r:aO)(x:RV)(j:Nat)(c:C):cQ (nY r x j c):=by intro e xs h;cases c<;>simp[nY]at h
def aY.nY(h:aY K β ω Z s a w){r:aO}{j:Nat}{c:C}{u:aJ}(d:(s r).v.cells[j]?=J c)(f:cK K β a w r j=J u)(b:aR K β Z s a w c u):aR K β Z s a w (Vs.nY r (s r) j c) u:=by
 cases c with|ak e xs=>simp only[Vs.nY];by_cases g:ca e=W;grind [aR.kG,aR.rz,uO];grind [aR.ju,aR.pj,uO]|_=>exact b
def CU(r:aO)(x:RV):∀(cs:M C)(j:Nat),Y (ja r x j cs)=Y cs|[],_=>rfl|c::cs,j=>by simp[ja,CU r x cs (j+1)]
theorem xx(r:aO)(x:RV):∀(cs:M C)(j i:Nat),(ja r x j cs)[i]?=(cs[i]?).map (nY r x (j+i))|[],_,_=>by simp[ja]|c::cs,j,0=>by simp[ja]|c::cs,j,i+1=>by simp only[ja,qU];rw[xx r x cs (j+1) i,show j+1+i=j+(i+1) by omega]
theorem W5(r:aO)(x:RV):∀(vs:M (az×M C))(j:Nat),(uC r x j vs).flatMap (·.2)=ja r x j (vs.flatMap (·.2))
 |[],_=>by simp[uC,ja]|(b,cs)::vs,j=>by
  simp only[uC,mZ,W5 r x vs];have:∀(l m:M C)(j:Nat),ja r x j (l++m)=ja r x j l++ja r x (j+Y l) m:=by
   intro l;induction l with
   |nil=>intro m j;simp[ja]
   |cons c l a=>grind [ja]
  rw[this]
theorem Ij(x:RV)(r:aO):(x.gD r).cells=ja r x 0 x.v.cells:=by grind [RV.gD,SV.cells,ja,W5]
def Xa(r:aO)(x:RV):∀{vs:M aJ}{xs:M (az×M C)}(j:Nat),aQ (eC lY) vs xs→aQ (eC lY) vs (uC r x j xs)
 |[],[],_,_=>trivial|v::vs,(b,cs)::xs,j,h=>by
  refine⟨?_,Xa r x _ h.2⟩;have h1:=h.1;unfold eC at h1 ⊢;cases b with
  |true=>simp only[bI]at h1 ⊢;obtain⟨ws,rfl,g⟩:=h1;exact⟨ws,rfl,aQ.dX (by rw[g.length,CU]) λ_ _ _ _ _=>trivial⟩
  |false=>simp only[bL,ch]at h1 ⊢;obtain⟨c,rfl,g,_⟩:=h1;exact⟨nY r x j c,by simp[ja],g,trivial⟩
def ah4{x:RV}{r:aO}{v:aJ}(h:bO lY v x.v):bO lY v (x.gD r):=by
 unfold RV.gD;cases a:x.v with
 |one c=>rw[a]at h;exact⟨h.1,trivial⟩|agg cs=>rw[a]at h;let⟨ws,h1,h2⟩:=h;exact⟨ws,h1,aQ.dX (by rw[h2.length,CU]) λ_ _ _ _ _=>trivial⟩
 |bw vs=>rw[a]at h;let⟨ws,h1,h2⟩:=h;exact⟨ws,h1,Xa r x 0 h2⟩
 |undef=>trivial
theorem aY.gD(h:aY K β ω Z s a w){r:aO}{v:aJ}(hv:bO (aR K β Z s a w) v (s r).v)(k:∀j,cK K β a w r j=(eB v)[j]?):bO (aR K β Z s a w) v ((s r).gD r)∧(∀c∈((s r).gD r).cells,cQ c):=by
 constructor;refine bO.of_flat (ah4 hv.shape) λl=>?_;have g:(s r).v≠.undef:=λe=>l (by simp[RV.gD,e]);have i:=hv.eB g;rw[Ij];refine aQ.dX (by rw[i.length,CU]) λj u c d f=>?_;rw[xx]at f;cases b:(s r).v.cells[j]? with|none=>grind|some c0=>rw[b]at f;simp only[Option.map_some,Nat.zero_add,Option.some.injEq]at f;subst f;let⟨m,h1,h2⟩:=i.aE b;rw[d]at h1;cases h1;exact h.nY b (by rw[k];exact d) h2
 grind [Ij,nO,xx,OE]
def OG{v:aJ}{d:D}(h:uB v=J d):hJ v=W∧bA w Z d v:=by unfold uB at h;split at h<;>first|(cases h;exact⟨rfl,rfl⟩)|(cases h;done)|skip;all_goals (cases h;exact⟨rfl,by simp[bA,Oj]⟩)
def Ik:∀{vs:M aJ}{ds:M D},lU vs=J ds→aQ (λu c=>aR K β Z s a w c u) vs (ds.map .d)|[],ds,h=>by simp[lU]at h;subst h;trivial|v::vs,ds,h=>by unfold lU at h;split at h;rename_i d b h1 h2;cases h;exact⟨(OG h1).2,Ik h2⟩;cases h
def iU(h:aY K β ω Z s a w){x:cF}{v:SV}{s':St}(b:(ev x).aD s=J (v,s')):s'=s∧bO (aR K β Z s a w) (adx a x) v∧(∀c∈v.cells,cQ c)∧v≠.undef:=by
 cases x with
 |tmp t=>
  simp only[ev,ax.aD]at b;have e:=h.gD (r:=.tmp t) (h.tmps t) (λ_=>rfl);have key:∀q:SV,(s (.tmp t)).v≠.undef→(ax.ret ((s (.tmp t)).gD (.tmp t))).aD s=J (v,s')→s'=s∧bO (aR K β Z s a w) (adx a (.tmp t)) v∧(∀c∈v.cells,cQ c)∧v≠.undef:=by intro _ j b;simp only[ax.aD,Option.some.injEq,gO]at b;obtain⟨rfl,rfl⟩:=b;refine⟨rfl,e.1,e.2,?_⟩;grind [RV.gD]
  cases k:(s (.tmp t)).v with|undef=>simp_all [ax.aD]|one c=>simp_all|agg c=>simp_all|bw c=>simp_all
 |const v0=>
  have one:∀d,uB v0=J d→(ax.ret (SV.one (.d d))).aD s=J (v,s')→s'=s∧bO (aR K β Z s a w) (adx a (.const v0)) v∧(∀c∈v.cells,cQ c)∧v≠.undef:=by intro d hd b;simp only[ax.aD,Option.some.injEq,gO]at b;obtain⟨rfl,rfl⟩:=b;let⟨h1,h2⟩:=OG (w:=w) (Z:=Z) hd;exact⟨rfl,⟨h1,h2⟩,by simp[SV.cells,cQ],by simp⟩
  cases v0 with
  |agg cs=>
   simp only[ev]at b;cases i:lU (T cs) with|none=>simp_all [ax.aD]|some ds=>rw[i]at b;simp only[ax.aD,Option.some.injEq,gO]at b;obtain⟨rfl,rfl⟩:=b;exact⟨rfl,⟨cs,rfl,Ik i⟩,by simp[SV.cells,cQ],by simp⟩
  |_=>simp only[ev]at b;split at b;rename_i d hd;exact one d hd b;simp[ax.aD]at b
 |func f=>simp only[ev,ax.aD,Option.some.injEq,gO]at b;obtain⟨rfl,rfl⟩:=b;exact⟨rfl,⟨rfl, #[],rfl,trivial⟩,by simp[SV.cells,cQ],by simp⟩
 |global g=>simp[ev,ax.aD]at b
def CV{α c:Type}(p:ax α)(f:α→ax c):∀(s:St),(p.bind f).aD s=(p.aD s).bind λx=>(f x.1).aD x.2:=by
 induction p with
 |ret a=>intro s;simp[ax.bind,ax.aD]
 |ai=>intro s;simp[ax.bind,ax.aD]
 |aE r k b=>intro s;simp[ax.bind,ax.aD,b]
 |put r x k b=>intro s;simp[ax.bind,ax.aD,b]
def aS{α a:Type}{p:ax α}{f:α→ax a}{s s':St}{y:a}(h:(p >>= f).aD s=J (y,s')):∃x b,p.aD s=J (x,b)∧(f x).aD b=J (y,s'):=by
 change (p.bind f).aD s=_ at h;rw[CV]at h;cases hp:p.aD s with
 |none=>rw[hp]at h;cases h
 |some x=>grind
theorem bg{α:Type}{x y:α}{s s':St}(h:(ax.ret x).aD s=J (y,s')):y=x∧s'=s:=by simp_all [ax.aD]
theorem cN{p:Prop}[Decidable p]{y:bV}{s s':St}(h:(bS p).aD s=J (y,s')):p∧s'=s:=by grind [bS,ax.aD]
def gE(h:aY K β ω Z s a w){x:cF}{c:C}{s':St}(b:(ed x).aD s=J (c,s')):s'=s∧hJ (adx a x)=W∧aR K β Z s a w c (adx a x)∧cQ c:=by
 let⟨v,d,h1,h2⟩:=aS b;obtain⟨rfl,hv,hn,_⟩:=iU h h1;cases v with
 |one e=>obtain⟨rfl,rfl⟩:=bg h2;exact⟨rfl,hv.1,hv.2,hn _ (by simp[SV.cells])⟩
 |_=>simp[zV,ax.aD]at h2
def Xb(h:aY K β ω Z s a w){r:aO}{j:Nat}{y:bV}{s':St}(f:(pb r j (s r)).aD s=J (y,s')):∃ω' Z',aY K β ω' Z' s' a w∧dD K β a ω Z s w ω' Z' s' w∧(∃e ys,(s' r).at j=.d (.sl e ys)∧((s r).at j=.ak e ys∨(s r).at j=.d (.sl e ys))):=by
 unfold pb at f;split at f;rename_i e ys g;simp only[eu,ax.aD,Option.some.injEq,gO]at f;obtain⟨_,rfl⟩:=f;have c:=jc g (by simp);have p:(s.set r {s r with v:=(s r).v.setCell j (.d (.sl e ys))} r).at j=.d (.sl e ys):=by grind [lR,uO,rA]
 let⟨x,m,q⟩:=h.cell c;let⟨n,o⟩:=aR.WT q;by_cases l:r.isArg=W;cases r with
 |bN i=>let⟨f1,f2⟩:=h.ah1 g m o;grind
 |tmp t=>simp[aO.isArg]at l|box k=>simp[aO.isArg]at l
 let⟨f1,f2,f3⟩:=h.WU (c':=.d (.sl e ys)) g (by simpa using l) (.inr rfl) m o (ω':=λb=>if b=n then O else ω b) (Z':=λb=>Z b∨b=n) (λb=>by simp) (λb u=>by simp[u]) (λ_=>by simp);grind;grind [bg,dD.refl];simp[ax.aD]at f
def pk(w:World)(Z:Nat→Prop)(e:Nat)(xs:M (M D))(u:aJ):Prop:=(ca e=I∧∃(a:ey)(cap:Nat),u=.slice (J a) (Y xs) cap∧a.spot=O∧Y xs≤cap∧dy w Z e xs a.block a.off)∨(ca e=W∧∃b,u=gS e b∧ej w Z e xs b)
def pk.iff{e:Nat}{xs:M (M D)}{u:aJ}:aR K β Z s a w (.ak e xs) u↔pk w Z e xs u:=by
 by_cases b:ca e=W;rw[aR.kG b];simp[pk,b];have b:ca e=I:=by simpa using b
 rw[aR.ju b];simp[pk,b]
theorem pk.mono{Z':Nat→Prop}(hZ:∀b,Z b→Z' b){e:Nat}{xs:M (M D)}{u:aJ}(h:pk w Z e xs u):pk w Z' e xs u:=by
 rcases h with⟨a,d,cap,h1,h2,h3,f⟩|⟨a,b,h1,h2⟩
 exact .inl ⟨a,d,cap,h1,h2,h3,dy.mono (λb c=>⟨rfl,hZ b c⟩) _ _ _ _ rfl f⟩;exact .inr ⟨a,b,h1,ej.mono (λb c=>⟨rfl,hZ b c⟩) _ _ _ rfl h2⟩
def Xc(h:aY K β ω Z s a w){r:aO}{j:Nat}(l:r.isArg=I){y:bV}{s':St}(d:(pZ r j (s r)).aD s=J (y,s'))(g:cT):
  ∃e ys u b ω',(s r).at j=.ak e ys∧cK K β a w r j=J u∧eH u=J b∧pk w Z e ys u∧
   aY K β ω' Z s' a w∧dD K β a ω Z s w ω' Z s' w∧ω' b=J g∧mA w e u∧lq K β s' a w b:=by
 unfold pZ at d
 split at d
 rename_i e ys f
 simp only[eu,ax.aD,Option.some.injEq,gO]at d
 obtain⟨_,rfl⟩:=d
 have c:=jc f (by simp)
 let⟨u,i,m⟩:=h.cell c
 let⟨b,k⟩:=aR.WT m
 let⟨f1,f2,f3⟩:=h.WU (c':=.bK) f l (.inl rfl) i k (ω':=λn=>if n=b then J g else ω n) (Z':=Z) (λb=>by simp) (λb o=>by simp[o]) (λp=>cO rfl p)
 exact⟨e,ys,u,b,_,f,i,k,pk.iff.1 m,f1,f2,by simp,(h.ak r j e ys u b l c i k).2,f3⟩
 simp[ax.aD]at d
def OH(h:aY K β ω Z s a w){r:aO}{j hv cv e k:Nat}(hm:ca e=I){xs:M (M D)}{u:aJ}(x:aR K β Z s a w (.bj r j hv cv e k xs) u)(h1:(s r).hv=hv)(h2:(s r).cv=cv)(q:(s r).at j≠.bK):
  ∃b cap,u=.slice (J b) (Y xs) cap∧b.spot=O∧Y xs≤cap∧(cap≠0→dy w Z e xs b.block b.off)∧
   ∃f l c ys,cK K β a w r j=J (.slice (J f) l c)∧ac6 b=ac6 f∧(b.off=f.off+k*e∨cap=0)∧b.off+cap*e≤f.off+c*e∧cap+k=c∧((s r).at j=.ak e ys∨(s r).at j=.d (.sl e ys))∧xs=(ys.drop k).take (Y xs):=by
 let⟨m,n,y,z,A,_,_,B⟩:=(aR.pj hm).1 x
 let⟨b,len,cap,f1,f2,f3,f4,C,f5,f6,f7,f8⟩:=B h1 q
 let⟨ys,f9,o⟩:=f8
 have f10:=o h2
 refine⟨m,n,y,z,A,λt=>?_,b,len,cap,ys,f1,f3,f4,?_,f5,f9,f10⟩
 rotate_left
 grind [Nat.add_mul]
 have p:m.off=b.off+k*e:=f4.resolve_right t
 have i:dy w Z e ys b.block b.off:=by
  rcases f9 with f9|f9
  let⟨u2,E,g⟩:=h.cell (jc f9 (by simp));grind [aR.ju];let⟨u2,E,g⟩:=h.cell (jc f9 (by simp));let⟨F,v,G,_,_,H⟩:=(bA.ik hm).1 g;grind
 rw[f10,f3,p]
 exact(i.drop k).take _
theorem OI(h:aY K β ω Z s a w){r:aO}{j hv cv e k:Nat}(hm:ca e=I){xs:M (M D)}{u:aJ}(f:aR K β Z s a w (.bj r j hv cv e k xs) u)(h1:(s r).hv=hv)(h2:(s r).cv=cv)(d:(s r).at j≠.bK):∃c cap,u=.slice (J c) (Y xs) cap∧c.spot=O∧Y xs≤cap∧dy w Z e xs c.block c.off:=by let⟨c,cap,g,i,l,m,_⟩:=OH h hm f h1 h2 d;refine⟨c,cap,g,i,l,?_⟩;by_cases b:cap=0;subst b;have:xs=[]:=List.length_eq_zero_iff.1 (by omega);subst this;trivial;exact m b
def ah5(h:aY K β ω Z s a w){r:aO}{j hv cv e k:Nat}(hm:ca e=W){xs:M (M D)}{u:aJ}(g:aR K β Z s a w (.bj r j hv cv e k xs) u)(h1:(s r).hv=hv)(h2:(s r).cv=cv)(f:(s r).at j≠.bK):∃b,u=gS e b∧cK K β a w r j=J (gS e b)∧((s r).at j=.ak e xs∨(s r).at j=.d (.sl e xs))∧ej w Z e xs b:=by
 let⟨b,i,_,_,l⟩:=(aR.rz hm).1 g;let⟨f1,ys,f2,f3⟩:=l h1 f;have:=f3 h2;subst this;refine⟨b,i,f1,f2,?_⟩;rcases f2 with f2|f2
 let⟨u2,m,c⟩:=h.cell (jc f2 (by simp));grind [aR.kG,CN];let⟨u2,m,c⟩:=h.cell (jc f2 (by simp));let⟨n,o,_,p⟩:=(bA.n7 hm).1 c;grind [CN]
def Il(h:aY K β ω Z s a w){r:aO}{j hv cv e k:Nat}{xs:M (M D)}{u:aJ}(q:aR K β Z s a w (.bj r j hv cv e k xs) u)(h1:(s r).hv=hv)(h2:(s r).cv=cv)(f:(s r).at j≠.bK):
  ∃ys m t,((s r).at j=.ak e ys∨(s r).at j=.d (.sl e ys))∧cK K β a w r j=J m∧eH m=J t∧eH u=J t∧pk w Z e xs u∧(mA w e m→mA w e u)∧
   ∀Z':Nat→Prop,(∀b,Z b→Z' b)→(Live m→Z' t)→bA w Z' (.sl e xs) u:=by
 by_cases c:ca e=W
 obtain⟨b,rfl,n,o,g⟩:=ah5 h c q h1 h2 f
 exact⟨xs,_,b,o,n,lW ..,lW ..,.inr ⟨c,b,rfl,g⟩,id,λZ' hZ v=>(bA.n7 c).2 ⟨b,rfl,v (WS ..),ej.mono (λb x=>⟨rfl,hZ b x⟩) _ _ _ rfl g⟩⟩
 have c:ca e=I:=by simpa using c
 obtain⟨p,cap,rfl,n,o,g⟩:=OI h c q h1 h2 f
 let⟨B,z,f1,_,_,_,y,A,i,ys,f2,f3,f4,f5,f6,f7,f8⟩:=OH h c q h1 h2 f
 cases f1
 refine⟨ys,_,ac6 y,f7,f2,rfl,by rw[←f3];rfl,.inl ⟨c,p,cap,rfl,n,o,g⟩,λC=>?_,λZ' hZ v=>(bA.ik c).2 ⟨p,cap,rfl,?_,o,dy.mono (λb x=>⟨rfl,hZ b x⟩) _ _ _ _ rfl g⟩⟩
 show Wr w p.block (p.off+cap*e)
 rw[f3]
 exact Wr.mono C rfl f5
 by_cases l:cap=0
 exact .inl l
 exact .inr ⟨n,by rw[f3];exact v (show i≠0 by omega)⟩
end
section
variable{K:dh}{β:aC→Option Nat}{ω:Nat→Option cT}{Z:Nat→Prop}{s:St}{a:Act}{w:World}
def xy{x:RV}{j e:Nat}{ys:M (M D)}(h:x.at j=.ak e ys):x.at j≠.bK:=by rw[h];simp
def ah6{x:RV}{j:Nat}{d:D}(h:x.at j=.d d):x.at j≠.bK:=by rw[h];simp
def aY.frozen(h:aY K β ω Z s a w){r:aO}{j e:Nat}{ys:M (M D)}(l:(s r).at j=.d (.sl e ys)){f:aJ}{b0:Nat}(m:cK K β a w r j=J f)(g:eH f=J b0):Live f→Z b0:=by let⟨u,h1,c⟩:=h.cell (jc l (by simp));rw[m]at h1;cases h1;by_cases i:ca e=W;obtain⟨b,rfl,h2,_⟩:=(bA.n7 i).1 c;simp_all [lW];obtain⟨n,k,rfl,h3,_⟩:=(bA.ik (by simpa using i)).1 c;simp only[eH,Option.some.injEq]at g;subst g;exact λo=>(adQ h3 o).2
theorem OJ(h:aY K β ω Z s a w){self:aO×Nat}{take:aO→az}{c c':C}{u:aJ}{s':St}(g:aR K β Z s a w c u)(i:cQ c) (d:(nZ (J self) take c).aD s=J (c',s')):∃ω' Z',aY K β ω' Z' s' a w∧dD K β a ω Z s w ω' Z' s' w∧lr K β ω' Z' s' a w self.1 self.2 c' u:=by
 have t:c'=c→s'=s→∃ω' Z',aY K β ω' Z' s' a w∧dD K β a ω Z s w ω' Z' s' w∧lr K β ω' Z' s' a w self.1 self.2 c' u:=by rintro rfl rfl;exact⟨ω,Z,h,dD.refl,lr.Ag i g⟩
 cases c with
 |bj r j hv cv e k xs=>
  simp only[nZ]at d;split at d;grind [bg];rename_i x;have o:r.isArg=I:=by simpa using x
  simp only[ax.aD]at d;let⟨_,G,h1,d⟩:=aS d;obtain⟨⟨l,m⟩,rfl⟩:=cN h1;split at d;rename_i v n f;let⟨ys,y,A,f7,f2,f3,f4,f5,f6,f8⟩:=Il h g l m (xy f);have p:v=e∧n=ys:=by grind
  obtain⟨rfl,rfl⟩:=p;split at d;let⟨_,B,h2,d⟩:=aS d;obtain⟨rfl,rfl⟩:=bg d;let⟨H,D,N,P,ω',t1,t2,t3,t4,t6,t7,t8,t9,t10⟩:=Xc h o h2 (self.1,J self.2);rw[f]at t1;cases t1;rw[t2]at f2;cases f2;rw[t3]at f3;cases f3;refine⟨ω',Z,t6,t7,pk.iff.2 f5,λe E b R S=>?_⟩;grind;let⟨_,B,h2,d⟩:=aS d;obtain⟨rfl,rfl⟩:=bg d;let⟨ω',Z',t1,t2,T,F,t3,t4⟩:=Xb h h2;refine⟨ω',Z',t1,t2,lr.Ag (by simp[cQ]) ?_⟩;exact f8 Z' (λb q=>t2.z b q) (t1.frozen t3 (by rw[t2.cK];exact f2) f3);rename_i v n f;obtain⟨rfl,rfl⟩:=bg d;let⟨ys,y,A,f7,f2,f3,f4,f5,f6,f8⟩:=Il h g l m (ah6 f);refine⟨ω,Z,h,dD.refl,lr.Ag (by simp[cQ]) ?_⟩;exact f8 Z (λb q=>q) (h.frozen f f2 f3);simp[ax.aD]at d
 |ak e xs=>exact cO rfl (i e xs)|bK=>simp[nZ,ax.aD]at d|_=>grind [nZ,bg]
def ah7{self:Option (aO×Nat)}{take:aO→az}{c c':C}{s s':St}(a:(nZ self take c).aD s=J (c',s')):c≠.bK:=by rintro rfl;simp[nZ,ax.aD]at a
def Xd{mk:Nat→aO×Nat}{take:aO→az}:∀{cs cs':M C}{i:Nat}{s s':St},(pc mk take i cs).aD s=J (cs',s')→∀c∈cs,c≠.bK
 |[],_,_,_,_,_,_,h=>by simp at h|c::cs,cs',i,s,s',a,x,b=>by
  simp only[pc]at a;let⟨c1,e,h1,a⟩:=aS a;let⟨d,f,h2,a⟩:=aS a;rcases jQ.1 b with rfl|b
  exact ah7 h1;exact Xd h2 x b
def il(K:dh)(β:aC→Option Nat)(ω:Nat→Option cT)(Z:Nat→Prop)(s:St)(a:Act)(w:World)(mk:Nat→aO×Nat):Nat→M aJ→M C→Prop|_,[],[]=>dK|i,u::us,c::cs=>lr K β ω Z s a w (mk i).1 (mk i).2 c u∧il K β ω Z s a w mk (i+1) us cs|_,_,_=>jn
theorem il.lift{ω':Nat→Option cT}{Z':Nat→Prop}{s':St}{w':World}(b:aY K β ω Z s a w)(k:dD K β a ω Z s w ω' Z' s' w'){mk:Nat→aO×Nat}:∀{i:Nat}{us:M aJ}{cs:M C},il K β ω Z s a w mk i us cs→il K β ω' Z' s' a w' mk i us cs|_,[],[],_=>trivial|_,_::_,_::_,h=>⟨k.Ot b h.1,il.lift b k h.2⟩
def il.all{mk:Nat→aO×Nat}:∀{i:Nat}{us:M aJ}{cs:M C},il K β ω Z s a w mk i us cs→aQ (λu c=>aR K β Z s a w c u) us cs|_,[],[],_=>trivial|_,_::_,_::_,h=>⟨h.1.1,il.all h.2⟩
theorem il.aE{mk:Nat→aO×Nat}:∀{i j:Nat}{us:M aJ}{cs:M C}{c:C}{u:aJ},il K β ω Z s a w mk i us cs→cs[j]?=J c→us[j]?=J u→lr K β ω Z s a w (mk (i+j)).1 (mk (i+j)).2 c u|_,_,[],[],_,_,_,h,_=>by simp at h|i,0,u::us,c::cs,e,f,h,b,d=>by simp only[iA,Option.some.injEq]at b d;subst b;subst d;exact h.1|i,j+1,u::us,c::cs,e,f,h,b,d=>by have:=il.aE (j:=j) h.2 (by simpa using b) (by simpa using d);grind
theorem il.append{mk:Nat→aO×Nat}:∀{i:Nat}{us b:M aJ}{cs cs':M C},il K β ω Z s a w mk i us cs→il K β ω Z s a w mk (i+Y us) b cs'→il K β ω Z s a w mk i (us++b) (cs++cs')|_,[],_,[],_,_,h=>by simpa using h|i,u::us,b,c::cs,cs',h,k=>⟨h.1,il.append h.2 (by grind)⟩
def Im{mk:Nat→aO×Nat}{take:aO→az}:∀(cs:M C)(i:Nat)(us:M aJ)(ω:Nat→Option cT)(Z:Nat→Prop)(s s':St)(cs':M C),aY K β ω Z s a w→aQ (λu c=>aR K β Z s a w c u) us cs→(∀c∈cs,cQ c)→(pc mk take i cs).aD s=J (cs',s')→∃ω' Z',aY K β ω' Z' s' a w∧dD K β a ω Z s w ω' Z' s' w∧il K β ω' Z' s' a w mk i us cs':=by
 intro cs;induction cs with
 |nil=>
  intro i us ω Z s s' cs' h b _ d;obtain⟨rfl,rfl⟩:=bg d;cases us with|nil=>exact⟨ω,Z,h,dD.refl,trivial⟩|cons u us=>exact ab1 b
 |cons c cs o=>
  intro i us ω Z s s' cs' h b g d;cases us with|nil=>exact ab1 b|cons u us=>simp only[pc]at d;let⟨c1,p,h1,d⟩:=aS d;let⟨j,B,h2,d⟩:=aS d;obtain⟨rfl,rfl⟩:=bg d;let⟨k,q,n,k1,r⟩:=OJ h b.1 (g c (lf ..)) h1;have f:∀x∈cs,cQ x:=λx l=>g x (i7 _ l);let⟨m,t,v,k2,y⟩:=o (i+1) us k q p _ j n (b.2.kS λu c z A=>k1.ls h.dp (λe xs _ l _=>cO l (f c z e xs)) A) f h2;exact⟨m,t,v,k1.trans k2,k2.Ot n r,y⟩
def jv(K:dh)(β:aC→Option Nat)(ω:Nat→Option cT)(Z:Nat→Prop)(s:St)(a:Act)(w:World)(r:aO)(u:aJ)(v:SV):Prop:=bO (aR K β Z s a w) u v∧∀(j:Nat)(c:C)(x:aJ),v.cells[j]?=J c→(eB u)[j]?=J x→lr K β ω Z s a w r j c x
def jv.CW{r:aO}{u:aJ}{v:SV}(h:bO (aR K β Z s a w) u v)(b:∀c∈v.cells,cQ c):jv K β ω Z s a w r u v:=⟨h,λj c x d e=>lr.Ag (b c (fK d)) (by let⟨f,h1,h2⟩:=h.cell d;grind)⟩
def jv.Ai{r:aO}{u:aJ}{v:SV}(b:bO lY u v)(h:il K β ω Z s a w (λi=>(r,i)) 0 (eB u) v.cells):jv K β ω Z s a w r u v:=⟨bO.of_flat b λ_=>h.all,λj c x d e=>by have:=h.aE d e;simpa using this⟩
def aY.ah8(h:aY K β ω Z s a w){t:Nat}(c:t<K.N){u:aJ}{v:SV}(hv:jv K β ω Z s a w (.tmp t) u v):aY K β ω Z (s.set (.tmp t) {hv:=(s (.tmp t)).hv+1,cv:=(s (.tmp t)).cv,v}) (a.put (J t) u) w:=h.kh c hv.1 λj e xs i b d f g=>by have:=(hv.2 j _ _ d f).2 e xs b rfl g;grind
def ah9{r:aO}{take:aO→az}:∀(xs:M (az×M C))(i:Nat)(vs:M aJ)(ω:Nat→Option cT)(Z:Nat→Prop)(s s':St)(xs':M (az×M C)),aY K β ω Z s a w→aQ (eC (aR K β Z s a w)) vs xs→(∀c∈xs.flatMap (·.2),cQ c)→(xj (λi=>(r,i)) take i xs).aD s=J (xs',s')→∃ω' Z',aY K β ω' Z' s' a w∧dD K β a ω Z s w ω' Z' s' w∧il K β ω' Z' s' a w (λi=>(r,i)) i (vs.flatMap λv=>v.cells.toList) (xs'.flatMap (·.2))∧aQ (eC lY) vs xs':=by
 intro xs;induction xs with
 |nil=>
  intro i vs ω Z s s' t h f _ g;obtain⟨rfl,rfl⟩:=bg g;cases vs with|nil=>exact⟨ω,Z,h,dD.refl,trivial,trivial⟩|cons u us=>exact ab1 f
 |cons x xs H=>
  intro i vs ω Z s s' t h f l g;cases vs with
  |nil=>exact ab1 f|cons v vs=>
   let⟨b,cs⟩:=x;simp only[xj]at g;let⟨c1,D,h1,g⟩:=aS g;let⟨y,Y,h2,g⟩:=aS g;obtain⟨rfl,rfl⟩:=bg g;have N:=eC.eB f.1;simp only[mZ,nP]at l;let⟨z,P,R,k1,E⟩:=Im (mk:=λi=>(r,i)) (take:=take) cs i v.cells.toList ω Z s D c1 h N (λc m=>l c (.inl m)) h1;have j:∀c∈xs.flatMap (·.2),cQ c:=λc m=>l c (.inr m);let⟨A,S,T,k2,p2,V⟩:=H (i+cs.length) vs z P D _ y R (f.2.kS λv x X n=>by have q:∀c∈x.2,cQ c:=λc m=>j c (Hp.2 ⟨x,X,m⟩);unfold eC at n ⊢;split;rename_i B;simp only[B,bI]at n;let⟨ws,k,o⟩:=n;exact⟨ws,k,o.kS λu c m n=>k1.ls h.dp (λe xs _ p _=>cO p (q c m e xs)) n⟩;rename_i B;simp only[B]at n;let⟨c,k,o,F⟩:=n;exact⟨c,k,o,k1.ls h.dp (λe xs _ p _=>cO p (q c (by simp[k]) e xs)) F⟩) j h2;refine⟨A,S,T,k1.trans k2,?_,?_,V⟩;grind [il.append,il.lift,aQ.length];have h3:=f.1;unfold eC at h3 ⊢;cases b with
   |true=>simp only[bI]at h3 ⊢;let⟨ws,k,o⟩:=h3;refine⟨ws,k,aQ.dX ?_ λ_ _ _ _ _=>trivial⟩;have:=E.all.length;rw[k]at this;exact this
   |false=>
    simp only[bL,ch]at h3 ⊢;let⟨c,k,o,F⟩:=h3;have G:=E.all.length;rw[lX o]at G;match c1,G with|[d],_=>exact⟨d,rfl,o,trivial⟩
def Xe(h:aY K β ω Z s a w){r:aO}{take:aO→az}{v v':SV}{u:aJ}{s':St}(hv:bO (aR K β Z s a w) u v)(f:∀c∈v.cells,cQ c) (b:(nc r take v).aD s=J (v',s')):∃ω' Z',aY K β ω' Z' s' a w∧dD K β a ω Z s w ω' Z' s' w∧jv K β ω' Z' s' a w r u v':=by
 cases v with
 |one c=>simp only[nc]at b;let⟨c1,m,h1,b⟩:=aS b;obtain⟨rfl,rfl⟩:=bg b;let⟨d,j,k,k1,g⟩:=OJ h hv.2 (f c (by simp[SV.cells])) h1;exact⟨d,j,k,k1,jv.Ai ⟨hv.1,trivial⟩ (by rw[Af hv.1];exact⟨g,trivial⟩)⟩
 |agg cs=>simp only[nc]at b;let⟨c1,m,h1,b⟩:=aS b;obtain⟨rfl,rfl⟩:=bg b;obtain⟨ws,rfl,e⟩:=hv;let⟨d,j,k,k1,g⟩:=Im (mk:=λi=>(r,i)) (take:=take) cs 0 (T ws) ω Z s _ _ h e (λc l=>f c l) h1;exact⟨d,j,k,k1,jv.Ai ⟨ws,rfl,aQ.dX g.all.length λ_ _ _ _ _=>trivial⟩ g⟩
 |bw xs=>simp only[nc]at b;let⟨c1,m,h1,b⟩:=aS b;obtain⟨rfl,rfl⟩:=bg b;obtain⟨vs,rfl,e⟩:=hv;let⟨d,j,k,k1,g,n⟩:=ah9 (r:=r) (take:=take) xs 0 (T vs) ω Z s _ _ h e (λc l=>f c l) h1;exact⟨d,j,k,k1,jv.Ai ⟨vs,rfl,n⟩ g⟩
 |undef=>simp[nc,ax.aD]at b
def Xf(h:aY K β ω Z s a w){self:aO×Nat}{o:cF}{c c':C}{u:aJ}{s':St}(d:aR K β Z s a w c u)(b:cQ c) (g:(uH self o c).aD s=J (c',s')):∃ω' Z',aY K β ω' Z' s' a w∧dD K β a ω Z s w ω' Z' s' w∧lr K β ω' Z' s' a w self.1 self.2 c' u:=by
 have f:c'=c→s'=s→∃ω' Z',aY K β ω' Z' s' a w∧dD K β a ω Z s w ω' Z' s' w∧lr K β ω' Z' s' a w self.1 self.2 c' u:=by rintro rfl rfl;exact⟨ω,Z,h,dD.refl,lr.Ag b d⟩
 cases c with|bj r j hv cv e k xs=>grind [uH,OJ,bg]|ak e xs=>exact cO rfl (b e xs)|_=>grind [uH,bg]
def Xg{r:aO}{o:cF}:∀(cs:M C)(i:Nat)(us:M aJ)(ω:Nat→Option cT)(Z:Nat→Prop)(s s':St)(cs':M C),aY K β ω Z s a w→aQ (λu c=>aR K β Z s a w c u) us cs→(∀c∈cs,cQ c)→(uI r o i cs).aD s=J (cs',s')→∃ω' Z',aY K β ω' Z' s' a w∧dD K β a ω Z s w ω' Z' s' w∧il K β ω' Z' s' a w (λi=>(r,i)) i us cs':=by
 intro cs;induction cs with
 |nil=>
  intro i us ω Z s s' cs' h b _ d;obtain⟨rfl,rfl⟩:=bg d;cases us with|nil=>exact⟨ω,Z,h,dD.refl,trivial⟩|cons u us=>exact ab1 b
 |cons c cs p=>
  intro i us ω Z s s' cs' h b g d;cases us with|nil=>exact ab1 b|cons u us=>simp only[uI]at d;let⟨c1,q,h1,d⟩:=aS d;let⟨j,E,h2,d⟩:=aS d;obtain⟨rfl,rfl⟩:=bg d;let⟨k,t,n,k1,v⟩:=Xf h b.1 (g c (lf ..)) h1;have f:∀x∈cs,cQ x:=λx l=>g x (i7 _ l);let⟨m,y,z,k2,A⟩:=p (i+1) us k t q _ j n (b.2.kS λu c B D=>k1.ls h.dp (λe xs _ l _=>cO l (f c B e xs)) D) f h2;exact⟨m,y,z,k1.trans k2,k2.Ot n v,A⟩
def aia{r:aO}{o:cF}:∀(xs:M (az×M C))(i:Nat)(vs:M aJ)(ω:Nat→Option cT)(Z:Nat→Prop)(s s':St)(xs':M (az×M C)),aY K β ω Z s a w→aQ (eC (aR K β Z s a w)) vs xs→(∀c∈xs.flatMap (·.2),cQ c)→(xu r o i xs).aD s=J (xs',s')→∃ω' Z',aY K β ω' Z' s' a w∧dD K β a ω Z s w ω' Z' s' w∧il K β ω' Z' s' a w (λi=>(r,i)) i (vs.flatMap λv=>v.cells.toList) (xs'.flatMap (·.2))∧aQ (eC lY) vs xs':=by
 intro xs;induction xs with
 |nil=>
  intro i vs ω Z s s' y h f _ g;obtain⟨rfl,rfl⟩:=bg g;cases vs with|nil=>exact⟨ω,Z,h,dD.refl,trivial,trivial⟩|cons u us=>exact ab1 f
 |cons x xs N=>
  intro i vs ω Z s s' y h f l g;cases vs with
  |nil=>exact ab1 f|cons v vs=>
   let⟨b,cs⟩:=x;simp only[xu]at g;let⟨c1,E,h1,g⟩:=aS g;let⟨z,s2,h2,g⟩:=aS g;obtain⟨rfl,rfl⟩:=bg g;have P:=eC.eB f.1;simp only[mZ,nP]at l;let⟨A,R,S,k1,F⟩:=Xg (r:=r) (o:=o) cs i v.cells.toList ω Z s E c1 h P (λc m=>l c (.inl m)) h1;have j:∀c∈xs.flatMap (·.2),cQ c:=λc m=>l c (.inr m);let⟨B,T,V,k2,p2,X⟩:=N (i+cs.length) vs A R E _ z S (f.2.kS λv x Y n=>by have t:∀c∈x.2,cQ c:=λc m=>j c (Hp.2 ⟨x,Y,m⟩);unfold eC at n ⊢;split;rename_i D;simp only[D,bI]at n;let⟨ws,k,p⟩:=n;exact⟨ws,k,p.kS λu c m n=>k1.ls h.dp (λe xs _ q _=>cO q (t c m e xs)) n⟩;rename_i D;simp only[D]at n;let⟨c,k,p,G⟩:=n;exact⟨c,k,p,k1.ls h.dp (λe xs _ q _=>cO q (t c (by simp[k]) e xs)) G⟩) j h2;refine⟨B,T,V,k1.trans k2,?_,?_,X⟩;grind [il.append,il.lift,aQ.length];have h3:=f.1;unfold eC at h3 ⊢;cases b with
   |true=>simp only[bI]at h3 ⊢;let⟨ws,k,p⟩:=h3;refine⟨ws,k,aQ.dX ?_ λ_ _ _ _ _=>trivial⟩;have:=F.all.length;rw[k]at this;exact this
   |false=>
    simp only[bL,ch]at h3 ⊢;let⟨c,k,p,G⟩:=h3;have H:=F.all.length;rw[lX p]at H;match c1,H with|[d],_=>exact⟨d,rfl,p,trivial⟩
def Xh(h:aY K β ω Z s a w){r:aO}{o:cF}{v v':SV}{u:aJ}{s':St}(hv:bO (aR K β Z s a w) u v)(f:∀c∈v.cells,cQ c) (b:(lV r o v).aD s=J (v',s')):∃ω' Z',aY K β ω' Z' s' a w∧dD K β a ω Z s w ω' Z' s' w∧jv K β ω' Z' s' a w r u v':=by
 cases v with
 |one c=>simp only[lV]at b;let⟨c1,l,h1,b⟩:=aS b;obtain⟨rfl,rfl⟩:=bg b;let⟨d,i,j,k1,g⟩:=Xf h hv.2 (f c (by simp[SV.cells])) h1;exact⟨d,i,j,k1,jv.Ai ⟨hv.1,trivial⟩ (by rw[Af hv.1];exact⟨g,trivial⟩)⟩
 |agg cs=>simp only[lV]at b;let⟨c1,l,h1,b⟩:=aS b;obtain⟨rfl,rfl⟩:=bg b;obtain⟨ws,rfl,e⟩:=hv;let⟨d,i,j,k1,g⟩:=Xg (r:=r) (o:=o) cs 0 (T ws) ω Z s _ _ h e (λc k=>f c k) h1;exact⟨d,i,j,k1,jv.Ai ⟨ws,rfl,aQ.dX g.all.length λ_ _ _ _ _=>trivial⟩ g⟩
 |bw xs=>simp only[lV]at b;let⟨c1,l,h1,b⟩:=aS b;obtain⟨rfl,rfl⟩:=bg b;obtain⟨vs,rfl,e⟩:=hv;let⟨d,i,j,k1,g,m⟩:=aia (r:=r) (o:=o) xs 0 (T vs) ω Z s _ _ h e (λc k=>f c k) h1;exact⟨d,i,j,k1,jv.Ai ⟨vs,rfl,m⟩ g⟩
 |undef=>simp[lV,ax.aD]at b
def CX(h:aY K β ω Z s a w){c:C}{d:D}{u:aJ}{s':St}(g:aR K β Z s a w c u)(f:(mq c).aD s=J (d,s')):∃ω' Z',aY K β ω' Z' s' a w∧dD K β a ω Z s w ω' Z' s' w∧bA w Z' d u:=by
 cases c with
 |d x=>obtain⟨rfl,rfl⟩:=bg f;exact⟨ω,Z,h,dD.refl,g⟩
 |bj r j hv cv e k xs=>
  simp only[mq,ax.aD]at f;let⟨_,n,h1,f⟩:=aS f;obtain⟨⟨i,l⟩,rfl⟩:=cN h1;let⟨_,q,h2,f⟩:=aS f;obtain⟨rfl,rfl⟩:=bg f;let⟨ω',Z',t1,t2,t,o,t3,t4⟩:=Xb h h2;have m:(n r).at j≠.bK:=by rcases t4 with t4|t4<;>(rw[t4];simp)
  let⟨ys,v,y,f7,f2,f3,f4,f5,f6,f8⟩:=Il h g i l m;exact⟨ω',Z',t1,t2,f8 Z' (λb p=>t2.z b p) (t1.frozen t3 (by rw[t2.cK];exact f2) f3)⟩
 |_=>simp[mq,ax.aD]at f
def DL(w:World)(Z:Nat→Prop):M aJ→M D→Prop:=λus ds=>aQ (λu d=>bA w Z d u) us ds
def Io:∀(cs:M C)(us:M aJ)(ω:Nat→Option cT)(Z:Nat→Prop)(s s':St)(ds:M D),aY K β ω Z s a w→aQ (λu c=>aR K β Z s a w c u) us cs→(∀c∈cs,cQ c)→(pd cs).aD s=J (ds,s')→∃ω' Z',aY K β ω' Z' s' a w∧dD K β a ω Z s w ω' Z' s' w∧DL w Z' us ds:=by
 intro cs;induction cs with
 |nil=>
  intro us ω Z s s' ds h d _ f;obtain⟨rfl,rfl⟩:=bg f;cases us with|nil=>exact⟨ω,Z,h,dD.refl,trivial⟩|cons u us=>exact ab1 d
 |cons c cs n=>
  intro us ω Z s s' ds h d i f;cases us with|nil=>exact ab1 d|cons u us=>simp only[pd]at f;let⟨c1,o,h1,f⟩:=aS f;let⟨j,F,h2,f⟩:=aS f;obtain⟨rfl,rfl⟩:=bg f;let⟨k,p,q,k1,r⟩:=CX h d.1 h1;have g:∀x∈cs,cQ x:=λx l=>i x (i7 _ l);let⟨m,t,v,k2,y⟩:=n us k p o _ j q (d.2.kS λu c A B=>k1.ls h.dp (λe xs _ l _=>cO l (g c A e xs)) B) g h2;exact⟨m,t,v,k1.trans k2,bA.mono (λb E=>⟨rfl,k2.z b E⟩) _ _ r,y⟩
def Xi(h:aY K β ω Z s a w){e:Nat}{c:C}{xs:M (M D)}{u:aJ}{s':St}(d:aR K β Z s a w c u)(b:(mr e c).aD s=J (xs,s')):s'=s∧((u=.slice O 0 0∧xs=[])∨∃f cap,u=.slice (J f) (Y xs) cap∧(cap=0∨f.spot=O)∧Y xs≤cap∧dy w Z e xs f.block f.off):=by unfold mr at b;split at b;obtain⟨rfl,rfl⟩:=bg b;exact⟨rfl,.inl ⟨d,rfl⟩⟩;rename_i n ys;let⟨_,o,h1,g⟩:=aS b;let⟨⟨i,p⟩,l⟩:=cN h1;let⟨q,m⟩:=bg g;subst l;subst q;subst m;subst i;let⟨f,cap,t,v,x,y⟩:=(bA.ik p).1 d;grind;rename_i r j hv cv n k ys;simp only[ax.aD]at b;let⟨_,o,h1,g⟩:=aS b;grind [cN,bg,alive,OI];simp[ax.aD]at b
end
section types
variable{P:Program}{w:World}{t:TypeId}{i:TI}
def sO(h:kR P t=J i):∃info d,P.info? t=J info∧acK P t=J d∧i.size=info.size∧i.bytes=info.bytes∧i.kind=tk d∧i.zero=info.zero.bind (HX i.kind.agg):=by grind [kR]
def xA(h:kR P t=J i):∃info,(typeInfo t).run P w=.ok info w∧info.size=i.size∧info.bytes=i.bytes∧i.zero=info.zero.bind (HX i.kind.agg):=by
 let⟨info,d,h1,h2,h3,a,c,b⟩:=sO h;refine⟨info,?_,h3.symm,a.symm,b⟩;show(match P.info? t with|some i=>(pure i:Sem TypeInfo)|none=>stuck "no such type").run P w=_
 rw[h1];rfl
def lu(h:kR P t=J i):(sizeOf t).run P w=.ok i.size w:=by let⟨info,h1,h2,_⟩:=xA (w:=w) h;simp[sizeOf,h1,h2]
def fe(h:kR P t=J i):∃d,acK P t=J d∧tk d=i.kind∧(underlying t).run P w=.ok d w:=by
 let⟨info,d,h1,h2,h3,b,a,c⟩:=sO h;refine⟨d,h2,a.symm,?_⟩;show(match acK P t with|some d=>(pure d:Sem o6)|none=>stuck "no such type").run P w=_
 rw[h2];rfl
def Ip(h:kR P t=J i):(isAgg t).run P w=.ok i.kind.agg w:=by let⟨d,_,h1,h2⟩:=fe (w:=w) h;simp only[isAgg,dC,h2,dF,←h1];cases d<;>rfl
def OL(h:kR P t=J i){z:M D}(b:i.zero=J z):∃v,(zeroValue t).run P w=.ok v w∧lU (T v.cells)=J z∧HW v=i.kind.agg:=by
 let⟨info,h1,h2,h3,a⟩:=xA (w:=w) h;rw[b]at a;cases hv:info.zero with
 |none=>rw[hv]at a;cases a
 |some v=>rw[hv]at a;simp only[Option.bind_some,HX]at a;split at a;rename_i c;exact⟨v,by simp[zeroValue,h1,hv],a.symm,c⟩;cases a
def xB(h:kR P t=J i){z:M D}(a:i.zero=J z):∃v,(zeroValue t).run P w=.ok v w∧lU (T v.cells)=J z:=by let⟨v,h1,h2,_⟩:=OL (w:=w) h a;exact⟨v,h1,h2⟩
def oh{d:o6}{e:TypeId}(h:tk d=.slice e):d=.slice e:=by cases d<;>simp[tk]at h;rw[h]
def CY{d:o6}{fs:M (Nat×TypeId)}(h:tk d=.struct fs):∃fields:bW Field,d=.struct fields∧fs=(T fields).map λf=>(adV f,f.type):=by cases d<;>simp[tk]at h;grind
def Iq{d:o6}{n:Nat}{e:TypeId}(h:tk d=.array n e):d=.array n e:=by cases d<;>simp[tk]at h;rw[h.1,h.2]
def sP{d:o6}(h:tk d=.bh):d=.string:=by cases d<;>simp[tk]at h;rfl
def xC{d:o6}{k:mX}(h:tk d=.int k):d=.int k:=by cases d<;>simp[tk]at h;rw[h]
def OM{d:o6}(h:tk d=.bool):d=.bool:=by cases d<;>simp[tk]at h;rfl
end types
section
variable{K:dh}{β:aC→Option Nat}{ω:Nat→Option cT}{Z:Nat→Prop}{s:St}{a:Act}{w:World}
def qd:∀{vs:M aJ}{ds:M D},lU vs=J ds→DL w Z vs ds|[],ds,h=>by simp[lU]at h;subst h;trivial|v::vs,ds,h=>by unfold lU at h;split at h;rename_i d a h1 h2;cases h;exact⟨(OG h1).2,qd h2⟩;cases h
theorem xD{d:D}{u:aJ}(h:bA w Z d u):hJ u=W:=by
 cases d<;>simp only[bA]at h;subst h;rfl;subst h;rfl;subst h;rfl;subst h;rfl;split at h;obtain⟨a,cap,rfl,_⟩:=h;rfl;grind [Ol];rename_i k;cases k<;>simp only[Oj]at h<;>(subst h;rfl);rename_i ps;cases ps with|nil=>exact(show u=.nilIface from h)▸rfl|cons p ps=>obtain⟨b,rfl,_⟩:=h;rfl
theorem CZ{c:C}{u:aJ}(h:aR K β Z s a w c u)(g:c≠.bK):hJ u=W:=by
 cases c with
 |d x=>exact xD h|ak e xs=>simp only[aR]at h;split at h;obtain⟨l,cap,rfl,_⟩:=h;rfl;grind [Ol]
 |bj r j hv cv e k xs=>simp only[aR]at h;split at h;grind [Ol];obtain⟨l,cap,rfl,_⟩:=h;rfl
 |ea r j hv e i off=>obtain⟨b,o,rfl,_⟩:=h;rfl
 |da xs=>obtain⟨b,o,rfl,_⟩:=h;rfl
 |aW k off=>obtain⟨b,_,rfl⟩:=h;rfl
 |dj f caps=>obtain⟨vs,rfl,_⟩:=h;rfl
 |bK=>exact cO rfl g
theorem Xj{e:Nat}{xs:M (M D)}{b:ey}{len cap:Nat}(h:aR K β Z s a w (.ak e xs) (.slice (J b) len cap)):ca e=I:=by grind [aR.kG,WM]
def aib{e:Nat}{xs:M (M D)}{f:ey}{len cap:Nat}(h:aR K β Z s a w (.d (.sl e xs)) (.slice (J f) len cap)):ca e=I:=by by_cases c:ca e=W;let⟨b,h1,_⟩:=(bA.n7 c).1 h;exact(WM h1).elim;simpa using c
def C0{i:TI}{cs:M C}{off:Nat}{v:SV}{s':St}(a:(mv i cs off).aD s=J (v,s')):s'=s∧0<i.size∧off+i.size≤Y cs∧((i.kind.agg=W∧v=.agg ((cs.drop off).take i.size))∨(i.kind.agg=I∧∃c,cs[off]?=J c∧c≠.bK∧v=.one c)):=by simp only[mv]at a;let⟨_,d,h1,b⟩:=aS a;grind [cN,ax.aD]
def cells_of_cell?{b o:Nat}{v:aJ}(h:ve w ⟨b,o,O⟩=J v):∃ws el fz,w.heap[b]?=J (.cells ws el fz)∧ws[o]?=J v:=by grind [World.cell?]
def ON{P:Program}{t:TypeId}{i:TI}(n:kR P t=J i){b o off:Nat}{cs:M C}{us:M aJ}(f:aQ (λu c=>aR K β Z s a w c u) us cs)(p:∀c∈cs,cQ c) {v:SV}{s':St}(z:(mv i cs off).aD s=J (v,s'))(d:∀j,j<Y us→ve w ⟨b,o+j,O⟩=us[j]?):∃u,(loadVar t ⟨b,o+off,O⟩).run P w=.ok u w∧bO (aR K β Z s a w) u v∧(∀c∈v.cells,cQ c):=by
 obtain⟨rfl,r,A,h⟩:=C0 z;have F:=f.length;have e:=d (off+i.size-1) (by omega);rw[eM (by omega)]at e;let⟨ws,el,fz,B,D⟩:=cells_of_cell? e;have E:∀j,j<Y us→ws[o+j]?=us[j]? :=by simp_all [World.cell?]
 rcases h with⟨hk,rfl⟩|⟨hk,c,m,q,rfl⟩
 simp only[loadVar,dC,Ip n,dF,hk,bI,lu n];have g:o+off+i.size≤ws.size:=by grind
 rw[Ow B g];refine⟨.agg (ws.extract (o+off) (o+off+i.size)),by simp,⟨_,rfl,?_⟩,λc m=>p c (List.mem_of_mem_drop (List.mem_of_mem_take m))⟩;have:T (ws.extract (o+off) (o+off+i.size))=(us.drop off).take i.size:=by apply uj;grind
 rw[this];exact(f.drop off).take _;let⟨u,x,k⟩:=f.aE m;have g:off<Y us:=(iO.1 x).1;have l:=d off g;rw[x]at l;have y:=fK m;refine⟨u,?_,⟨CZ k q,k⟩,by simp_all [SV.cells]⟩;simp[loadVar,Ip n,hk,l]
theorem fB.us:∀{ds:M D}{b o:Nat},fB w Z ds b o→∃us,DL w Z us ds∧∀j,j<Y us→ve w ⟨b,o+j,O⟩=us[j]?|[],_,_,_=>⟨[],trivial,by simp⟩|d::ds,b,o,h=>by let⟨⟨v,h1,h2⟩,h3⟩:=h;let⟨us,a,c⟩:=fB.us h3;refine⟨v::us,⟨h2,a⟩,λj e=>?_⟩;grind
theorem DL.map:∀{us:M aJ}{ds:M D},DL w Z us ds→aQ (λu c=>aR K β Z s a w c u) us (ds.map .d)|[],[],_=>trivial|_::_,_::_,h=>⟨h.1,DL.map h.2⟩
def cR(K:dh)(s':St)(a:Act)(dst:Nat)(r:Result Next)(v:SV):Prop:=∃u w' b ω' Z',r=.ok (.value u) w'∧aY K b ω' Z' s' a w'∧jv K b ω' Z' s' a w' (.tmp dst) u v
theorem cR.same(h:aY K β ω Z s a w){dst:Nat}{r:Result Next}{u:aJ}{v:SV}(d:r=.ok (.value u) w)(hv:bO (aR K β Z s a w) u v)(b:∀c∈v.cells,cQ c):cR K s a dst r v:=⟨u,w,β,ω,Z,d,h,jv.CW hv b⟩
theorem cR.d(h:aY K β ω Z s a w){dst:Nat}{r:Result Next}{u:aJ}{d:D}(b:r=.ok (.value u) w)(hv:bA w Z d u):cR K s a dst r (.one (.d d)):=cR.same h b ⟨CZ (K:=K) (β:=β) (s:=s) (a:=a) (c:=.d d) hv (by simp),hv⟩ (by simp[SV.cells,cQ])
def Xk(h:aY K β ω Z s a w){t:TypeId}{i:TI}(T:kR K.P t=J i){c:C}{u:aJ}{v:SV}{s':St}(A:aR K β Z s a w c u)(m:(sH i c).aD s=J (v,s')):s'=s∧∃x,(Cl t u).run K.P w=.ok x w∧bO (aR K β Z s a w) x v∧(∀c∈v.cells,cQ c):=by
 unfold sH at m;split at m;rename_i k off;simp only[ax.aD]at m;split at m;rename_i cs z;obtain⟨b,ws,el,lo,hi,g1,g2,g3,g4,g5⟩:=ek.cell h z;obtain⟨b',f1,rfl⟩:=A;rw[f1]at g1;cases g1;have N:aQ (λu c=>aR K β Z s a w c u) ws.toList (ja (.box k) (s (.box k)) 0 cs):=by
  refine aQ.dX (by rw[g5.length,CU]) λj u c hu R=>?_;rw[xx]at R;cases B:cs[j]? with|none=>grind|some c0=>rw[B]at R;simp only[Option.map_some,Nat.zero_add,Option.some.injEq]at R;subst R;obtain⟨u',h1,h2⟩:=g5.aE B;rw[hu]at h1;cases h1;exact h.nY (by rw[z];exact B) (by rw[nk f1 g3];exact hu) h2
 have V:∀c∈ja (.box k) (s (.box k)) 0 cs,cQ c:=by grind [nO,xx,OE]
 obtain⟨x,h1,h2,h3⟩:=ON (P:=K.P) T (b:=b) (o:=0) N V m (λj hj=>by simp[World.cell?,g3]);refine⟨(C0 m).1,x,?_,h2,h3⟩;simpa[Cl,wU]using h1;simp[ax.aD]at m;rename_i r j hv e n off;simp only[ax.aD]at m;obtain⟨_,G,h1,qe⟩:=aS m;obtain⟨X,Y⟩:=cN h1;subst Y;obtain⟨b,o,rfl,_,g⟩:=A;have key:∀(H:Nat)(ys:M (M D)),((G r).at j=.ak H ys∨(G r).at j=.d (.sl H ys))→(match ys[n]? with|some ds=>mv i (ds.map .d) off|none=>ax.ai).aD G=J (v,s')→s'=G∧∃x,(Cl t (.pointer (J ⟨b,o,O⟩))).run K.P w=.ok x w∧bO (aR K β Z G a w) x v∧(∀c∈v.cells,cQ c):=by
  intro H ys f y;split at y;rename_i ds hds;have hal:(G r).at j≠.bK:=by rcases f with f|f<;>(rw[f];simp)
  obtain⟨S,len,cap,f1,f2,f3,f4,ys',f5⟩:=g X hal;have hee:H=e∧ys=ys':=by rcases f with f|f<;>rw[f]at f5<;>rcases f5 with f5|f5<;>cases f5<;>exact⟨rfl,rfl⟩
  obtain⟨rfl,rfl⟩:=hee;have E:dy w Z H ys S.block S.off:=by
   rcases f with f|f
   obtain⟨u2,e1,p⟩:=h.cell (jc f (by simp));grind [aR.ju,Xj];obtain⟨u2,e1,p⟩:=h.cell (jc f (by simp));rw[f1]at e1;cases e1;obtain⟨ad2,aid,e2,_,_,e3⟩:=(bA.ik (aib p)).1 p;cases e2;exact e3
  obtain⟨_,q⟩:=E.aE hds;obtain⟨us,F,l⟩:=q.us;obtain⟨x,h2,h3,h4⟩:=ON (P:=K.P) T (b:=ac6 S) (o:=S.off+n*H) F.map (by simp[cQ]) y l;refine⟨(C0 y).1,x,?_,h3,h4⟩;simp_all [Cl,wU];simp[ax.aD]at y
 grind [ax.aD];rename_i ds;obtain⟨b,o,rfl,hz,q⟩:=A;obtain⟨us,F,l⟩:=q.us;obtain⟨x,h2,h3,h4⟩:=ON (P:=K.P) T (b:=b) (o:=o) F.map (by simp[cQ]) m l;refine⟨(C0 m).1,x,?_,h3,h4⟩;simpa[Cl,wU]using h2;simp[ax.aD]at m
end
theorem aQ.eG{α β:Type}{R:α→β→Prop}{as us:M α}{a cs:M β}{off:Nat}(h:aQ R as a)(k:aQ R us cs):aQ R (Vs.eG as off us) (Vs.eG a off cs):=by unfold Vs.eG;rw[k.length];exact((h.take off).append k).append (h.drop _)
theorem Xl{α:Type}{l m:M α}{off:Nat}(h:off+m.length≤l.length):(eG l off m).length=l.length:=by simp only[eG,lg,ayA,List.length_drop];omega
theorem Aj{α:Type}{l m:M α}{off:Nat}(h:off+Y m≤Y l)(j:Nat):(eG l off m)[j]?=if off≤j∧j<off+Y m then m[j-off]? else l[j]? :=by grind [eG,ayA]
section
variable{K:dh}{β:aC→Option Nat}{ω:Nat→Option cT}{Z:Nat→Prop}{s:St}{a:Act}{w:World}
def xE{R:C→aJ→Prop}{u:aJ}{v:SV}{cs:M C}(hv:bO R u v)(a:v.fM=J cs):v.cells=cs∧aQ (λu c=>R c u) (T u.cells) cs:=by
 cases v with
 |one c=>simp only[SV.fM,Option.some.injEq]at a;subst a;exact⟨rfl,by rw[lX hv.1];exact⟨hv.2,trivial⟩⟩|agg ds=>simp only[SV.fM,Option.some.injEq]at a;subst a;obtain⟨ws,rfl,h⟩:=hv;exact⟨rfl,h⟩
 |bw x=>simp[SV.fM]at a|undef=>simp[SV.fM]at a
def Xm:∀{cs:M C}{ds:M D}{s s':St},(pd cs).aD s=J (ds,s')→∀c∈cs,c≠.bK
 |[],_,_,_,_,_,h=>by simp at h|c::cs,ds,s,s',a,x,b=>by
  simp only[pd]at a;let⟨c1,e,h1,a⟩:=aS a;let⟨d,f,h2,a⟩:=aS a;rcases jQ.1 b with rfl|b
  rintro rfl;simp[mq,ax.aD]at h1;exact Xm h2 x b
theorem Xn{P:ew}{t:bq}{i:TI}(d:kR P t=J i){b o:Nat}{u:aJ}(a:u.cells.size=i.size){w':World}(c:(storeCells ⟨b,o,O⟩ (T u.cells)).run P w=.ok () w'):(storeVar t ⟨b,o,O⟩ u).run P w=.ok () w':=by simp[storeVar,lu d,a,c]
def aie(h:aY K β ω Z s a w){t:bq}{i:TI}(ht:kR K.P t=J i){take:aO→az}{c:C}{ua u:aJ}{v:SV}{y:bV}{s':St}(hca:aR K β Z s a w c ua)(hv:bO (aR K β Z s a w) u v)(hno:∀c∈v.cells,cQ c) (X:(CA take i c v).aD s=J (y,s')):∃w' β' ω' Z',(ahx t ua u).run K.P w=.ok () w'∧aY K β' ω' Z' s' a w':=by
 unfold CA at X;split at X;rename_i k off cs Y;let⟨hcc,f⟩:=xE hv Y;let⟨_,s1,h1,qe⟩:=aS X;let⟨z,hs1⟩:=cN h1;subst hs1;clear X;let⟨G,s2,h2,l⟩:=aS qe;have hal:=Xd h2;let⟨Ir,Z1,H,k1,p1⟩:=Im (mk:=λn=>(.box k,off+n)) (take:=take) cs 0 _ ω Z s1 s2 G h f (λc hc=>hno c (by rw[hcc];exact hc)) h2;simp only[ax.aD]at l;split at l;rename_i old S;let⟨_,s3,h3,p⟩:=aS l;let⟨hle,hs3⟩:=cN h3;subst hs3;simp only[eu,ax.aD,Option.some.injEq,gO]at p;obtain⟨_,rfl⟩:=p;let⟨b,ws,el,lo,hi,g1,g2,g3,g4,g5⟩:=ek.cell H S;obtain⟨b',f1,rfl⟩:=hca;rw[f1]at g1;cases g1;have q:u.cells.toList.length=i.size:=by rw[f.length,z]
 have aif:u.cells.size=i.size:=by simpa using q
 have Xo:ws.size=old.length:=by simpa using g5.length
 let⟨w',iC,e1,A,e3⟩:=Ox (P:=K.P) (o:=off) u.cells.toList 0 w ws g3 g4 (by omega) (λx hx=>by
  let⟨j,hj⟩:=nO hx
  have N:j<cs.length:=by grind
  have Yw:=eM N
  let⟨u2,R,q2⟩:=f.aE Yw
  grind [CZ])
 have B:iC.toList=eG ws.toList off u.cells.toList:=by simpa using e3
 have xF:G.length=i.size:=by rw[←p1.all.length,q]
 have hall':aQ (λu c=>aR K β Z1 s3 a w c u) iC.toList (eG old off G):=by rw[B];exact g5.eG p1.all
 let⟨R,_⟩:=H.Oy (k:=k) (cs:=eG old off G) (w':=w') g2 (.inr f1) A.os A.tape A.output A.size A.other A.here (λo ho=>g4 o (by rw[←A.len];exact ho)) hall' (by intro j e xs u1 b1 hj hu xG;rw[B,Aj (by simp;omega)]at hu;rw[Aj (by omega)]at hj;rw[xF]at hj;rw[q]at hu;split at hj;rename_i hr;rw[aF hr]at hu;have:=(p1.aE hj hu).2 e xs b1 rfl xG;grind;rename_i hr;rw[aV hr]at hu;exact H.ak (.box k) j e xs u1 b1 rfl (by rw[S];exact hj) (by rw[nk f1 g3];exact hu) xG);grind [ahx,wU,Xn];simp[ax.aD]at l;rename_i r j lv e n off cs Y;let⟨hcc,f⟩:=xE hv Y;let⟨_,s1,h1,qe⟩:=aS X;let⟨z,hs1⟩:=cN h1;subst hs1;clear X;let⟨ds,s2,h2,l⟩:=aS qe;have hal:=Xm h2;let⟨Ir,Z1,H,k1,p1⟩:=Io cs _ ω Z s1 s2 ds h f (λc hc=>hno c (by rw[hcc];exact hc)) h2;have aig:=k1.ls h.dp (c:=.ea r j lv e n off) (by simp) hca;simp only[ax.aD]at l;let⟨_,s3,h3,p⟩:=aS l;let⟨⟨uP,qf⟩,hs3⟩:=cN h3;subst hs3;clear l;split at p;rename_i e0 ys D;split at p;rename_i bC T;let⟨_,s4,h4,Xp⟩:=aS p;let⟨hle,hs4⟩:=cN h4;subst hs4;simp only[eu,ax.aD,Option.some.injEq,gO]at Xp;obtain⟨_,rfl⟩:=Xp;obtain⟨b,o,rfl,_,g⟩:=aig;let⟨E,len,cap,f1,f2,f3,f4,ys',f5⟩:=g uP (xy D);have hee:e0=e∧ys=ys':=by grind
 obtain⟨rfl,rfl⟩:=hee;have V:ca e0=I:=by let⟨u2,e1,ay7⟩:=H.cell (jc D (by simp));grind [Xj]
 let⟨ad2,aid,R,q2,q3,q4⟩:=H.ownRow V D;rw[f1]at R;cases R;let⟨Is,ws,el,lo,hi,g3,g4,g5⟩:=H.ak r j e0 ys _ _ qf (jc D (by simp)) f1 rfl;let⟨hrl,hrr⟩:=q4.aE T;have hnl:n<ys.length:=(iO.1 T).1;have q:u.cells.toList.length=i.size:=by rw[f.length,z]
 have aif:u.cells.size=i.size:=by simpa using q
 have hdl:ds.length=i.size:=by rw[←p1.length,q]
 have hbound:E.off+n*e0+e0≤ws.size:=by
  have:n*e0+e0≤cap*e0:=by rw[←Nat.succ_mul];exact Nat.mul_le_mul_right _ (by omega)
  omega
 subst f3;subst f4;let⟨w',iC,e1,A,e3⟩:=Ox (P:=K.P) (o:=E.off+n*e0+off) u.cells.toList 0 w ws g3 g5 (by omega) (λx hx=>by
  let⟨j,hj⟩:=nO hx
  have N:j<cs.length:=by grind
  have Yw:=eM N
  let⟨u2,R,q2⟩:=f.aE Yw
  grind [CZ])
 have B:iC.toList=eG ws.toList (E.off+n*e0+off) u.cells.toList:=by simpa using e3
 have hnz:=(H.dZ _ _ Is).1;have hZ:∀b,Z1 b→w'.heap[b]?=w.heap[b]? ∧Z1 b:=λb hb=>⟨A.other b (λe=>hnz (e▸hb)),hb⟩;have F:∀x,ve w' ⟨ac6 E,x,O⟩=if E.off+n*e0+off≤x∧x<E.off+n*e0+off+i.size then(u.cells.toList)[x-(E.off+n*e0+off)]? else ve w ⟨ac6 E,x,O⟩:=by
  intro x;have:ve w' ⟨ac6 E,x,O⟩=iC.toList[x]? :=by simp[World.cell?,A.here]
  grind [Aj,World.cell?]
 have hrows:dy w' Z1 e0 (ys.set n (eG bC off ds)) E.block E.off:=by
  refine dy.dX λm x V=>?_;rw[zH]at V;by_cases hmn:n=m;subst hmn;simp only[bI,hnl]at V;cases V;refine⟨by simp_all [Xl],fB.dX λjj d hd=>?_⟩;rw[Aj (by omega)]at hd;rw[F];split at hd;rename_i hr;rw[aF (by omega)];let⟨u2,R,q2⟩:=p1.aE hd;grind [bA.mono];rename_i hr;rw[aV (by omega)];let⟨u2,R,q2⟩:=hrr.aE hd;grind [bA.mono];rw[aV hmn]at V;let⟨R,q2⟩:=q4.aE V;refine⟨R,fB.dX λjj d hd=>?_⟩;let⟨u2,q3,q4⟩:=q2.aE hd;have N:jj<e0:=by grind
  refine⟨u2,?_,bA.mono hZ _ _ q4⟩;rw[F,aV,q3];rintro ⟨h5,h6⟩;rcases Nat.lt_or_gt_of_ne hmn with hlt|hlt
  have:n*e0+e0≤m*e0:=by rw[←Nat.succ_mul];exact Nat.mul_le_mul_right _ hlt
  omega;have:m*e0+e0≤n*e0:=by rw[←Nat.succ_mul];exact Nat.mul_le_mul_right _ hlt
  omega
 have:=H.setRow V D qf f1 A g3 (by simp) hrows;grind [ahx,wU,Xn];simp[ax.aD]at p;simp[ax.aD]at p;simp[ax.aD]at X
end
def iL:D→aJ|.int k n=>.int k n|.bool b=>.bool b|.bh s=>.string ⟨abf s⟩|_=>.nilFunc
def sQ(ds:M D):aJ:=.agg (abf (ds.map iL))
def uQ{w:World}{Z:Nat→Prop}:∀{sh:M Sc}{ds:M D},cB sh ds=W→DL w Z (ds.map iL) ds
 |[],[],_=>trivial|k::sh,d::ds,h=>by cases k<;>cases d<;>simp only[cB,ck,eY,bL]at h;exact⟨rfl,uQ h.2⟩;exact⟨rfl,uQ h⟩;exact⟨rfl,uQ h⟩
 |[],_::_,h=>by cases h
 |k::_,[],h=>by cases k<;>cases h
def C2{w:World}{Z:Nat→Prop}:∀{sh:M Sc}{ds:M D}{us:M aJ},cB sh ds=W→DL w Z us ds→us=ds.map iL
 |[],[],[],_,_=>rfl|[],[],_::_,_,h=>ab1 h|k::sh,d::ds,u::us,h,a=>by cases k<;>cases d<;>simp only[cB,ck,eY,bL]at h;have:=C2 h.2 a.2;have e:u=_:=a.1;rw[this,e];rfl;have:=C2 h a.2;have e:u=_:=a.1;rw[this,e];rfl;have:=C2 h a.2;have e:u=_:=a.1;rw[this,e];rfl
 |_::_,_::_,[],_,h=>ab1 h|[],_::_,_,h,_=>by cases h
 |k::_,[],_,h,_=>by cases k<;>cases h
structure C3(P:Program)(t:TypeId)(sh:List Sc):Prop where
 eq:∀(w:World)(Z:Nat→Prop)(xs ys:Array Value)(ds es:List D)(x y:Operand),DL w Z (T xs) ds→DL w Z (T ys) es→cB sh ds=true→cB sh es=true→∀op,op=.eql∨op=.neq→
  (do eqGuard op t x y (.agg xs) (.agg ys);binOp op t (.agg xs) (.agg ys)).run P w=.ok (.bool (if op=.eql then dG ds es else !dG ds es)) w
 equal:∀(w:World)(ds es:List D),cB sh ds=true→cB sh es=true→(Op.equal t (sQ ds) (sQ es)).run P w=.ok (dG ds es) w
 check:∀(w:World)(ds:List D)(em:Bool),cB sh ds=true→(Instr.checkKey em 10000 t (sQ ds)).run P w=.ok () w
 struct:∃fs,acK P t=some (.struct fs)
structure ip(P:Program)(af:bM):Prop where
 T:∀t i,af.ti t=some i→kR P t=some i
 E:∀t sh,lk t af.eqs=some sh→C3 P t sh
 G:∀g l,lk g af.sF=some l→(g,l.map λn=>Value.int .u64 n)∈ry P
section
variable{K:dh}{β:aC→Option Nat}{ω:Nat→Option cT}{Z:Nat→Prop}{s:St}{a:Act}{w:World}{af:bM}(hT:ip K.P af)
include hT
def aii{t:bq}{c c':C}{f:Nat}{u:aJ}{s':St}(p:aR K β Z s a w c u)(h:(CD af t c f).aD s=J (c',s')):s'=s∧∃v,(ahy t u f).run K.P w=.ok v w∧aR K β Z s a w c' v∧cQ c'∧hJ v=W:=by
 unfold CD at h;split at h;rename_i size bytes fs zero x;split at h;rename_i o R l;split at h;rename_i i y;let⟨_,S,h1,m⟩:=aS h;let⟨z,A⟩:=cN h1;subst A;clear h;let⟨d,hd,hk,B⟩:=fe (w:=w) (hT.T _ _ x);obtain⟨fields,rfl,rfl⟩:=CY hk;rw[iQ]at l;cases G:(T fields)[f]? with
 |none=>grind|some fd=>
  rw[G]at l;simp only[Option.map_some,Option.some.injEq,gO]at l;obtain⟨rfl,rfl⟩:=l;have D:fields[f]?=J fd:=by simpa using G
  have g:∀b o,(ahy t (.pointer (J ⟨b,o,O⟩)) f).run K.P w=.ok (.pointer (J ⟨b,o+adV fd,O⟩)) w:=by intro b o;simp only[ahy,dC,B,dF,D,wU,fF,fieldPlace,lu (hT.T _ _ y),z,ch,xw]
  cases c with
  |aW k off=>obtain⟨rfl,rfl⟩:=bg m;obtain⟨b,q,rfl⟩:=p;exact⟨rfl,_,g _ _,⟨b,q,rfl⟩,by simp[cQ],rfl⟩
  |ea r j hv e n off=>obtain⟨rfl,rfl⟩:=bg m;obtain⟨b,o,rfl,q,H⟩:=p;refine⟨rfl,_,g _ _,⟨b,o+adV fd,rfl,q,λh1 h2=>?_⟩,by simp[cQ],rfl⟩;grind
  |da ds=>let⟨_,V,h2,E⟩:=aS m;let⟨N,F⟩:=cN h2;subst F;obtain⟨rfl,rfl⟩:=bg E;obtain⟨b,o,rfl,q,H⟩:=p;exact⟨rfl,_,g _ _,⟨b,o+adV fd,rfl,q,H.drop _⟩,by simp[cQ],rfl⟩
  |_=>simp[ax.aD]at m
 simp[ax.aD]at h;simp[ax.aD]at h;simp[ax.aD]at h
def aij{t:bq}{c c':C}{k:mX}{n:L}{u:aJ}{s':St}(o:aR K β Z s a w c u)(f:(CF af t c n).aD s=J (c',s')):s'=s∧∃F,(NY t u (.int k n)).run K.P w=.ok F w∧aR K β Z s a w c' F∧cQ c'∧hJ F=W:=by
 unfold CF at f;split at f;rename_i size bytes et zero p;let⟨d,hd,hk,q⟩:=fe (w:=w) (hT.T _ _ p);have v:=oh hk;subst v;split at f;rename_i i x;have m:∀(y:ey)(len cap:Nat),y.spot=O→0≤n∧n<len→(NY t (.slice (J y) len cap) (.int k n)).run K.P w=.ok (.pointer (J ⟨ac6 y,y.off+n.toNat*i.size,O⟩)) w:=by intro y len cap G hn;simp[NY,asIntOf,q,lu (hT.T _ _ x),hn,rC G]
 split at f;rename_i r j hv cv e k' xs;let⟨_,X,h1,g⟩:=aS f;let⟨hn,h⟩:=cN h1;subst h;let⟨_,s2,h2,l⟩:=aS g;let⟨⟨A,H⟩,z⟩:=cN h2;subst z;obtain⟨rfl,rfl⟩:=bg l;obtain⟨N,B,rfl,R,g3,S,Y,g6⟩:=(aR.pj H).1 o;refine⟨rfl,_,m N _ B R hn,⟨_,_,rfl,S,λq1 q2=>?_⟩,by simp[cQ],rfl⟩;grind;rename_i e xs;let⟨_,X,h1,g⟩:=aS f;let⟨hn,h⟩:=cN h1;subst h;let⟨_,s2,h2,l⟩:=aS g;let⟨⟨A,H⟩,z⟩:=cN h2;subst z;split at l;rename_i ds D;obtain⟨rfl,rfl⟩:=bg l;obtain⟨y,cap,rfl,V,g3,Y⟩:=(bA.ik H).1 o;let⟨_,E⟩:=Y.aE D;have hlt:=(iO.1 D).1;let⟨R,S⟩:=adQ V (by omega);exact⟨rfl,_,m y _ cap R hn,⟨_,_,rfl,S,by rw[A];exact E⟩,by simp[cQ],rfl⟩;grind;simp[ax.aD]at f;simp[ax.aD]at f;rename_i size bytes len et zero p;let⟨d,hd,hk,q⟩:=fe (w:=w) (hT.T _ _ p);have v:=Iq hk;subst v;split at f;rename_i i x;split at f;rename_i key off;let⟨_,X,h1,g⟩:=aS f;let⟨hn,h⟩:=cN h1;subst h;obtain⟨rfl,rfl⟩:=bg g;obtain⟨b,g1,rfl⟩:=o;refine⟨rfl,_,?_,⟨b,g1,rfl⟩,by simp[cQ],rfl⟩;simp[NY,asIntOf,q,lu (hT.T _ _ x),hn,wU,xw];simp[ax.aD]at f;simp[ax.aD]at f;simp[ax.aD]at f
end
def aik(l:M ao):(lP (abf l)).toList=l:=by rw[Lib.toList_data]
def C6(l:M ao):(lP (abf l)).size=Y l:=by simp[Cm]
def ail(l m:M ao):lP (abf l)++lP (abf m)=lP (abf (l++m)):=by apply ahz;simp_all
def aim(l:M ao)(n:Nat):(lP (abf l))[n]?=l[n]? :=by by_cases h:n<Y l;rw[eM h,getElem?_pos (lP (abf l)) n (by simpa[Cm]using h)];rfl;grind [Cm]
def Xq(l:M ao)(a b:Nat):(lP (abf l)).extract a b=lP (abf ((l.take b).drop a)):=by apply ahz;simp[ByteArray.data_extract];rw[List.drop_take]
section
variable{K:dh}{β:aC→Option Nat}{ω:Nat→Option cT}{Z:Nat→Prop}{s:St}{a:Act}{w:World}{af:bM}(hT:ip K.P af)
def ain{op:kc}{k:mX}{x y:L}{v:SV}{s':St}{t:bq}(a:op≠.shl∧op≠.shr)(b:(uD op k x y).aD s=J (v,s')):
  s'=s∧∃d u,v=.one (.d d)∧(binOp op t (.int k x) (.int k y)).run K.P w=.ok u w∧bA w Z d u:=by
 cases op<;>simp only[uD,gR,jR]at b<;>first
  |exact cO rfl a.1
  |exact cO rfl a.2
  |(obtain⟨rfl,rfl⟩:=bg b;exact⟨rfl,_,_,rfl,by simp[binOp,Op.intArith,Op.intBits,Op.intCmp],rfl⟩)
  |(obtain⟨_,f,h1,c⟩:=aS b
    obtain⟨hn,e⟩:=cN h1
    subst e
    obtain⟨rfl,rfl⟩:=bg c
    exact⟨rfl,_,_,rfl,by simp[binOp,Op.intDiv,hn],rfl⟩)
  |(simp[ax.aD]at b)
def aio{op:kc}{x y:M ao}{v:SV}{s':St}{t:bq}(b:(Cz op x y).aD s=J (v,s')):s'=s∧∃d u,v=.one (.d d)∧(binOp op t (.string ⟨abf x⟩) (.string ⟨abf y⟩)).run K.P w=.ok u w∧bA w Z d u:=by
 have a:(x==y)=decide (x=y):=by by_cases h:x=y<;>simp[h]
 cases op<;>simp only[Cz,jR]at b<;>first
  |(obtain⟨rfl,rfl⟩:=bg b
    refine⟨rfl,_,_,rfl,?_,rfl⟩
    simp only[binOp,Op.stringOp,aik,a,fF])
  |(let⟨_,f,h1,c⟩:=aS b
    let⟨hn,e⟩:=cN h1
    subst e
    obtain⟨rfl,rfl⟩:=bg c
    refine⟨rfl,_,_,rfl,?_,rfl⟩
    simp only[binOp,Op.stringOp,C6,ail]
    rw[aV]
    simp
    simp only[IntKind.max,Hs,IntKind.bits]
    simp
    omega)
  |(simp[ax.aD]at b)
theorem aip(op:kc)(t:bq)(x y:cF){u v:aJ}(a:hJ u=W)(hn:u≠.nilIface):(eqGuard op t x y u v).run K.P w=.ok () w:=by unfold eqGuard;cases op<;>simp<;>cases u<;>simp_all [hJ]
def aiq{P:ew}{t:bq}(a:(underlying t).run P w=.ok .bool w)(d:Nat)(x y:az):(Ht (d+1) t (.bool x) (.bool y)).run P w=.ok (x==y) w:=by rw[Ht];simp[a]
def Xr{P:ew}{t:bq}(a:(underlying t).run P w=.ok .bool w)(x y:az):(Op.equal t (.bool x) (.bool y)).run P w=.ok (x==y) w:=aiq a 9999 x y
def air{P:ew}{t e:bq}(a:(underlying t).run P w=.ok (.slice e) w)(d:Nat)(b:Option ey)(l c:Nat):(Ht (d+1) t (.slice b l c) (.slice O 0 0)).run P w=.ok b.isNone w:=by rw[Ht];simp only[dC,a,dF];cases b<;>simp
def eq_nil{P:ew}{t e:bq}(a:(underlying t).run P w=.ok (.slice e) w)(b:Option ey)(l c:Nat):(Op.equal t (.slice b l c) (.slice O 0 0)).run P w=.ok b.isNone w:=air a 9999 b l c
def Xt{K:dh}{β:aC→Option Nat}{Z:Nat→Prop}{s:St}{a:Act}{w:World}{c:C}{b:az}{v:aJ}(h:xk c=J b)(i:aR K β Z s a w c v):∃f l cap,v=.slice f l cap∧f.isNone=b∧hJ v=W:=by
 cases c with
 |d x=>cases x<;>simp only[xk,Option.some.injEq,reduceCtorEq]at h;have e:v=.slice O 0 0:=i;subst h e;exact⟨_,_,_,rfl,rfl,rfl⟩;split at h;cases h;rename_i g;let⟨f,cap,e,_⟩:=(bA.ik (by simpa using g)).1 i;cases h;subst e;exact⟨_,_,_,rfl,rfl,rfl⟩
 |ak e xs=>simp only[xk]at h;split at h;cases h;rename_i g;let⟨f,cap,e,_⟩:=(aR.ju (by simpa using g)).1 i;cases h;subst e;exact⟨_,_,_,rfl,rfl,rfl⟩
 |bj=>simp only[xk]at h;split at h;cases h;rename_i g;let⟨f,cap,e,_⟩:=(aR.pj (by simpa using g)).1 i;cases h;subst e;exact⟨_,_,_,rfl,rfl,rfl⟩
 |_=>simp[xk]at h
def Iu{cs:M C}:∀{us:M aJ}{ds:M D},kg cs=J ds→aQ (λu c=>aR K β Z s a w c u) us cs→DL w Z us ds:=by
 induction cs with
 |nil=>intro us ds h b;simp[kg]at h;subst h;cases us with|nil=>trivial|cons _ _=>exact ab1 b
 |cons c cs e=>
  intro us ds h b;cases us with
  |nil=>exact ab1 b|cons u us=>
   cases c with
   |d x=>simp only[kg]at h;split at h;rename_i f h1;cases h;exact⟨b.1,e h1 b.2⟩;cases h
   |_=>simp[kg]at h
include hT in
def ais(h:aY K β ω Z s a w){op:kc}{t yt:bq}{x y:cF}{dst:Nat}{o:cS}(ho:o.op=.binOp op t x y yt){v:SV}{s':St}(S:(cn af o.op dst).aD s=J (v,s')):cR K s' a dst ((execOp a.eval o).run K.P w) v:=by
 rw[ho]at S;simp only[cn]at S;let⟨v1,s1,h1,D⟩:=aS S;let⟨n,F,xM,_⟩:=iU h h1;subst n;clear S;let⟨v2,s2,h2,b⟩:=aS D;let⟨p,G,hn2,_⟩:=iU h h2;subst p;clear D;have i:(execOp a.eval o).run K.P w=((do eqGuard op t x y (adx a x) (adx a y);binOp op t (adx a x) (adx a y):Sem aJ).run K.P w).andThen λu w'=>.ok (.value u) w':=by simp only[execOp,ho,dC,fF]
 split at b;rename_i c1 c2;let⟨o1,m⟩:=F;let⟨o2,q⟩:=G;have key:s'=s2∧adx a x≠.nilIface∧∃d u,v=.one (.d d)∧(binOp op t (adx a x) (adx a y)).run K.P w=.ok u w∧bA w Z d u:=by
  unfold sG at b;split at b;rename_i k i1 k' i2;have g:adx a x=.int k i1:=m;have j:adx a y=.int k' i2:=q;rw[g,j];split at b;let⟨_,s3,h3,r⟩:=aS b;let⟨H,z⟩:=cN h3;subst z;obtain⟨rfl,rfl⟩:=bg r;refine⟨rfl,by simp,_,_,rfl,?_,rfl⟩;simp_all [binOp,Op.shift,aV];let⟨_,s3,h3,r⟩:=aS b;let⟨H,z⟩:=cN h3;subst z;obtain⟨rfl,rfl⟩:=bg r;refine⟨rfl,by simp,_,_,rfl,?_,rfl⟩;simp_all [binOp,Op.shift,aV];rename_i n p;split at b;rename_i hk;subst hk;let⟨g1,g2⟩:=ain (K:=K) (w:=w) (Z:=Z) (t:=t) ⟨n,p⟩ b;grind;simp[ax.aD]at b;rename_i l1 l2;have g:adx a x=.string ⟨abf l1⟩:=m;have j:adx a y=.string ⟨abf l2⟩:=q;rw[g,j];let⟨g1,g2⟩:=aio (K:=K) (w:=w) (Z:=Z) (t:=t) b;grind;rename_i b1 b2;have g:adx a x=.bool b1:=m;have j:adx a y=.bool b2:=q;rw[g,j];split at b;rename_i c;let⟨d,hd,hk,f⟩:=fe (w:=w) (hT.T _ _ c);have A:d=.bool:=by cases d<;>simp[tk]at hk;rfl
  subst A;obtain⟨rfl,rfl⟩:=bg b;refine⟨rfl,by simp,_,_,rfl,?_,rfl⟩;simp only[binOp,dC,Xr f,dF,fF];rename_i c;let⟨d,hd,hk,f⟩:=fe (w:=w) (hT.T _ _ c);have A:d=.bool:=by cases d<;>simp[tk]at hk;rfl
  subst A;obtain⟨rfl,rfl⟩:=bg b;refine⟨rfl,by simp,_,_,rfl,?_,rfl⟩;simp only[binOp,dC,Xr f,dF,fF];simp[ax.aD]at b;have j:adx a y=.slice O 0 0:=q;rw[j];unfold HY at b;split at b;rename_i c H;let⟨d,hd,hk,f⟩:=fe (w:=w) (hT.T _ _ c);obtain⟨e,rfl⟩:∃e,d=.slice e:=by cases d<;>simp[tk]at hk;exact⟨_,rfl⟩
  let⟨ad,l,cap,g,B,_⟩:=Xt H m;rw[g];obtain⟨rfl,rfl⟩:=bg b;refine⟨rfl,by simp,_,_,rfl,?_,rfl⟩;simp only[binOp,dC,eq_nil f,dF,fF,B];rename_i c H;let⟨d,hd,hk,f⟩:=fe (w:=w) (hT.T _ _ c);obtain⟨e,rfl⟩:∃e,d=.slice e:=by cases d<;>simp[tk]at hk;exact⟨_,rfl⟩
  let⟨ad,l,cap,g,B,_⟩:=Xt H m;rw[g];obtain⟨rfl,rfl⟩:=bg b;refine⟨rfl,by simp,_,_,rfl,?_,rfl⟩;simp only[binOp,dC,eq_nil f,dF,fF,B];simp[ax.aD]at b;simp[ax.aD]at b
 grind [cR.d,dC,dF,aip];rename_i xH cs2;unfold HZ at b;let⟨N,g,m⟩:=F;let⟨R,j,q⟩:=G;split at b;rename_i sh ds es V X Y;have hE:=(hT.E t sh V).eq;split at b;rename_i C;simp only[ck]at C;obtain⟨rfl,rfl⟩:=bg b;refine cR.d (d:=.bool (dG ds es)) h (u:=.bool (dG ds es)) ?_ rfl;rw[i,g,j,hE w Z N R ds es x y (Iu X m) (Iu Y q) C.1 C.2 .eql (.inl rfl)];rfl;simp[ax.aD]at b;rename_i sh ds es V X Y;have hE:=(hT.E t sh V).eq;split at b;rename_i C;simp only[ck]at C;obtain⟨rfl,rfl⟩:=bg b;refine cR.d (d:=.bool (!dG ds es)) h (u:=.bool (!dG ds es)) ?_ rfl;rw[i,g,j,hE w Z N R ds es x y (Iu X m) (Iu Y q) C.1 C.2 .neq (.inr rfl)];rfl;simp[ax.aD]at b;simp[ax.aD]at b;simp[ax.aD]at b
end
section
variable{K:dh}{β:aC→Option Nat}{ω:Nat→Option cT}{Z:Nat→Prop}{s:St}{a:Act}{w:World}{af:bM}(hT:ip K.P af)
def uR{c:C}{n:L}{s':St}(a:(pa c).aD s=J (n,s')):s'=s∧∃k,c=.d (.int k n):=by unfold pa at a;grind [ax.aD]
def aiu{c:C}{b:az}{s':St}(a:(zX c).aD s=J (b,s')):s'=s∧c=.d (.bool b):=by unfold zX at a;grind [ax.aD]
def ay8(h:aY K β ω Z s a w){x:cF}{n:L}{s':St}(f:(do let c ←ed x;pa c:ax L).aD s=J (n,s')):s'=s∧∃k,adx a x=.int k n:=by let⟨c,i,h1,b⟩:=aS f;let⟨d,j,g,_⟩:=gE h h1;subst d;obtain⟨e,k,rfl⟩:=uR b;exact⟨e,k,g⟩
def aiv(h:aY K β ω Z s a w){op:UnOp}{t:bq}{x:cF}{dst:Nat}{o:cS}(m:o.op=.unOp op t x){v:SV}{s':St}(i:(cn af o.op dst).aD s=J (v,s')):cR K s' a dst ((execOp a.eval o).run K.P w) v:=by
 rw[m]at i;simp only[cn]at i;let⟨c,p,h1,f⟩:=aS i;let⟨j,q,l,_⟩:=gE h h1;subst j;clear i;have e:(execOp a.eval o).run K.P w=((Op.unary op (adx a x)).run K.P w).andThen λu w'=>.ok (.value u) w':=by simp only[execOp,m,dC,fF]
 split at f;rename_i k n _;obtain⟨rfl,rfl⟩:=bg f;have g:adx a x=.int k n:=l;exact cR.d (d:=.int k (aby k (0-n))) h (u:=.int k (aby k (0-n))) (by rw[e,g];simp[Op.unary,Op.intArith]) rfl;rename_i k n _;have g:adx a x=.int k n:=l;simp only[uD,gR]at f;obtain⟨rfl,rfl⟩:=bg f;exact cR.d (d:=.int k _) h (u:=.int k _) (by rw[e,g];simp[Op.unary,Op.intBits]) rfl;rename_i b _;obtain⟨rfl,rfl⟩:=bg f;have g:adx a x=.bool b:=l;exact cR.d (d:=.bool (!b)) h (u:=.bool (!b)) (by rw[e,g];simp[Op.unary]) rfl;simp[ax.aD]at f
def aiw{b:az}{v x:SV}{u:aJ}{s':St}(hv:bO (aR K β Z s a w) u v)(c:(rm b v).aD s=J (x,s')):s'=s∧∃n:Nat,x=gR .i64 n∧((b=W∧∃l:M ao,u=.string ⟨abf l⟩∧n=Y l)∨(b=I∧∃h cap,u=.slice h n cap)):=by unfold rm at c;split at c;rename_i l;obtain⟨rfl,rfl⟩:=bg c;exact⟨rfl,Y l,rfl,.inl ⟨rfl,l,hv.2,rfl⟩⟩;obtain⟨rfl,rfl⟩:=bg c;exact⟨rfl,0,rfl,.inr ⟨rfl,O,0,hv.2⟩⟩;rename_i e xs;let⟨_,m,h1,d⟩:=aS c;let⟨i,f⟩:=cN h1;subst f;obtain⟨rfl,rfl⟩:=bg d;let⟨h,cap,g,_⟩:=(bA.ik i).1 hv.2;grind;rename_i r j o cv e k xs;let⟨_,m,h1,d⟩:=aS c;let⟨i,f⟩:=cN h1;subst f;obtain⟨rfl,rfl⟩:=bg d;let⟨h,cap,g,_⟩:=(aR.pj i).1 hv.2;grind;simp[ax.aD]at c
def OO(x:Option L)(y:Option aJ):Prop:=(x=O∧y=O)∨∃n k,x=J n∧y=J (.int k n)
def Iv(h:aY K β ω Z s a w){o:Option cF}{x:Option L}{s':St}(b:(uJ o).aD s=J (x,s')):s'=s∧OO x (o.map a.eval):=by
 cases o with
 |none=>obtain⟨rfl,rfl⟩:=bg b;exact⟨rfl,.inl ⟨rfl,rfl⟩⟩
 |some y=>simp only[uJ]at b;let⟨c,p,h1,d⟩:=aS b;let⟨n,q,h2,e⟩:=aS d;let⟨j,f⟩:=bg e;let⟨g,r,l,_⟩:=gE h h1;subst g;let⟨i,k,m⟩:=uR h2;subst i;subst f;subst j;subst m;exact⟨rfl,.inr ⟨n,k,rfl,by rw[Option.map_some];exact congrArg J l⟩⟩
def Xu{P:ew}(a:az)(len cap:Nat){lo hi:Option L}{b c:Option aJ}(d:OO lo b)(e:OO hi c)(f:0≤X lo 0∧X lo 0≤X hi len∧X hi len≤len)(g:len≤cap):(NZ a len cap b c O).run P w=.ok (G (X lo 0),G (X hi len),cap) w:=by
 rcases d with⟨rfl,rfl⟩|⟨n,k,rfl,rfl⟩<;>rcases e with⟨rfl,rfl⟩|⟨m,k',rfl,rfl⟩<;>simp only[Option.getD_none,Option.getD_some]at f ⊢;simp[NZ];have h1:0≤m∧m≤(cap:L):=by omega
 simp[NZ,ahA,asIntOf,h1];simp_all [NZ,ahA,asIntOf];have h1:0≤m∧m≤(cap:L):=by omega
 have h2:0≤n∧n≤m:=by omega
 have h3:0≤n∧n≤((G m:Nat):L):=by omega
 simp_all [NZ,ahA,asIntOf]
include hT in
def aix(h:aY K β ω Z s a w){t:bq}{x:cF}{lo hi:Option cF}{dst:Nat}{o:cS}(ho:o.op=.slice t x lo hi O){v:SV}{s':St}(E:(cn af o.op dst).aD s=J (v,s')):cR K s' a dst ((execOp a.eval o).run K.P w) v:=by
 rw[ho]at E;simp only[cn]at E;have z:(execOp a.eval o).run K.P w=((ahB t (adx a x) (lo.map a.eval) (hi.map a.eval) O).run K.P w).andThen λu w'=>.ok (.value u) w':=by simp only[execOp,ho,dC,fF];rfl
 split at E;rename_i N;let⟨d,hd,hk,R⟩:=fe (w:=w) (hT.T _ _ N);have S:=sP hk;subst S;let⟨v1,s1,h1,A⟩:=aS E;let⟨V,hv,IF,hnu1⟩:=iU h h1;subst V;clear E;let⟨l,s2,h2,B⟩:=aS A;let⟨X,hl⟩:=Iv h h2;subst X;clear A;let⟨m,s3,h3,f⟩:=aS B;let⟨Y,hm⟩:=Iv h h3;subst Y;clear B;unfold H6 at f;split at f;rename_i bh;let⟨_,s4,h4,q⟩:=aS f;let⟨G,y⟩:=cN h4;subst y;obtain⟨rfl,rfl⟩:=bg q;have e1:adx a x=.string ⟨abf bh⟩:=hv.2;refine cR.d h (u:=.string ⟨abf ((bh.take (m.getD bh.length).toNat).drop (l.getD 0).toNat)⟩) ?_ rfl;rw[z,e1];have hbd:=Xu (P:=K.P) (w:=w) I bh.length bh.length hl hm G (Nat.le_refl _);simp only[ahB,Instr.slice,dC,R,dF,C6,Option.isSome_none,bL,ch];simp only[fF,dF,hbd,Xq];simp[ax.aD]at f;rename_i et N;split at E;rename_i i hft;let⟨d,hd,hk,R⟩:=fe (w:=w) (hT.T _ _ N);have S:=oh hk;subst S;let⟨v1,s1,h1,A⟩:=aS E;let⟨V,hv,IF,hnu1⟩:=iU h h1;subst V;clear E;let⟨l,s2,h2,B⟩:=aS A;let⟨X,hl⟩:=Iv h h2;subst X;clear A;let⟨m,s3,h3,f⟩:=aS B;let⟨Y,hm⟩:=Iv h h3;subst Y;clear B;have C:∀(F:Option ey)(len cap:Nat),0≤l.getD 0∧l.getD 0≤m.getD len∧m.getD len≤len→len≤cap→adx a x=.slice F len cap→(execOp a.eval o).run K.P w=.ok (.value (.slice (if cap=(l.getD 0).toNat then F else F.map (·.add ((l.getD 0).toNat*i.size))) ((m.getD len).toNat-(l.getD 0).toNat) (cap-(l.getD 0).toNat))) w:=by intro F len cap G hc hx;have hbd:=Xu (P:=K.P) (w:=w) W len cap hl hm G hc;rw[z,hx];simp only[ahB,Instr.slice,dC,R,dF,hbd,lu (hT.T _ _ hft),fF]
 unfold ro at f;split at f;let⟨_,s4,h4,q⟩:=aS f;let⟨G,y⟩:=cN h4;subst y;obtain⟨rfl,rfl⟩:=bg q;have e1:adx a x=.slice O 0 0:=hv.2;have:=C O 0 0 (by grind) (Nat.le_refl _) e1;refine cR.d h (u:=.slice O 0 0) ?_ rfl;grind;rename_i e xs;let⟨_,s4,h4,q⟩:=aS f;let⟨G,y⟩:=cN h4;subst y;let⟨_,s5,h5,he6⟩:=aS q;let⟨⟨hsz,D⟩,hs5⟩:=cN h5;subst hs5;obtain⟨rfl,rfl⟩:=bg he6;let⟨F,cap,e1,g24,g3,g5⟩:=(bA.ik D).1 hv.2;have hr:=C (J F) xs.length cap G g3 e1;refine cR.d h hr ?_;have b:((xs.take (m.getD xs.length).toNat).drop (l.getD 0).toNat).length=(m.getD xs.length).toNat-(l.getD 0).toNat:=by simp_all
 have hrows:=(g5.take (m.getD xs.length).toNat).drop (l.getD 0).toNat;refine(bA.ik D).2 ?_;by_cases g:cap=(l.getD 0).toNat;rw[aF g];refine⟨F,cap-(l.getD 0).toNat,by rw[b],.inl (by omega),by rw[b];omega,?_⟩;have:((xs.take (m.getD xs.length).toNat).drop (l.getD 0).toNat)=[]:=List.length_eq_zero_iff.1 (by omega);rw[this];trivial;rw[aV g];have hc0:cap≠0:=by omega
 let⟨H,g4⟩:=adQ g24 hc0;refine⟨F.add ((l.getD 0).toNat*i.size),cap-(l.getD 0).toNat,by rw[b];rfl,.inr ⟨?_,?_⟩,by rw[b];omega,?_⟩;rw[rC H];rw[rC H];exact g4;simp_all [rC];rename_i r j lv cv e k xs;let⟨_,s4,h4,q⟩:=aS f;let⟨G,y⟩:=cN h4;subst y;let⟨_,s5,h5,he6⟩:=aS q;let⟨⟨hsz,D⟩,hs5⟩:=cN h5;subst hs5;obtain⟨rfl,rfl⟩:=bg he6;let⟨p,c,e1,H,g3,g4,g5,g6⟩:=(aR.pj D).1 hv.2;have hr:=C (J p) xs.length c G g3 e1;have b:((xs.take (m.getD xs.length).toNat).drop (l.getD 0).toNat).length=(m.getD xs.length).toNat-(l.getD 0).toNat:=by simp_all
 refine cR.same h hr ⟨rfl,(aR.pj D).2 ?_⟩ (by simp[SV.cells,cQ]);have hsp:(if c=(l.getD 0).toNat then p else p.add ((l.getD 0).toNat*i.size)).spot=O:=by split;exact H;rw[rC H]
 have hblk:ac6 (if c=(l.getD 0).toNat then p else p.add ((l.getD 0).toNat*i.size))=ac6 p:=by split;rfl;rw[rC H]
 refine⟨if c=(l.getD 0).toNat then p else p.add ((l.getD 0).toNat*i.size),c-(l.getD 0).toNat,by rw[b];split<;>rfl,hsp,by rw[b];omega,g4,g5,λq1 q2=>?_⟩;let⟨F,len,cap,f1,f2,f3,f4,f4b,f5,f6,f7,ys,f8,f9⟩:=g6 q1 q2;refine⟨F,len,cap,f1,f2,by rw[hblk];exact f3,?_,?_,by omega,by rw[b];omega,f7,ys,f8,λsR=>?_⟩;by_cases g:c=(l.getD 0).toNat;exact .inr (by omega);rw[aV g,rC H];rcases f4 with f4|f4
 grind;right;omega;by_cases g:c=(l.getD 0).toNat;grind;rw[aV g,rC H];rcases f4 with f4|f4
 simp only;rw[f4,←hsz,←f5,Nat.add_mul];have:(l.getD 0).toNat*e≤c*e:=Nat.mul_le_mul_right _ (by omega);omega;omega;rw[b];have hx:=f9 sR;rw[hx];apply uj;intro n;simp only[List.getElem?_drop,List.getElem?_take];by_cases hn:n<(m.getD xs.length).toNat-(l.getD 0).toNat;have h1:(l.getD 0).toNat+n<(m.getD ((List.take xs.length (List.drop k ys)).length:L)).toNat:=by rw[←hx];omega
 have h2:(l.getD 0).toNat+n<xs.length:=by omega
 grind;have h1:¬((l.getD 0).toNat+n<(m.getD ((List.take xs.length (List.drop k ys)).length:L)).toNat):=by rw[←hx];omega
 grind;simp[ax.aD]at f;simp[ax.aD]at E;simp[ax.aD]at E
end
open Go.MapKept
def Xv{ki ei:TI}(h1:ki.size<32768)(h2:ei.size<32768):uA (dn ki ei)=ki.size:=by grind [uA,dn,pY,ahC]
def aiz{ki ei:TI}(h2:ei.size<32768):HU (dn ki ei)=ei.size:=by grind [HU,dn,pY,ahC]
def Xw{ki ei:TI}(h2:ei.size<32768):xh (dn ki ei)=ki.kind.agg:=by unfold xh dn pY;cases ki.kind.agg<;>cases ei.kind.agg<;>simp<;>omega
def aiA{ki ei:TI}:xi (dn ki ei)=ei.kind.agg:=by grind [xi,dn,pY]
def xI{ki ei:TI}(h1:ki.size<32768)(h2:ei.size<32768){en:dW}:qc (dn ki ei) en↔iK ki.kind.agg ki.size en.key∧iK ei.kind.agg ei.size en.val:=by have a:=Xw (ki:=ki) h2;have b:=Xv h1 h2;have c:xi (dn ki ei)=ei.kind.agg:=aiA;have d:=aiz (ki:=ki) h2;unfold qc;rw[a,b,c,d]
def Iw{ki ei:TI}:ca (dn ki ei)=W:=by unfold ca dn pY;simp
theorem xJ{ki ei:TI}(h1:ki.size<32768)(h2:ei.size<32768):fQ (dn ki ei)=I:=by
 have a:ki.kind.agg.toNat≤1:=by cases ki.kind.agg<;>decide
 have b:ei.kind.agg.toNat≤1:=by cases ei.kind.agg<;>decide
 have:dn ki ei<1099511627776:=by unfold dn pY;omega
 unfold fQ;cases h:Nat.ble 1099511627776 (dn ki ei);rfl;have:=Nat.le_of_ble_eq_true h;omega
def OP{ki ei:TI}(h1:ki.size<32768)(h2:ei.size<32768):dn ki ei<549755813888:=by grind [ahC,dn,pY]
theorem uS{ki ei:TI}(h1:ki.size<32768)(h2:ei.size<32768):ij (dn ki ei)=I:=by have:=OP h1 h2;unfold ij;cases h:Nat.ble 549755813888 (dn ki ei);rfl;have:=Nat.le_of_ble_eq_true h;omega
structure Xx(ki ei:TI)(e:Nat):Prop where
 mp:ca e=true
 it:fQ e=false
 oe:oE e=dn ki ei
def Xy{e:Nat}(h:e<1099511627776):fQ e=I:=by unfold fQ;cases h2:Nat.ble 1099511627776 e;rfl;have:=Nat.le_of_ble_eq_true h2;omega
def aiB(e:Nat):549755813888≤kf e∧kf e=e+549755813888:=by unfold kf;omega
def aiC{e n:Nat}(h1:549755813888≤e)(h2:e<1099511627776)(h3:e=n+549755813888):oE e=n:=by simp_all [ij,Xy,Nat.ble_eq_true_of_le,oE]
def sT{ki ei:TI}(h1:ki.size<32768)(h2:ei.size<32768){e:Nat}(h:e=dn ki ei∨e=kf (dn ki ei)):Xx ki ei e:=by
 rcases h with rfl|h
 exact⟨Iw,xJ h1 h2,WN (uS h1 h2)⟩;have f:=OP h1 h2;let⟨a,b⟩:=aiB (dn ki ei);rw[←h]at a b;have c:e<1099511627776:=by omega
 have d:4294967296≤e:=by omega
 exact⟨Nat.ble_eq_true_of_le d,Xy c,aiC a c b⟩
section
variable{K:dh}{β:aC→Option Nat}{ω:Nat→Option cT}{Z:Nat→Prop}{s:St}{a:Act}{w:World}{af:bM}
def uT{P:ew}(hT:ip P af){t kt:bq}{ki ei:TI}(h:jD af t=J (kt,ki,ei)):∃a,acK P t=J (.map kt a)∧af.ti kt=J ki∧af.ti a=J ei∧ki.size<32768∧ei.size<32768:=by unfold jD at h;split at h;rename_i size bytes e a zero c;split at h;rename_i f g h1 h2;split at h;rename_i i;cases h;let⟨info,d,k,j,l,m,b,n⟩:=sO (hT.T _ _ c);refine⟨a,?_,h1,h2,i⟩;simp only at b;cases d<;>simp[tk]at b;rw[j,b.1,b.2];cases h;cases h;cases h
def eI(agg:az)(ds:M D):aJ:=if agg then sQ ds else iL (ds.headD .nil)
structure OQ(P:Program)(kt:TypeId)(sh:List Sc)(agg:Bool):Prop where
 check:∀(w:World)(ds:List D)(em:Bool),cB sh ds=true→(Instr.checkKey em 10000 kt (eI agg ds)).run P w=.ok () w
 find:∀(w:World)(kd:List D)(es:List MapEntry)(jG:List (List D)),cB sh kd=true→aQ (λen ks=>en.key=eI agg ks∧cB sh ks=true) es jG→
  ∃r,(Instr.findKey kt (eI agg kd) es).run P w=.ok r w∧((r=none∧∀ks∈jG,dG kd ks=false)∨∃(i:Nat)(en:MapEntry)(ks:List D),r=some (i,en.val)∧es[i]?=some en∧jG[i]?=some ks∧dG kd ks=true∧∀(j:Nat)ks',j<i→jG[j]?=some ks'→dG kd ks'=false)
def aiD{k:Sc}{a b:D}(c:cB [k] [a]=W)(d:cB [k] [b]=W):jS a b=W↔a=b:=by cases k<;>cases a<;>simp only[cB,ck,eY,bL,zI]at c<;> cases b<;>simp only[cB,ck,eY,bL,zI]at d<;>simp[jS];rw[c,d];simp
def xK{k:Sc}{sh:M Sc}{d:D}{ds:M D}(h:cB (k::sh) (d::ds)=W):cB [k] [d]=W∧cB sh ds=W:=by cases k<;>cases d<;>simp only[cB,ck,eY,bL,zI]at h ⊢ <;>simp_all
theorem Ix:∀{sh:M Sc}{xs ys:M D},cB sh xs=W→cB sh ys=W→(dG xs ys=W↔xs=ys)
 |[],[],[],_,_=>by simp[dG]|k::sh,x::xs,y::ys,h1,h2=>by let⟨a,b⟩:=xK h1;let⟨c,d⟩:=xK h2;simp only[dG,ck,aiD a c,Ix b d,zJ]
 |[],_::_,_,h,_=>by cases h
 |[],[],_::_,_,h=>by cases h
 |k::_,[],_,h,_=>by cases k<;>cases h
 |k::_,_::_,[],_,h=>by cases k<;>cases h
def Xz{P:ew}{kt:bq}{sh:M Sc}(c:C3 P kt sh)(kd:M D)(hk:cB sh kd=W):∀(es:M dW)(jG:M (M D))(i:Nat),aQ (λen ks=>en.key=eI W ks∧cB sh ks=W) es jG→∃r,(ayB kt (eI W kd) es i).run P w=.ok r w∧((r=O∧∀ks∈jG,dG kd ks=I)∨∃(n:Nat)(en:dW)(ks:M D),r=J (i+n,en.val)∧es[n]?=J en∧jG[n]?=J ks∧dG kd ks=W∧∀(j:Nat)ks',j<n→jG[j]?=J ks'→dG kd ks'=I)
 |[],[],i,_=>⟨O,rfl,.inl ⟨rfl,by simp⟩⟩|en::es,ks::jG,i,h=>by
  have d:=c.equal w kd ks hk h.1.2;have a:en.key=sQ ks:=h.1.1;simp only[ayB,dC,a,eI,bI,d,dF];cases e:dG kd ks with
  |true=>exact⟨J (i,en.val),rfl,.inr ⟨0,en,ks,rfl,rfl,rfl,e,by simp⟩⟩|false=>
   let⟨r,h1,h2⟩:=Xz c kd hk es jG (i+1) h.2;simp only[eI,bI]at h1;refine⟨r,h1,?_⟩;rcases h2 with⟨h2,h3⟩|⟨n,b,ks',f,g,k,l,o⟩
   grind;refine .inr ⟨n+1,b,ks',by rw[f];congr 2;omega,by simpa using g,by simpa using k,l,λj k' p m=>?_⟩;grind
def XA{d:o6}{sh:M Sc}(hd:∀(a b:M D),cB sh a=W→cB sh b=W→N0 d (eI I a) (eI I b)=J (dG a b))(kd:M D)(hk:cB sh kd=W):∀(es:M dW)(jG:M (M D))(i:Nat),aQ (λen ks=>en.key=eI I ks∧cB sh ks=W) es jG→∃r,Instr.findNow d (eI I kd) es i=J r∧((r=O∧∀ks∈jG,dG kd ks=I)∨∃(n:Nat)(en:dW)(ks:M D),r=J (i+n,en.val)∧es[n]?=J en∧jG[n]?=J ks∧dG kd ks=W∧∀(j:Nat)ks',j<n→jG[j]?=J ks'→dG kd ks'=I)
 |[],[],i,_=>⟨O,rfl,.inl ⟨rfl,by simp⟩⟩|en::es,ks::jG,i,h=>by
  have f:=hd kd ks hk h.1.2;have c:en.key=eI I ks:=h.1.1;simp only[Instr.findNow,c,f];cases g:dG kd ks with
  |true=>exact⟨J (i,en.val),rfl,.inr ⟨0,en,ks,rfl,rfl,rfl,g,by simp⟩⟩|false=>
   let⟨r,h1,h2⟩:=XA hd kd hk es jG (i+1) h.2;refine⟨r,h1,?_⟩;rcases h2 with⟨h2,h3⟩|⟨n,e,ks',k,l,m,o,q⟩
   grind;refine .inr ⟨n+1,e,ks',by rw[k];congr 2;omega,by simpa using l,by simpa using m,o,λj k' s p=>?_⟩;grind
def Iy{P:ew}(hT:ip P af){kt:bq}{ki:TI}(hi:af.ti kt=J ki){sh:M Sc}(c:rp af kt=J sh):OQ P kt sh ki.kind.agg:=by
 have e:∀(d:o6)(k:Sc),acK P kt=J d→(∀x y:D,cB [k] [x]=W→cB [k] [y]=W→N0 d (iL x) (iL y)=J (jS x y))→(∀(w:World)(x:D)(em:az),cB [k] [x]=W→(m6 em 10000 kt (iL x)).run P w=.ok () w)→OQ P kt [k] I:=by
  intro d k m c l;have one:∀{ds:M D},cB [k] ds=W→∃x,ds=[x]:=by
   intro ds h;match ds,h with
   |[x],_=>exact⟨x,rfl⟩|[],h=>cases k<;>cases h
   |x::y::r,h=>have:=(xK h).2;cases this
  refine⟨λw ds em h=>?_,λw kd es jG hk b=>?_⟩;obtain⟨x,rfl⟩:=one h;exact l w x em h;let⟨r,h1,h2⟩:=XA (d:=d) (sh:=[k]) (λx y a hy=>by grind [eI,dG]) kd hk es jG 0 b;simp_all [MapKept.run_findKey]
 unfold rp at c;rw[hi]at c;let⟨info,d,n,g,o,p,i,q⟩:=sO (hT.T _ _ hi);split at c;rename_i hk;cases c;cases hk;have hd:=xC i.symm;subst hd;refine e _ _ g (λx y a hy=>?_) (λw x em a=>?_);cases x<;>simp only[cB,ck,eY,bL,zI]at a;cases y<;>simp only[cB,ck,eY,bL,zI]at hy;subst a;simp[iL,N0,jS,hy];cases x<;>simp only[cB,ck,eY,bL,zI]at a;rw[show(10000:Nat)=9999+1 from rfl];unfold m6;simp[lh g,iL];rename_i hk;cases c;cases hk;have hd:=sP i.symm;subst hd;refine e _ _ g (λx y a hy=>?_) (λw x em a=>?_);cases x<;>simp only[cB,bL]at a;cases y<;>simp only[cB,bL]at hy;grind [iL,N0,jS,ayC];cases x<;>simp only[cB,bL]at a;rw[show(10000:Nat)=9999+1 from rfl];unfold m6;simp[lh g,iL];rename_i hk;cases c;cases hk;have hd:=OM i.symm;subst hd;refine e _ _ g (λx y a hy=>?_) (λw x em a=>?_);cases x<;>simp only[cB,bL]at a;cases y<;>simp only[cB,bL]at hy;simp[iL,N0,jS];cases x<;>simp only[cB,bL]at a;rw[show(10000:Nat)=9999+1 from rfl];unfold m6;simp[lh g,iL];rename_i fs _ _ _ hk;cases hk;have j:=hT.E _ _ c;refine⟨λw ds em h=>j.check w ds em h,λw kd es jG hk b=>?_⟩;have f:(match acK P kt with|some (.array _ _)|some (.struct _)=>W|_=>I)=W:=by grind [C3.struct]
 rw[run_findKey_eq w f];let⟨r,h1,h2⟩:=Xz (w:=w) j kd hk es jG 0 b;refine⟨r,h1,?_⟩;grind;cases c
def OR:∀{ds:M D}{vs:M aJ},km w Z ds vs↔DL w Z vs ds|[],[]=>uq|d::ds,v::vs=>and_congr uq OR|[],_::_=>uq|_::_,[]=>uq
def aiE{agg:az}{n:Nat}{v:aJ}(h:iK agg n v):Y (T v.cells)=n:=by unfold iK at h;split at h;obtain⟨cs,rfl,rfl⟩:=h;rfl;rw[lX h.1,h.2];rfl
def qg:∀{xs:M (M D)}{es:M dW},fR w Z xs es→Y xs=Y es|[],[],_=>rfl|_::_,_::_,h=>by simp[qg h.2]
theorem rD:∀{xs:M (M D)}{es:M dW}{i:Nat}{en:dW},fR w Z xs es→es[i]?=J en→∃x,xs[i]?=J x∧km w Z x (pi en)
 |x::xs,en::es,0,b,h,a=>by simp only[iA,Option.some.injEq]at a;subst a;exact⟨x,rfl,h.1⟩|x::xs,en::es,i+1,b,h,a=>by obtain⟨y,h1,h2⟩:=rD (i:=i) h.2 (by simpa using a);grind
 |[],[],_,_,_,a=>by simp at a
def Iz:∀{xs:M (M D)}{es:M dW},Y xs=Y es→(∀(i:Nat)x en,xs[i]?=J x→es[i]?=J en→km w Z x (pi en))→fR w Z xs es|[],[],_,_=>trivial|x::xs,en::es,a,h=>⟨h 0 x en rfl rfl,Iz (by simpa using a) λi y e hy b=>h (i+1) y e (by simpa using hy) (by simpa using b)⟩|[],_::_,a,_=>by simp at a|_::_,[],a,_=>by simp at a
def Ak{agg:az}{n:Nat}{en:dW}{x:M D}(hk:iK agg n en.key)(h:km w Z x (pi en)):DL w Z en.key.cells.toList (x.take n)∧DL w Z en.val.cells.toList (x.drop n):=by have h1:=OR.1 h;unfold pi at h1;have a:=aiE hk;have b:x.length=(en.key.cells.toList++en.val.cells.toList).length:=h1.length.symm;rw[←List.take_append_drop n x]at h1;exact aQ.split (by grind) h1
def OS{agg:az}{n:Nat}{sh:M Sc}{v:aJ}{ds:M D}(a:iK agg n v)(hd:DL w Z (T v.cells) ds)(c:cB sh ds=W):v=eI agg ds:=by
 have b:=C2 c hd;unfold iK at a;split at a;obtain⟨cs,rfl,_⟩:=a;simp only[eI,bI,sQ];congr 1;apply Array.toList_inj.1;exact b;obtain⟨h1,rfl⟩:=a;rw[lX h1]at b;match ds,b with|[d],b=>grind [eI]
theorem IA{agg:az}{n:Nat}{sh:M Sc}{ds:M D}(a:cB sh ds=W)(hn:Y ds=n)(h1:agg=I→n=1):iK agg n (eI agg ds):=by
 cases agg with
 |true=>exact⟨_,rfl,by simpa using hn⟩|false=>
  have:=h1 rfl;subst this;match ds,hn with
  |[d],_=>
   refine⟨?_,rfl⟩;match sh with
   |[]=>cases a
   |k::sh=>cases k<;>cases d<;>first|rfl|(simp[cB]at a)
theorem XB:∀{sh:M Sc}{xs ys:M D},cB sh xs=W→cB sh ys=W→xs.map iL=ys.map iL→xs=ys
 |[],[],[],_,_,_=>rfl|k::sh,x::xs,y::ys,h1,h2,h=>by let⟨a,b⟩:=xK h1;let⟨c,d⟩:=xK h2;simp only[eU,zJ]at h;rw[XB b d h.2];congr 1;have h:=h.1;cases k<;>cases x<;>simp only[cB,ck,eY,bL,zI]at a<;> cases y<;>simp only[cB,ck,eY,bL,zI]at c<;>simp_all [iL]
 |[],_::_,_,h,_,_=>by cases h
 |[],[],_::_,_,h,_=>by cases h
 |k::_,[],_,h,_,_=>by cases k<;>cases h
 |k::_,_::_,[],_,h,_=>by cases k<;>cases h
def XC(agg:az)(sh:M Sc)(en:dW)(ks:M D):Prop:=en.key=eI agg ks∧cB sh ks=W∧T en.key.cells=ks.map iL
def XD{e:Nat}{sh:M Sc}{n:Nat}(hn:uA e=n):∀{xs:M (M D)}{es:M dW},fR w Z xs es→(∀en∈es,qc e en)→lm sh n xs=W→aQ (XC (xh e) sh) es (xs.map λx=>x.take n)|[],[],_,_,_=>trivial|x::xs,en::es,h,b,a=>by simp only[lm,nR,ck]at a;have hk:=(b en (lf ..)).1;rw[hn]at hk;have hp:=(Ak hk h.1).1;exact⟨⟨OS hk hp a.1,a.1,C2 a.1 hp⟩,XD hn h.2 (λen c=>b en (i7 _ c)) a.2⟩
def aQ.perm{α β:Type}{R:α→β→Prop}{as d:M α}(hp:as.Perm d):∀{a:M β},aQ R as a→∃bs',a.Perm bs'∧aQ R d bs':=by
 induction hp with
 |nil=>intro a h;cases a with|nil=>simp_all|cons _ _=>exact ab1 h
 |cons x _ g=>
  intro a h;cases a with|nil=>exact ab1 h|cons b a=>let⟨bs',h1,h2⟩:=g h.2;exact⟨b::bs',h1.cons b,h.1,h2⟩
 |swap x y l=>
  intro a h;cases a with
  |nil=>exact ab1 h|cons b a=>
   cases a with|nil=>exact ab1 h.2|cons c a=>exact⟨c::b::a,.swap ..,h.2.1,h.1,h.2.2⟩
 |trans _ _ e f=>intro a h;let⟨k,h1,h2⟩:=e h;let⟨i,h3,j⟩:=f h2;exact⟨i,h1.trans h3,j⟩
def aQ.OT{α β:Type}{R:α→β→Prop}:∀{as:M α}{c:M β}{j:Nat}{a:α},aQ R as c→as[j]?=J a→∃b,c[j]?=J b∧R a b|[],[],_,_,_,h=>by simp at h|x::as,y::c,0,a,h,d=>by simp only[iA,Option.some.injEq]at d;subst d;exact⟨y,rfl,h.1⟩|x::as,y::c,j+1,a,h,d=>by obtain⟨b,h1,h2⟩:=aQ.OT (j:=j) h.2 (by simpa using d);grind
theorem OU{es:M dW}(h:es.Pairwise λa b=>a.key≠b.key){i j:Nat}{a b:dW}(hi:es[i]?=J a)(c:es[j]?=J b)(hk:a.key=b.key):i=j:=by grind [List.pairwise_iff_getElem]
theorem OV(n:Nat)(kd:M D):∀(xs:M (M D)),(eA n kd xs=O∧∀ks∈xs.map (λx=>x.take n),dG kd ks=I)∨∃(i:Nat)(ks:M D),eA n kd xs=J i∧(xs.map λx=>x.take n)[i]?=J ks∧dG kd ks=W∧∀(j:Nat)ks',j<i→(xs.map λx=>x.take n)[j]?=J ks'→dG kd ks'=I
 |[]=>.inl ⟨rfl,by simp⟩|x::xs=>by
  simp only[eA,eU];cases a:dG kd (x.take n)with
  |true=>grind|false=>
   simp only[bL,ch];rcases OV n kd xs with⟨h1,h2⟩|⟨i,ks,h1,h2,h3,b⟩
   grind;grind
def IB{P:ew}{kt:bq}{ki ei:TI}{sh:M Sc}(C:OQ P kt sh ki.kind.agg)(h1:ki.size<32768)(h2:ei.size<32768){xs:M (M D)}{es es':M dW}{cq:Nat}(E:fR w Z xs es')(hp:es'.Perm es)(y:kl (dn ki ei) cq es) (F:lm sh ki.size xs=W){kd:M D}(j:cB sh kd=W)(p:ki.kind.agg=I→kd.length=1):
  (eA ki.size kd xs=O∧(N1 kt (eI ki.kind.agg kd) es).run P w=.ok O w∧∀en∈es,en.key≠eI ki.kind.agg kd)∨
    ∃i m x en,eA ki.size kd xs=J m∧(N1 kt (eI ki.kind.agg kd) es).run P w=.ok (J (i,en.val)) w∧xs[m]?=J x∧es'[m]?=J en∧es[i]?=J en∧kd=x.take ki.size∧en.key=eI ki.kind.agg kd:=by
 have k:=XD (Xv h1 h2) E (λen q=>y.ok en (hp.mem_iff.1 q)) F
 rw[Xw h2]at k
 let⟨ks',s,e⟩:=aQ.perm hp k
 have t:(eI ki.kind.agg kd).cells.toList=kd.map iL:=by
  cases u:ki.kind.agg with
  |true=>simp[eI,sQ,ahD]|false=>
   match kd,p u with|[d],_=>have h2:=IA (agg:=I) (n:=1) j rfl (λ_=>rfl);rw[lX h2.1];simp[eI]
 have g:∀en ks,XC ki.kind.agg sh en ks→en.key=eI ki.kind.agg kd→ks=kd:=by intro en ks ⟨_,z,g3⟩ h;grind [XB]
 let⟨r,G,z⟩:=C.find w kd es ks' j (aQ.mono (λ_ _ h=>⟨h.1,h.2.1⟩) e)
 rcases z with⟨rfl,f⟩|⟨i,en,ks,rfl,f2,f3,f4,_⟩
 refine .inl ⟨?_,G,λen q c=>?_⟩
 grind [OV]
 let⟨i,hi⟩:=Wp.1 q
 let⟨ks,k1,k2⟩:=aQ.OT e hi
 have:=g en ks k2 c
 subst this
 have:=f ks (fK k1)
 grind [Ix]
 refine .inr ?_
 let⟨H,k1,k2⟩:=e.aE f3
 rw[f2]at k1
 cases k1
 have K:kd=ks:=(Ix j k2.2.1).1 f4
 have c:en.key=eI ki.kind.agg kd:=by rw[k2.1,←K]
 let⟨N,o⟩:=Wp.1 (hp.mem_iff.2 (fK f2))
 let⟨l,p1,R⟩:=aQ.OT k o
 have S:=g en l R c
 subst S
 rcases OV ki.size l xs with⟨_,A⟩|⟨m,ks1,q1,A,T,_⟩
 grind
 let⟨V,X,B⟩:=k.aE A
 have Y:l=ks1:=(Ix j B.2.1).1 T
 subst Y
 have v:es'.Pairwise λa b=>a.key≠b.key:=(hp.pairwise_iff (λh=>Ne.symm h)).2 y.nd
 have em:N=m:=OU v o X (by rw[c,B.1])
 grind
def XE(h:aY K β ω Z s a w){e:Nat}(i:∀g,(g=e∨g=kf e)→ca g=W∧fQ g=I∧oE g=e){c:C}{u:aJ}{xs:M (M D)}{s':St}(l:aR K β Z s a w c u)(hx:(ng e c).aD s=J (xs,s')):s'=s∧((u=.map O∧xs=[])∨∃b,u=.map (J b)∧∃(es:bW dW)(cq:Nat)(es':M dW),w.heap[b]?=J (.map es cq)∧kl e cq (T es)∧fR w Z xs es'∧es'.Perm (T es)):=by
 have A:∀{g b xs},(g=e∨g=kf e)→ej w Z g xs b→∃(es:bW dW)(cq:Nat)(es':M dW),w.heap[b]?=J (.map es cq)∧kl e cq (T es)∧fR w Z xs es'∧es'.Perm (T es):=by grind [ej.mu]
 unfold ng at hx;split at hx;obtain⟨rfl,rfl⟩:=bg hx;exact⟨rfl,.inl ⟨l,rfl⟩⟩;let⟨_,B,h1,f⟩:=aS hx;let⟨m,n⟩:=cN h1;subst n;let⟨p,hi,_⟩:=i _ m;obtain⟨rfl,rfl⟩:=bg f;let⟨b,E,_,N⟩:=(bA.n7 p).1 l;grind [ph];rename_i r j hv cv g k ys;simp only[ax.aD]at hx;let⟨_,B,h1,f⟩:=aS hx;let⟨⟨q,m⟩,n⟩:=cN h1;subst n;let⟨p,hi,_⟩:=i _ m;let⟨b,E,_,_,y⟩:=(aR.rz p).1 l;split at f;rename_i z F d;let⟨v,o⟩:=bg f;subst v;subst o;let⟨f1,x,f2,_⟩:=y q (by rw[d];simp);rw[d]at f2;rcases f2 with f2|f2<;>cases f2;let⟨G,H,z⟩:=h.Ic p d;grind [ph];rename_i z F d;let⟨v,o⟩:=bg f;subst v;subst o;let⟨f1,x,f2,_⟩:=y q (by rw[d];simp);rw[d]at f2;rcases f2 with f2|f2<;>cases f2;let⟨u2,H,t⟩:=h.cell (jc d (by simp));let⟨G,P,_,R⟩:=(bA.n7 p).1 t;grind [ph];simp[ax.aD]at f;simp[ax.aD]at hx
def OW{f:SV}{u:aJ}{kd:M D}{sh:M Sc}{agg:az}(hv:bO (aR K β Z s a w) u f)(hk:f.key=J kd)(g:cB sh kd=W)(i:f.isAgg=agg):u=eI agg kd∧(agg=I→Y kd=1):=by
 unfold SV.key at hk;split at hk;rename_i cs e;cases f with
 |one c=>
  simp only[SV.fM,Option.some.injEq]at e;subst e;subst i;cases c<;>simp[kg]at hk;rename_i x;subst hk;have hd:DL w Z (T u.cells) [x]:=by rw[lX hv.1];exact⟨hv.2,trivial⟩
  exact⟨OS (n:=1) ⟨hv.1,rfl⟩ hd g,λ_=>rfl⟩
 |agg ds=>
  simp only[SV.fM,Option.some.injEq]at e;subst e;subst i;obtain⟨ws,rfl,b⟩:=hv;refine⟨OS (n:=ws.size) ⟨ws,rfl,rfl⟩ (?_:DL w Z (T ws) kd) g,λh=>by cases h⟩;have:∀{cs:M C}{us:M aJ}{ds:M D},kg cs=J ds→aQ (λu c=>aR K β Z s a w c u) us cs→DL w Z us ds:=by
   intro cs;induction cs with
   |nil=>intro us ds h b;simp[kg]at h;subst h;cases us with|nil=>trivial|cons _ _=>exact ab1 b
   |cons c cs j=>
    intro us ds h b;cases us with
    |nil=>exact ab1 b|cons u us=>
     cases c with
     |d x=>simp only[kg]at h;split at h;rename_i k h1;cases h;exact⟨b.1,j h1 b.2⟩;cases h
     |_=>simp[kg]at h
  exact this hk b
 |bw x=>simp[SV.fM]at e|undef=>simp[SV.fM]at e
 cases hk
def IC{b:Nat}{o o':Obj}(d:w.heap[b]?=J o):Ih w {w with heap:=w.heap.setIfInBounds b o'} b∧({w with heap:=w.heap.setIfInBounds b o'}:World).heap[b]?=J o':=by have a:b<w.heap.size:=(Array.getElem?_eq_some_iff.1 d).1;exact⟨⟨rfl,rfl,rfl,by simp,λc e=>by simp[Ne.symm e]⟩,by simp[a]⟩
def IE{agg:az}{n:Nat}{v:aJ}{ds:M D}(b:iK agg n v)(hd:DL w Z (T v.cells) ds):eC (aR K β Z s a w) v (agg,ds.map .d):=by
 unfold iK at b;unfold eC;cases agg with
 |true=>obtain⟨cs,rfl,_⟩:=b;exact⟨cs,rfl,DL.map hd⟩
 |false=>
  obtain⟨h1,rfl⟩:=b;rw[lX h1]at hd;match ds,hd with|[d],hd=>exact⟨.d d,rfl,h1,hd.1⟩
def aiG{agg:az}{n:Nat}{v:aJ}{ds:M D}{x:SV}{f s2:St}(e:iK agg n v)(hd:DL w Z (T v.cells) ds)(b:(p5 agg ds).aD f=J (x,s2)):s2=f∧bO (aR K β Z s a w) v x∧(∀c∈x.cells,cQ c):=by
 unfold iK at e;unfold p5 at b;cases agg with
 |true=>obtain⟨rfl,rfl⟩:=bg b;obtain⟨cs,rfl,_⟩:=e;exact⟨rfl,⟨cs,rfl,DL.map hd⟩,by simp[SV.cells,cQ]⟩
 |false=>
  obtain⟨h1,rfl⟩:=e;rw[lX h1]at hd;match ds,hd,b with|[d],hd,b=>obtain⟨rfl,rfl⟩:=bg b;exact⟨rfl,⟨h1,hd.1⟩,by simp[SV.cells,cQ]⟩
def XF(w0:World){agg:az}{n:Nat}{z:M D}{v:aJ}(hv:lU (T v.cells)=J z)(c:HW v=agg)(d:Y z=n):iK agg n v:=by
 have b:DL w0 (λ_=>dK) (T v.cells) z:=qd hv;have a:=b.length;cases v with
 |agg cs=>subst c;exact⟨cs,rfl,by simp_all [ahD]⟩|_=>
  subst c;simp only[ahD]at hv a;simp only[HW];refine⟨?_,by simp at a;omega⟩;first
  |rfl|(simp[lU,uB]at hv)
theorem XG{u:aJ}{v:SV}{cs:M C}{n:Nat}(hv:bO (aR K β Z s a w) u v)(b:v.fM=J cs)(hn:Y cs=n):iK v.isAgg n u:=by
 cases v with
 |one c=>simp only[SV.fM,Option.some.injEq]at b;subst b;exact⟨hv.1,by simpa using hn.symm⟩|agg ds=>simp only[SV.fM,Option.some.injEq]at b;subst b;obtain⟨ws,rfl,h⟩:=hv;exact⟨ws,rfl,by have:=h.length;simp at this;omega⟩
 |bw x=>simp[SV.fM]at b|undef=>simp[SV.fM]at b
def kU{α:Type}{l:M α}{i:Nat}{x d:α}(h:l[i]?=J x):H l i d=x:=by grind
def XH{es:M dW}{i:Nat}{en:dW}(h:es.Pairwise λa b=>a.key≠b.key)(hi:i<es.length)(c:∀x,es[i]?=J x→en.key=x.key):(es.set i en).Pairwise λa b=>a.key≠b.key:=by
 have key:(es.set i en).map (·.key)=es.map (·.key):=by apply uj;grind
 have h2:(es.map (·.key)).Pairwise λa b=>a≠b:=List.pairwise_map.2 h;grind
def aiH{e cq:Nat}{xs:M (M D)}{es:M dW}{i:Nat}{en:dW}{y:M D}(b:kl e cq es)(f:fR w Z xs es)(hi:i<Y es)(c:qc e en)(h:en.born=i)(d:∀x,es[i]?=J x→en.key=x.key)(k:km w Z y (pi en)):kl e cq (es.set i en)∧fR w Z (xs.set i y) (es.set i en):=by
 refine⟨⟨λx a=>?_,λj x a=>?_,by rw[List.length_set];exact b.cq,XH b.nd hi d⟩,Iz (by simp[qg f]) λj x l a g=>?_⟩;rcases ahE a with a|rfl
 exact b.ok x a;exact c;rw[zH]at a;split at a;grind;exact b.born j x a;grind [rD]
def aiI{e cq:Nat}{xs:M (M D)}{es:M dW}{en:dW}{y:M D}(b:kl e cq es)(d:fR w Z xs es)(f:qc e en)(i:en.born=cq)(c:∀x∈es,x.key≠en.key)(k:km w Z y (pi en)):kl e (cq+1) (es++[en])∧fR w Z (xs++[y]) (es++[en]):=by
 have g:=qg d;refine⟨⟨λx a=>?_,λj x a=>?_,by rw[lg,b.cq];rfl,Hv.2 ⟨b.nd,ahF ..,λx a y hy=>by grind⟩⟩,Iz (by simp[g]) λj x l a h=>?_⟩;rcases nP.1 a with a|a
 exact b.ok x a;grind;rw[ayD]at a;split at a;exact b.born j x a;grind [kl.cq];grind [rD]
theorem OX{w':World}{xs:M (M D)}{es:M dW}(hZ:∀b,Z b→w'.heap[b]?=w.heap[b]? ∧Z b)(h:fR w Z xs es):fR w' Z xs es:=fR.mono hZ xs es h
def DL.mono'{w':World}{Z':Nat→Prop}(hZ:∀b,Z b→w'.heap[b]?=w.heap[b]? ∧Z' b){us:M aJ}{ds:M D}(h:DL w Z us ds):DL w' Z' us ds:=aQ.mono (λ_ _ a=>bA.mono hZ _ _ a) h
def OY{us vs:M aJ}{kd vd:M D}(h1:DL w Z us kd)(h2:DL w Z vs vd){en:dW}(hk:T en.key.cells=us)(hv:T en.val.cells=vs):km w Z (kd++vd) (pi en):=by rw[OR,pi,hk,hv];exact aQ.append h1 h2
theorem XI{agg:az}{sh:M Sc}{kd:M D}(a:cB sh kd=W)(h1:agg=I→Y kd=1):DL w Z (T (eI agg kd).cells) kd:=by
 cases agg with
 |true=>exact(uQ a:DL w Z (kd.map iL) kd)|false=>
  match kd,h1 rfl with|[d],_=>have h2:=IA (agg:=I) (n:=1) a rfl (λ_=>rfl);rw[lX h2.1];exact(uQ a:DL w Z [iL d] [d])
def XJ{d:D}{k:Sc}(h:cB [k] [d]=W)(n:Nat):Hw n (iL d) (iL d)=W:=by cases k<;>cases d<;>simp[cB]at h<;>simp[iL,Hw,ayC]
def XK:∀{sh:M Sc}{ds:M D}(n:Nat),cB sh ds=W→(((ds.map iL).zip (ds.map iL)).all λ(x,y)=>Hw n x y)=W
 |[],[],_,_=>rfl|k::sh,d::ds,n,h=>by let⟨h1,h2⟩:=xK h;simp only[eU,List.zip_cons_cons,nR,ck];exact⟨XJ h1 n,XK n h2⟩
 |[],_::_,_,h=>by cases h
 |k::_,[],_,h=>by cases k<;>cases h
theorem XL{agg:az}{sh:M Sc}{kd:M D}(a:cB sh kd=W)(h1:agg=I→Y kd=1):Hw 10000 (eI agg kd) (eI agg kd)=W:=by
 cases agg with
 |true=>rw[show(10000:Nat)=9999+1 from rfl];simp only[eI,bI,sQ,Hw,ck];exact⟨by simp,by simpa using XK 9999 a⟩|false=>
  match kd,h1 rfl with
  |[d],_=>
   match sh with
   |[]=>cases a
   |k::sh=>exact XJ (xK a).1 10000
def qh{P:ew}{b cq:Nat}{es:bW dW}(a:w.heap[b]?=J (.map es cq)):(getObj b).run P w=.ok (.map es cq) w:=Go.MapKept.run_getObj_map a
def C7{P:ew}{b cq:Nat}{es:bW dW}{o:Obj}(a:w.heap[b]?=J (.map es cq)):(setObj b o).run P w=.ok () {w with heap:=acW w.heap b o}:=Go.MapKept.run_setObj_map o a
section
variable(hT:ip K.P af)
include hT
def aiJ(h:aY K β ω Z s a w){t:bq}{dst:Nat}{o:cS}(k:o.op=.makeMap t O){v:SV}{s':St}(e:(cn af o.op dst).aD s=J (v,s')):cR K s' a dst ((execOp a.eval o).run K.P w) v:=by
 rw[k]at e;simp only[cn,CJ]at e;split at e;rename_i kt ki ei r;let⟨_,_,_,_,g,i⟩:=uT hT r;let⟨hv,u⟩:=bg e;subst u;rw[hv];have d:Xx ki ei (Cy (ab4 af.un dst) (dn ki ei)):=sT g i (by cases ab4 af.un dst;exact .inl rfl;exact .inr rfl);have hi:=d.it;clear hv e;generalize (Cy (ab4 af.un dst) (dn ki ei))=l at *;let⟨y,k1,f1,m⟩:=h.newObj (.map #[] 0) (.tmp dst,J 0);have z:ej (ac2 w (.map #[] 0)) Z l [] w.heap.size:=(ej.mu d.it).2 ⟨#[],0,[],m,⟨by simp,by simp,rfl,.nil⟩,trivial,.refl _,λ_=>rfl⟩;have f:∀(s:St),aR K β Z s a (ac2 w (.map #[] 0)) (.ak l []) (.map (J w.heap.size)):=λs=>(aR.kG d.mp).2 ⟨_,(ph hi _).symm,z⟩;refine⟨.map (J w.heap.size),ac2 w (.map #[] 0),β,_,Z,?_,y,⟨rfl,f _⟩,?_⟩;simp[execOp,k,Instr.makeMap];intro j c x n p;have A:j=0:=by grind [SV.cells]
 subst A;simp only[SV.cells,iA,Option.some.injEq]at n;simp only[eB,iA,Option.some.injEq]at p;subst n;subst p;refine⟨f _,λC xs b B q=>?_⟩;cases B;simp only[eH,Option.some.injEq]at q;subst q;exact⟨by simp,⟨#[],0,m⟩,f1⟩;simp[ax.aD]at e
def aiK(h:aY K β ω Z s a w){t:bq}{x ix:cF}{ok:az}{dst:Nat}{o:cS}(R:o.op=.lookup t x ix ok){v:SV}{s':St}(Y:(cn af o.op dst).aD s=J (v,s')):cR K s' a dst ((execOp a.eval o).run K.P w) v:=by
 rw[R]at Y;simp only[cn]at Y;let⟨c,s1,h1,y⟩:=aS Y;let⟨hs1,o1,r1,IF⟩:=gE h h1;rw[hs1]at y;let⟨kv,s2,h2,f⟩:=aS y;let⟨hs2,hkv,OZ,aiL⟩:=iU h h2;rw[hs2]at f;unfold jt at f;split at f;rename_i kt ki ei hm;let⟨et,hu,hki,O3,g,j⟩:=uT hT hm;split at f;rename_i sh kd z hsc O4 hz;let⟨_,s3,h3,A⟩:=aS f;let⟨⟨e,hkl,hka,hzl,hg⟩,hs3⟩:=cN h3;rw[hs3]at A;let⟨xs,s4,h4,B⟩:=aS A;let⟨hs4,l⟩:=XE h (λe' n=>⟨(sT g j n).mp,(sT g j n).it,(sT g j n).oe⟩) r1 h4;rw[hs4]at B;let⟨_,s5,h5,k⟩:=aS B;let⟨C8,hs5⟩:=cN h5;rw[hs5]at k;have S:=Iy hT hki hsc;let⟨p,O0⟩:=OW hkv O4 e hka;let⟨zv,C,E,O1⟩:=OL (w:=w) (hT.T _ _ O3) hz;have F:DL w Z (T zv.cells) z:=qd E;have G:iK ei.kind.agg ei.size zv:=XF w E O1 hzl;have key:∃(q:aJ)(ds:M D),iK ei.kind.agg ei.size q∧DL w Z (T q.cells) ds∧ds=iR ki.size xs z (eA ki.size kd xs)∧(execOp a.eval o).run K.P w=.ok (.value (if ok then .tuple #[q,.bool (eA ki.size kd xs).isSome]else q)) w:=by
  rcases l with⟨V,rfl⟩|⟨b,V,es,cq,es',g1,g2,g3,gp⟩
  refine⟨zv,z,G,F,by simp[eA,iR],?_⟩;have hfk:(N1 kt (eI ki.kind.agg kd) []).run K.P w=.ok O w:=by let⟨r,u,X⟩:=S.find w kd [] [] e trivial;grind
  simp only[execOp,R,wV,V,p,dC,lh hu,dF,fF,Array.isEmpty_empty,S.check w kd W e,hfk,C,eA,Option.isSome_none];have hfr:=IB S g j g3 gp g2 C8 e O0;have H:(m6 es.isEmpty 10000 kt (eI ki.kind.agg kd)).run K.P w=.ok () w:=S.check w kd _ e;rcases hfr with⟨u,X,_⟩|⟨i,m,x,en,u,X,q3,Da,q4,q5,_⟩
  refine⟨zv,z,G,F,by rw[u];rfl,?_⟩;simp only[execOp,R,wV,V,p,dC,lh hu,dF,fF,qh g1,H,X,C,u,Option.isSome_none];have Db:=g2.ok en (fK q4);let⟨x',p1,p2⟩:=rD g3 Da;rw[q3]at p1;cases p1;let⟨hk,hv⟩:=(xI g j).1 Db;let⟨_,p4⟩:=Ak hk p2;refine⟨en.val,x.drop ki.size,hv,p4,by rw[u];simp only[iR,kU q3],?_⟩;rw[u];simp only[execOp,R,wV,V,p,dC,lh hu,dF,fF,qh g1,H,X];rfl
 let⟨q,ds,k1,k2,k3,k4⟩:=key;rw[←k3]at k;cases ok with
 |true=>let⟨hx,N⟩:=bg k;rw[hx,N];refine cR.same h k4 ⟨#[q,.bool (eA ki.size kd xs).isSome],rfl,IE k1 k2,?_,trivial⟩ ?_;exact⟨_,rfl,rfl,rfl⟩;intro c hc;simp only[SV.cells,mZ,List.flatMap_nil,Cn,nP,mh,m7]at hc;rcases hc with⟨d,_,rfl⟩|rfl<;>simp[cQ]
 |false=>let⟨N,p1,p2⟩:=aiG (K:=K) (β:=β) (s:=s) (a:=a) k1 k2 k;grind [cR.same]
 simp[ax.aD]at f;simp[ax.aD]at f
theorem aiN(h:aY K β ω Z s a w){t:bq}{c:C}{um uk ux:aJ}{kv vv:SV}{y:bV}{s':St}(hcm:aR K β Z s a w c um)(hkv:bO (aR K β Z s a w) uk kv)(O2:bO (aR K β Z s a w) ux vv)
  (hno:∀c∈vv.cells,cQ c)(he:(xo af t c kv vv).aD s=J (y,s')):∃w' β' ω' Z',(N2 t um uk ux).run K.P w=.ok () w'∧aY K β' ω' Z' s' a w':=by
 unfold xo at he
 split at he
 ·rename_i kt ki ei hm
  obtain⟨et,hu,hki,O3,xG,xL⟩:=uT hT hm
  split at he
  ·rename_i sh kd vc hsc O4 hvc
   obtain⟨_,s1,h1,qe⟩:=aS he
   obtain⟨⟨o,hkl,hka,hvl,hva⟩,hs1⟩:=cN h1
   rw[hs1]at qe
   obtain⟨vd,s2,h2,F⟩:=aS qe
   obtain⟨hcc,hall⟩:=xE O2 hvc
   obtain⟨T,p,r1,k1,p1⟩:=Io vc _ ω Z s s2 vd h hall (λc hc=>hno c (by rw[hcc];exact hc)) h2
   have aiR:=k1.ls h.dp (λe xs b h1 h2=>by
    simp_all [ax.aD]) hcm
   split at F
   ·rename_i r j lv cv0 e k0 xs0
    simp only[ax.aD]at F
    obtain⟨_,s3,h3,G⟩:=aS F
    obtain⟨⟨uP,qf,hee⟩,hs3⟩:=cN h3
    rw[hs3]at G
    split at G
    ·rename_i e' xs A
     obtain⟨_,s4,h4,V⟩:=aS G
     obtain⟨C8,hs4⟩:=cN h4
     rw[hs4]at V
     simp only[eu,ax.aD,Option.some.injEq,gO]at V
     obtain⟨_,rfl⟩:=V
     have q:=sT xG xL hee
     have X:=q.mp
     have hi:=q.it
     obtain⟨b,e1,_,_,g4⟩:=(aR.rz X).1 aiR
     rw[ph hi]at e1
     obtain⟨f1,ys,f2,_⟩:=g4 uP (xy A)
     rw[A]at f2
     rcases f2 with f2|f2<;>cases f2
     obtain⟨b2,q1,g0⟩:=r1.Ic X A
     rw[f1,Option.some.injEq]at q1
     rw[CN q1.symm]at g0
     obtain⟨es,cq,H,g1,u,g3,gp,gu⟩:=(ej.mu hi).1 g0
     rw[q.oe]at u
     have hK:=Iy hT hki hsc
     obtain⟨B,O0⟩:=OW hkv O4 o hka
     have hvs:iK ei.kind.agg ei.size ux:=by grind [XG]
     have hks:iK ki.kind.agg ki.size uk:=by
      grind [IA]
     have Db:∀bn,qc (dn ki ei) {key:=uk,val:=ux,born:=bn}:=λbn=>by
      simp_all [xI]
     have O5:DL w p uk.cells.toList kd:=by grind [XI]
     have R:∀bn,km w p (kd++vd) (pi {key:=uk,val:=ux,born:=bn}):=λbn=>OY O5 p1 rfl rfl
     have hnz:¬p b:=(r1.dZ _ _ (r1.ak r j _ _ _ b qf (jc A (by simp)) f1 (lW ..)).1).1
     have fin:∀(k:bW dW)(g:Nat)(E:M dW),kl (dn ki ei) g k.toList→fR w p (putRow (ij e) ki.size kd vd xs) E→E.Perm k.toList→(ij e=I→E=k.toList)→
       ∃w',w'={w with heap:=acW w.heap b (.map k g)}∧aY K β T p (s2.set r {(s2 r)with cv:=(s2 r).cv+1,v:=(s2 r).v.setCell j (.ak e (putRow (ij e) ki.size kd vd xs))}) a w':=by
      intro k g E N S Y hun
      obtain⟨aiU,hhere⟩:=IC (o':=.map k g) g1
      refine⟨_,rfl,r1.OD X A qf f1 aiU ((ej.mu hi).2 ⟨k,g,E,hhere,by rw[q.oe];exact N,?_,Y,hun⟩)⟩
      grind [OX]
     have hwk:∀{es:M dW}{xs:M (M D)}(en:dW),fR w p xs es→∀bC,km w p bC (pi en)→fR w p (xs++[bC]) (es++[en]):=by
      intro es
      induction es with
      |nil=>intro xs en h bC hr;cases xs with|nil=>exact⟨hr,trivial⟩|cons _ _=>exact ab1 h
      |cons y es ih=>intro xs en h bC hr;cases xs with|nil=>exact ab1 h|cons x xs=>exact⟨h.1,ih en h.2 bC hr⟩
     rcases IB hK xG xL g3 gp u C8 o O0 with⟨q1,q2,q3⟩|⟨i,m,x,en,q1,q2,q3,Da,q4,q5,q6⟩
     ·have N:kl (dn ki ei) (cq+1) (es.toList++[{key:=uk,val:=ux,born:=cq}]):=by
        refine⟨λx f=>?_,λj x f=>?_,by rw[lg,u.cq];rfl,Hv.2 ⟨u.nd,ahF ..,λx f y hy=>by grind⟩⟩
        ·rcases nP.1 f with f|f
         ·exact u.ok x f
         grind
        ·rw[ayD]at f
         split at f
         ·exact u.born j x f
         ·rename_i hj
          have hj0:j-es.toList.length=0:=by
           grind
          grind [kl.cq]
      obtain⟨d,z1,z2,z3⟩:∃d:M dW,fR w p (putRow (ij e) ki.size kd vd xs) d∧d.Perm (es.toList++[{key:=uk,val:=ux,born:=cq}])∧(ij e=I→d=es.toList++[{key:=uk,val:=ux,born:=cq}]):=by
       cases hun:ij e with
       |false=>simp_all [putRow,CH]
       |true=>
        have hin:∀{xs:M (M D)}{es:M dW},fR w p xs es→∃d:M dW,fR w p (z7 ki.size kd (kd++vd) xs) d∧d.Perm (es++[{key:=uk,val:=ux,born:=cq}]):=by
         intro xs
         induction xs with
         |nil=>intro es h;cases es with|nil=>exact⟨[{key:=uk,val:=ux,born:=cq}],⟨R cq,trivial⟩,.refl _⟩|cons _ _=>exact ab1 h
         |cons x xs ih=>
          intro es h
          cases es with
          |nil=>exact ab1 h
          |cons y es=>
           simp only[z7]
           split
           ·exact⟨{key:=uk,val:=ux,born:=cq}::y::es,⟨R cq,h⟩,(List.perm_append_singleton _ _).symm⟩
           ·obtain⟨d,f1,f2⟩:=ih h.2
            exact⟨y::d,⟨h.1,f1⟩,f2.cons y⟩
        obtain⟨d,f1,f2⟩:=hin g3
        exact⟨d,by simp only[putRow,H7,q1];exact f1,f2.trans (gp.append_right _),λh=>by cases h⟩
      obtain⟨w',hw',hR⟩:=fin (es.push {key:=uk,val:=ux,born:=cq}) (cq+1) d (by grind) z1 (by grind) (λO6=>by grind)
      refine⟨w',β,T,p,?_,hR⟩
      rw[e1,hw']
      have q2':(N1 kt uk es.toList).run K.P w=.ok O w:=by rw[B];exact q2
      have Dd:(m6 I 10000 kt uk).run K.P w=.ok () w:=by rw[B];exact hK.check w kd I o
      simp only[N2,dC,lh hu,dF,qh g1,Dd,q2',C7 g1]
     ·have hil:i<es.toList.length:=(iO.1 q4).1
      have hml:m<H.length:=(iO.1 Da).1
      have hkey:en.key=uk:=by rw[q6,B]
      have hmod:(es.modify i λe=>{e with key:=uk,val:=ux}).toList=es.toList.set i {key:=uk,val:=ux,born:=en.born}:=by
       rw[ayE]
       apply uj
       grind
      have N:kl (dn ki ei) cq (es.toList.set i {key:=uk,val:=ux,born:=en.born}):=by
       refine⟨λx f=>?_,λj x f=>?_,by rw[List.length_set];exact u.cq,XH u.nd hil λx f=>by grind⟩
       ·rcases ahE f with f|rfl
        ·exact u.ok x f
        ·exact Db _
       ·rw[zH]at f
        split at f
        ·rename_i hij
         subst hij
         simp only[hil,bI,Option.some.injEq]at f
         subst f
         exact u.born i en q4
        ·exact u.born j x f
      have S:fR w p (xs.set m (kd++vd)) (H.set m {key:=uk,val:=ux,born:=en.born}):=by
       refine Iz (by simp[qg g3]) λj x e' f he'=>?_
       rw[zH]at f he'
       split at f
       ·grind
       ·rename_i hij
        rw[aV hij]at he'
        obtain⟨x',h1,h2⟩:=rD g3 he'
        grind
      classical
      have hset:∀(l:M dW)(n:Nat),l.Pairwise (λa b=>a.key≠b.key)→l[n]?=J en→l.set n {key:=uk,val:=ux,born:=en.born}=l.map λz=>if z.key=en.key then{key:=uk,val:=ux,born:=en.born}else z:=by
       intro l n hnd hn
       apply uj
       intro j
       rw[zH,iQ]
       by_cases hnj:n=j
       ·grind
       ·rw[aV hnj]
        cases hj:l[j]? with
        |none=>rfl
        |some z=>
         grind [OU]
      have ay9:H.Pairwise λa b=>a.key≠b.key:=(gp.pairwise_iff (λh=>Ne.symm h)).2 u.nd
      obtain⟨w',hw',hR⟩:=fin (es.modify i λe=>{e with key:=uk,val:=ux}) cq (H.set m {key:=uk,val:=ux,born:=en.born}) (by rw[hmod];exact N) (by cases hun:ij e<;>simp only[putRow,CH,H7,q1]<;>exact S) (by grind [kl.nd]) (λO6=>by
       grind)
      refine⟨w',β,T,p,?_,hR⟩
      rw[e1,hw']
      have q2':(N1 kt uk es.toList).run K.P w=.ok (J (i,en.val)) w:=by rw[B];exact q2
      have Dd:(m6 I 10000 kt uk).run K.P w=.ok () w:=by rw[B];exact hK.check w kd I o
      have O7:es[i]?=J en:=by simpa using q4
      have hstay:(Wq uk uk).run K.P w=.ok uk w:=by
       have O8:Hw 10000 uk uk=W:=by grind [XL]
       simp[Wq,O8]
      simp only[N2,dC,lh hu,dF,qh g1,Dd,q2',O7,Option.map_some,Option.getD_some,hkey,hstay,C7 g1]
    ·simp[ax.aD]at G
   ·simp[ax.aD]at F
  ·simp[ax.aD]at he
 ·simp[ax.aD]at he
omit hT in
def XM(h:aY K β ω Z s a w){ki ei:TI}{r:aO}{j hv cv e k:Nat}{i:M (M D)}{p:aJ}(l:aR K β Z s a w (.bj r j hv cv e k i) p)(m:(s r).hv=hv)(n:r.isArg=I)(c:e=dn ki ei)(hi:fQ (dn ki ei)=I)(o:ij (dn ki ei)=I) {q:Nat}{xs:M (M D)}(d:(s r).at j=.ak q xs):q=dn ki ei∧∃b es cq,p=.map (J b)∧cK K β a w r j=J (.map (J b))∧w.heap[b]?=J (.map es cq)∧kl (dn ki ei) cq (T es)∧fR w Z xs (T es)∧¬Z b:=by
 have g:ca e=W:=by rw[c];exact Iw
 have f:fQ e=I:=by rw[c];exact hi
 let⟨b,v,_,_,x⟩:=(aR.rz g).1 l;let⟨f1,ys,f2,_⟩:=x m (xy d);rw[d]at f2;rcases f2 with f2|f2<;>cases f2;let⟨B,t,u⟩:=h.Ic g d;rw[f1,Option.some.injEq]at t;rw[CN t.symm]at u;let⟨es,cq,y,z,A⟩:=(ej.mp f (by rw[c];exact o)).1 u;exact⟨c,b,es,cq,by rw[v,ph f],by rw[f1,ph f],y,by rw[←c];exact z,A,(h.dZ _ _ (h.ak r j _ _ _ b n (jc d (by simp)) f1 (lW ..)).1).1⟩
omit hT in
def O9(h:aY K β ω Z s a w){ki ei:TI}(hi:fQ (dn ki ei)=I)(i:ij (dn ki ei)=I){r:aO}{j:Nat}{xs ys:M (M D)}(k:(s r).at j=.ak (dn ki ei) xs)(l:r.isArg=I){b cq clk':Nat}{es es':bW dW}(o:cK K β a w r j=J (.map (J b))) (p:w.heap[b]?=J (.map es cq))(m:¬Z b)(n:kl (dn ki ei) clk' (T es'))(f:fR w Z ys (T es')):
  aY K β ω Z (s.set r {(s r)with cv:=(s r).cv+1,v:=(s r).v.setCell j (.ak (dn ki ei) ys)}) a {w with heap:=acW w.heap b (.map es' clk')}∧∀b,Z b→({w with heap:=acW w.heap b (.map es' clk')}:World).heap[b]?=({w with heap:=acW w.heap b (.map es' clk')}:World).heap[b]? :=by
 let⟨c,d⟩:=IC (o':=.map es' clk') p
 exact⟨h.OD Iw k l (by rw[o,ph hi]) c ((ej.mp hi i).2 ⟨es',clk',d,n,OX (λq g=>⟨c.other q (λe=>m (e▸g)),g⟩) f⟩),λ_ _=>rfl⟩
omit hT in
def Pb{es:bW dW}{i:Nat}{en:dW}(f:dW→dW)(h:(T es)[i]?=J en):T (es.modify i f)=(T es).set i (f en):=by have a:i<Y (T es):=(iO.1 h).1;rw[ayE];apply uj;grind
def aiW(h:aY K β ω Z s a w){t:bq}{m k:cF}{dst:Nat}{o:cS}(ho:o.op=.mapEntry t m k){v:SV}{s':St}(he:(cn af o.op dst).aD s=J (v,s')):cR K s' a dst ((execOp a.eval o).run K.P w) v:=by
 rw[ho]at he;simp only[cn]at he;obtain⟨c,s1,h1,Y⟩:=aS he;obtain⟨hs1,o1,r1,IF⟩:=gE h h1;rw[hs1]at Y;obtain⟨kv,s2,h2,p⟩:=aS Y;obtain⟨hs2,hkv,OZ,aiL⟩:=iU h h2;rw[hs2]at p;unfold xp at p;split at p;rename_i kt ki ei hm;obtain⟨et,hu,hki,O3,g,l⟩:=uT hT hm;split at p;rename_i sh kd z hsc O4 hz;obtain⟨_,s3,h3,q⟩:=aS p;obtain⟨⟨f,hkl,hka,hzl,hg⟩,hs3⟩:=cN h3;rw[hs3]at q;split at q;rename_i r j lv cv0 e k0 xs0;simp only[ax.aD]at q;obtain⟨_,s5,h5,u⟩:=aS q;obtain⟨⟨uP,F,hee⟩,hs5⟩:=cN h5;rw[hs5]at u;split at u;rename_i e' xs G;obtain⟨_,s6,h6,he6⟩:=aS u;obtain⟨C8,Pc⟩:=cN h6;rw[Pc]at he6;obtain⟨_,s7,H,IG⟩:=aS he6;simp only[eu,ax.aD,Option.some.injEq,gO]at H;obtain⟨_,H⟩:=H;obtain⟨hx,hs8⟩:=bg IG;obtain⟨hee',b,es,cq,e1,f1,N,R,g3,S⟩:=XM h r1 uP F hee (xJ g l) (uS g l) G;subst hee';have hK:=Iy hT hki hsc;obtain⟨hku,y⟩:=OW hkv O4 f hka;obtain⟨zv,XN,hrf,O1⟩:=OL (w:=w) (hT.T _ _ O3) hz;have hzd:DL w Z (T zv.cells) z:=qd hrf;have hzs:iK ei.kind.agg ei.size zv:=XF w hrf O1 hzl;have hks:iK ki.kind.agg ki.size (eI ki.kind.agg kd):=IA f hkl (λhf=>by have:=y hf;omega);have O5:DL w Z (T (eI ki.kind.agg kd).cells) kd:=XI f y;have Dd:(m6 I 10000 kt (eI ki.kind.agg kd)).run K.P w=.ok () w:=hK.check w kd I f;have hZ:∀(o':Obj)b',Z b'→({w with heap:=acW w.heap b o'}:World).heap[b']?=w.heap[b']? ∧Z b':=λo' b' hb'=>⟨(IC (o':=o') N).1.other b' (λe=>S (e▸hb')),hb'⟩;have A:∀(w':World)(vv:aJ)(ds:M D)(n:Nat),(∀b,Z b→w'.heap[b]?=w.heap[b]? ∧Z b)→iK ei.kind.agg ei.size vv→DL w Z (T vv.cells) ds→aY K β ω Z s' a w'→(execOp a.eval o).run K.P w=.ok (.value (.tuple #[vv,goInt n])) w'→v=.bw [(ei.kind.agg,ds.map .d),(I,[.d (.int .i64 n)])]→cR K s' a dst ((execOp a.eval o).run K.P w) v:=by intro w' vv ds n hZ' hs hd hR hrun O2;rw[O2];refine⟨_,w',β,ω,Z,hrun,hR,jv.CW ⟨#[vv,goInt n],rfl,IE hs (DL.mono' hZ' hd),?_,trivial⟩ ?_⟩;exact⟨_,rfl,rfl,rfl⟩;intro c hc;simp only[SV.cells,mZ,List.flatMap_nil,Cn,nP,mh,m7]at hc;rcases hc with⟨d,_,rfl⟩|rfl<;>simp[cQ]
 rcases IB hK g l g3 (.refl _) R C8 f y with⟨q1,q2,q2n⟩|⟨i,m,x,en,q1,q2,q3,Da,B,q5,_⟩
 have V:qc (dn ki ei) {key:=eI ki.kind.agg kd,val:=zv,born:=cq}:=(xI g l).2 ⟨hks,hzs⟩;obtain⟨p2,p3⟩:=aiI R g3 V rfl q2n (OY O5 hzd rfl rfl);obtain⟨hR,_⟩:=O9 (es':=es.push {key:=eI ki.kind.agg kd,val:=zv,born:=cq}) (clk':=cq+1) h (xJ g l) (uS g l) G F f1 N S (by grind) (by rw[Array.toList_push];exact p3);rw[q1]at H hx;have aiZ:cq=xs.length:=by rw[R.cq,qg g3]
 refine A _ zv z cq (hZ _) hzs hzd (by rw[hs8,←H];exact hR) ?_ (by rw[hx,aiZ];rfl);simp only[execOp,ho,Instr.mapEntry,e1,hku,dC,lh hu,dF,fF,qh N,Dd,q2,XN,C7 N];have hmi:m=i:=OU R.nd Da B rfl;subst hmi;have V:=R.ok en (fK B);obtain⟨hk,hv⟩:=(xI g l).1 V;obtain⟨x',p1,p2⟩:=rD g3 B;rw[q3]at p1;cases p1;obtain⟨p3,p4⟩:=Ak hk p2;have C:en.key=eI ki.kind.agg kd:=by grind
 have E:T (es.modify m λe=>{e with key:=eI ki.kind.agg kd})=T es:=by rw[Pb _ B];apply uj;intro n;rw[zH];split;rename_i hin;subst hin;rw[aF (iO.1 B).1,B,←C];rfl
 obtain⟨hR,_⟩:=O9 (ys:=xs) (es':=es.modify m λe=>{e with key:=eI ki.kind.agg kd}) (clk':=cq) h (xJ g l) (uS g l) G F f1 N S (by rw[E];exact R) (by rw[E];exact g3);rw[q1]at H hx;refine A _ en.val (x.drop ki.size) m (hZ _) hv p4 (by rw[hs8,←H];exact hR) ?_ (by rw[hx];simp only[iR,kU q3,Option.getD_some]);have O7:es[m]?=J en:=by simpa using B
 have X:(Wq (eI ki.kind.agg kd) (eI ki.kind.agg kd)).run K.P w=.ok (eI ki.kind.agg kd) w:=by simp[Wq,XL f y]
 simp only[execOp,ho,Instr.mapEntry,e1,hku,dC,lh hu,dF,fF,qh N,Dd,q2,O7,Option.map_some,Option.getD_some,C,X,C7 N,R.born m en B];simp[ax.aD]at u;simp[ax.aD]at q;simp[ax.aD]at p;simp[ax.aD]at p
def ai1(h:aY K β ω Z s a w){t:bq}{c st:C}{um us ux:aJ}{E:SV}{y:bV}{s':St}(F:aR K β Z s a w c um)(G:aR K β Z s a w st us)(H:bO (aR K β Z s a w) ux E) (N:∀c∈E.cells,cQ c)(D:(CI af t c st E).aD s=J (y,s')):∃w' R ω' Z',(ayF t um us ux).run K.P w=.ok () w'∧aY K R ω' Z' s' a w':=by
 unfold CI at D;split at D;rename_i kt ki ei kk n vc hm S;obtain⟨et,hu,hki,O3,f,g⟩:=uT hT hm;obtain⟨_,s1,h1,o⟩:=aS D;obtain⟨⟨hvl,hva⟩,T⟩:=cN h1;rw[T]at o;obtain⟨vd,s2,h2,i⟩:=aS o;obtain⟨V,p⟩:=xE H S;obtain⟨X,Z1,r1,k1,p1⟩:=Io vc _ ω Z s s2 vd h p (λc hc=>N c (by rw[V];exact hc)) h2;split at i;rename_i r j Y cv0 e k0 xs0;have q:=k1.ls h.dp (c:=.bj r j Y cv0 e k0 xs0) (by simp) F;simp only[ax.aD]at i;obtain⟨_,s3,h3,k⟩:=aS i;obtain⟨⟨uP,u,hee⟩,hs3⟩:=cN h3;rw[hs3]at k;split at k;rename_i e' xs v;obtain⟨_,s4,h4,l⟩:=aS k;obtain⟨⟨hn0,xM⟩,hs4⟩:=cN h4;rw[hs4]at l;simp only[eu,ax.aD,Option.some.injEq,gO]at l;obtain⟨_,rfl⟩:=l;obtain⟨z,b,es,cq,e1,f1,g1,A,g3,hnz⟩:=XM r1 q uP u hee (xJ f g) (uS f g) v;subst z;have e2:us=.int kk n:=G;have hl:=qg g3;have m:n.toNat<es.toList.length:=by omega
 obtain⟨en,d⟩:∃en,es.toList[n.toNat]?=J en:=⟨_,eM m⟩;have Db:=A.ok en (fK d);obtain⟨hk,hv⟩:=(xI f g).1 Db;obtain⟨x,q3,p2⟩:=rD g3 d;obtain⟨p3,p4⟩:=Ak hk p2;have hvs:iK ei.kind.agg ei.size ux:=by grind [XG]
 have B:qc (dn ki ei) {en with val:=ux}:=(xI f g).2 ⟨hk,hvs⟩;obtain⟨o1,o2⟩:=aiH (en:={en with val:=ux}) (y:=x.take ki.size++vd) A g3 m B (show en.born=_ from A.born _ en d) (λx hx=>by grind) (OY p3 p1 rfl rfl);obtain⟨hR,_⟩:=O9 (es':=es.modify n.toNat λe=>{e with val:=ux}) (clk':=cq) r1 (xJ f g) (uS f g) v u f1 g1 hnz (by rw[Pb _ d];exact o1) (by rw[Pb _ d];exact o2);refine⟨_,β,X,Z1,?_,by rw[kU q3];exact hR⟩;have hfi:es.findIdx? (λe=>(e.born:L)==n)=J n.toNat:=by
  have hsz:n.toNat<es.size:=by simpa using m
  rw[Array.findIdx?_eq_some_iff_getElem];refine⟨hsz,?_,λj hj=>?_⟩;have:es[n.toNat]=en:=by grind
  rw[this,A.born _ _ d];simp;omega;have hj2:es.toList[j]?=J es[j]:=by rw[qV,Array.getElem?_eq_getElem]
  rw[A.born _ _ hj2];simp;omega
 rw[e1,e2];simp only[ayF,dC,dF,qh g1,Go.asInt,asIntOf,fF,hfi,C7 g1];simp[ax.aD]at k;simp[ax.aD]at i;simp[ax.aD]at D
def ai3(h:aY K β ω Z s a w){t:bq}{c:C}{u:aJ}{v:SV}{s':St}(i:aR K β Z s a w c u)(g:(z8 af t c).aD s=J (v,s')):s'=s∧∃n:Nat,v=gR .i64 n∧(u=.map O∧n=0∨∃b es cq,u=.map (J b)∧w.heap[b]?=J (.map es cq)∧n=es.size)∧∃kt j,acK K.P t=J (.map kt j):=by
 unfold z8 at g;split at g;rename_i kt ki ei o;let⟨j,p,q,r,d,e⟩:=uT hT o;let⟨xs,E,h1,k⟩:=aS g;let⟨l,x⟩:=XE h (λF f=>⟨(sT d e f).mp,(sT d e f).it,(sT d e f).oe⟩) i h1;let⟨y,m⟩:=bg k;refine⟨by rw[m,l],Y xs,y,?_,kt,j,p⟩;rcases x with⟨rfl,rfl⟩|⟨b,rfl,es,cq,z,A,G,B,D⟩
 grind;exact .inr ⟨b,es,cq,rfl,A,by rw[qg B,D.length_eq];simp⟩;simp[ax.aD]at g
end
end
section
variable{K:dh}{β:aC→Option Nat}{ω:Nat→Option cT}{Z:Nat→Prop}{s:St}{a:Act}{w:World}{af:bM}(hT:ip K.P af)
def ai4(h:aY K β ω Z s a w){x:cF}{dst:Nat}{o:cS}(g:o.op=.move x){v:SV}{s':St}(d:(cn af o.op dst).aD s=J (v,s')):cR K s' a dst ((execOp a.eval o).run K.P w) v:=by
 rw[g]at d;simp only[cn]at d;let⟨v1,l,h1,c⟩:=aS d;let⟨e,hv,f,i⟩:=iU h h1;subst e;have b:(execOp a.eval o).run K.P w=.ok (.value (adx a x)) w:=by simp[execOp,g]
 split at c;grind [bg,cR.same];let⟨ω',Z',j,k1,k⟩:=Xh h hv f c;exact⟨_,w,β,ω',Z',b,j,k⟩
def ai5(h:aY K β ω Z s a w){x:cF}{dst:Nat}{o:cS}(g:o.op=.assign x){v:SV}{s':St}(c:(cn af o.op dst).aD s=J (v,s')):cR K s' a dst ((execOp a.eval o).run K.P w) v:=by
 rw[g]at c;simp only[cn]at c;let⟨v1,l,h1,d⟩:=aS c;let⟨e,hv,f,i⟩:=iU h h1;subst e;have b:(execOp a.eval o).run K.P w=.ok (.value (adx a x)) w:=by simp[execOp,g]
 let⟨ω',Z',j,k1,k⟩:=Xe h hv f d;exact⟨_,w,β,ω',Z',b,j,k⟩
def ai6(h:aY K β ω Z s a w){c x y:cF}{dst:Nat}{o:cS}(m:o.op=.pick c x y){v:SV}{s':St}(e:(cn af o.op dst).aD s=J (v,s')):cR K s' a dst ((execOp a.eval o).run K.P w) v:=by
 rw[m]at e;simp only[cn]at e;let⟨c1,u,h1,f⟩:=aS e;let⟨g,z,p,n⟩:=gE h h1;subst g;clear e;let⟨b,A,h2,d⟩:=aS f;let⟨i,q⟩:=aiu h2;subst i;subst q;have r:adx a c=.bool b:=p;have j:(execOp a.eval o).run K.P w=.ok (.value (if b=W then adx a x else adx a y)) w:=by simp[execOp,m,r,asBool]
 split at d;rename_i t;let⟨k,hv,l,_⟩:=iU h d;grind [cR.same];rename_i t;let⟨k,hv,l,_⟩:=iU h d;grind [cR.same]
def ai7(h:aY K β ω Z s a w){x:cF}{dst:Nat}{o:cS}(f:o.op=.nilCheck x){v:SV}{s':St}(g:(cn af o.op dst).aD s=J (v,s')):cR K s' a dst ((execOp a.eval o).run K.P w) v:=by rw[f]at g;simp only[cn]at g;let⟨c1,m,h1,c⟩:=aS g;let⟨i,j,d,k⟩:=gE h h1;subst i;clear g;split at c;obtain⟨rfl,rfl⟩:=bg c;let⟨b,n,e⟩:=id d;exact cR.same h (u:=adx a x) (by simp[execOp,f,e]) ⟨j,d⟩ (by simp[SV.cells,cQ]);obtain⟨rfl,rfl⟩:=bg c;let⟨b,l,e,_⟩:=id d;exact cR.same h (u:=adx a x) (by simp[execOp,f,e]) ⟨j,d⟩ (by simp[SV.cells,cQ]);obtain⟨rfl,rfl⟩:=bg c;let⟨b,l,e,_⟩:=id d;exact cR.same h (u:=adx a x) (by simp[execOp,f,e]) ⟨j,d⟩ (by simp[SV.cells,cQ]);simp[ax.aD]at c
include hT in
def ai8(h:aY K β ω Z s a w){t:bq}{x:cF}{dst:Nat}{o:cS}(g:o.op=.load t x){v:SV}{s':St}(b:(cn af o.op dst).aD s=J (v,s')):cR K s' a dst ((execOp a.eval o).run K.P w) v:=by rw[g]at b;simp only[cn]at b;split at b;rename_i i c;let⟨c1,p,h1,d⟩:=aS b;let⟨e,q,j,k⟩:=gE h h1;subst e;let⟨f,y,l,m,n⟩:=Xk h (hT.T _ _ c) j d;subst f;exact cR.same h (u:=y) (by simp[execOp,g,l]) m n;simp[ax.aD]at b
include hT in
def ai9(h:aY K β ω Z s a w){t:bq}{x:cF}{f dst:Nat}{o:cS}(i:o.op=.fieldAddr t x f){v:SV}{s':St}(b:(cn af o.op dst).aD s=J (v,s')):cR K s' a dst ((execOp a.eval o).run K.P w) v:=by rw[i]at b;simp only[cn]at b;let⟨c1,q,h1,c⟩:=aS b;let⟨d,r,j,k⟩:=gE h h1;subst d;let⟨z,A,h2,e⟩:=aS c;obtain⟨rfl,rfl⟩:=bg e;let⟨g,y,l,m,n,p⟩:=aii hT j h2;subst g;exact cR.same h (u:=y) (by simp[execOp,i,l]) ⟨p,m⟩ (by simpa[SV.cells]using n)
include hT in
def aja(h:aY K β ω Z s a w){t:bq}{x z:cF}{dst:Nat}{o:cS}(A:o.op=.indexAddr t x z){v:SV}{s':St}(p:(cn af o.op dst).aD s=J (v,s')):cR K s' a dst ((execOp a.eval o).run K.P w) v:=by
 rw[A]at p;simp only[cn]at p;split at p;rename_i g;let⟨c2,s2,h2,b⟩:=aS p;let⟨d,o2,B,q⟩:=gE h h2;subst d;let⟨n,s3,h3,e⟩:=aS b;obtain⟨f,k,rfl⟩:=uR h3;subst f;let⟨c3,s4,c,m⟩:=aS e;obtain⟨rfl,rfl⟩:=bg m;have C:adx a z=.int k n:=B;unfold H0 at c;split at c;rename_i l size bytes len et zero hl D;let⟨dd,hd,hk,E⟩:=fe (w:=w) (hT.T _ _ D);have F:=Iq hk;subst F;split at c;rename_i i H;let⟨_,s5,h5,h6⟩:=aS c;let⟨hn,N⟩:=cN h5;subst N;let⟨_,s6,h7,h8⟩:=aS h6;let⟨⟨Y,R⟩,S⟩:=cN h7;subst S;obtain⟨rfl,rfl⟩:=bg h8;let⟨q1,q2,q3,q4⟩:=h.laid g _ (hT.G _ _ hl);have e1:adx a (.global g)=.pointer (J ⟨g,0,O⟩):=rfl;have hlt:G n<l.length:=by omega
 refine cR.same h (u:=.pointer (J ⟨g,G n,O⟩)) ?_ ⟨rfl,g,G n,rfl,q2,⟨_,q4.aE (j:=G n) (v:=.int .u64 (l.getD (G n) 0)) ?_,rfl⟩,trivial⟩ (by simp[SV.cells,cQ]);simp[execOp,A,C,e1,NY,asIntOf,E,lu (hT.T _ _ H),hn,wU,xw,R];grind;simp[ax.aD]at c;simp[ax.aD]at c;let⟨c1,s1,h1,r⟩:=aS p;let⟨V,o1,r1,hno⟩:=gE h h1;subst V;clear p;let⟨c2,s2,h2,b⟩:=aS r;let⟨d,o2,B,q⟩:=gE h h2;subst d;clear r;let⟨n,s3,h3,e⟩:=aS b;obtain⟨f,k,rfl⟩:=uR h3;subst f;clear b;let⟨c3,s4,c,m⟩:=aS e;obtain⟨rfl,rfl⟩:=bg m;have C:adx a z=.int k n:=B;let⟨X,y,g1,g2,g3,g4⟩:=aij hT (k:=k) r1 c;subst X;exact cR.same h (u:=y) (by simp[execOp,A,C,g1]) ⟨g4,g2⟩ (by simpa[SV.cells]using g3)
def XO{P:ew}{i:TI}{t:bq}(f:kR P t=J i){ws:bW aJ}{cs:M C}(b:aQ (λu c=>aR K β Z s a w c u) (T ws) cs)(g:∀c∈cs,cQ c){off:Nat}{v:SV}{s':St} (n:(mv i cs off).aD s=J (v,s')):s'=s∧∃y,(part t ws off).run P w=.ok y w∧bO (aR K β Z s a w) y v∧(∀c∈v.cells,cQ c):=by
 obtain⟨rfl,l,o,h⟩:=C0 n;have q:=b.length;rcases h with⟨hk,rfl⟩|⟨hk,c,e,j,rfl⟩
 refine⟨rfl,.agg (ws.extract off (off+i.size)),?_,⟨_,rfl,?_⟩,λc e=>g c (List.mem_of_mem_drop (List.mem_of_mem_take e))⟩;simp[part,Ip f,hk,lu f];have:T (ws.extract off (off+i.size))=((T ws).drop off).take i.size:=by simp_all
 rw[this];exact(b.drop off).take _;let⟨u,p,d⟩:=b.aE e;have m:=fK e;refine⟨rfl,u,?_,⟨CZ d j,d⟩,by simp_all [SV.cells]⟩;have k:ws[off]?=J u:=by simpa using p
 simp[part,Ip f,hk,k]
include hT in
def ajb(h:aY K β ω Z s a w){t:bq}{x:cF}{f dst:Nat}{o:cS}(r:o.op=.field t x f){v:SV}{s':St}(g:(cn af o.op dst).aD s=J (v,s')):cR K s' a dst ((execOp a.eval o).run K.P w) v:=by
 rw[r]at g;simp only[cn]at g;let⟨v1,G,h1,b⟩:=aS g;let⟨j,hv,k,B⟩:=iU h h1;subst j;clear g;split at b;rename_i fs z cs l;split at b;rename_i H N c;split at b;rename_i i m;let⟨d,hd,hk,n⟩:=fe (w:=w) (hT.T _ _ l);obtain⟨fields,rfl,rfl⟩:=CY hk;rw[iQ]at c;cases A:(T fields)[f]? with
 |none=>grind|some fd=>
  rw[A]at c;simp only[Option.map_some,Option.some.injEq,gO]at c;obtain⟨rfl,rfl⟩:=c;have p:fields[f]?=J fd:=by simpa using A
  let⟨ws,C,e⟩:=hv;let⟨q,y,D,E,F⟩:=XO (P:=K.P) (hT.T _ _ m) e k b;subst q;exact cR.same h (u:=y) (by simp[execOp,r,Instr.field,n,p,C,asAgg,D]) E F
 simp[ax.aD]at b;simp[ax.aD]at b;simp[ax.aD]at b
include hT in
def ajc(h:aY K β ω Z s a w){t:bq}{x N:cF}{dst:Nat}{o:cS}(C:o.op=.index t x N){v:SV}{s':St}(B:(cn af o.op dst).aD s=J (v,s')):cR K s' a dst ((execOp a.eval o).run K.P w) v:=by rw[C]at B;simp only[cn]at B;let⟨v1,s1,h1,p⟩:=aS B;let⟨D,hv,E,V⟩:=iU h h1;subst D;clear B;let⟨c2,s2,h2,q⟩:=aS p;let⟨f,o2,X,R⟩:=gE h h2;subst f;clear p;let⟨n,s3,h3,c⟩:=aS q;obtain⟨F,k,rfl⟩:=uR h3;subst F;clear q;have S:adx a N=.int k n:=X;unfold CG at c;split at c;rename_i bh g;let⟨d,hd,hk,j⟩:=fe (w:=w) (hT.T _ _ g);have l:=sP hk;subst l;let⟨_,Y,G,e⟩:=aS c;let⟨hn,m⟩:=cN G;subst m;split at e;rename_i b hb;obtain⟨rfl,rfl⟩:=bg e;have H:adx a x=.string ⟨abf bh⟩:=hv.2;refine cR.d h (u:=.int .u8 b.toNat) ?_ rfl;simp[execOp,C,Instr.index,H,S,asIntOf,j,hn,aim,hb];simp[ax.aD]at e;rename_i len et z cs g;let⟨d,hd,hk,j⟩:=fe (w:=w) (hT.T _ _ g);have l:=Iq hk;subst l;split at c;rename_i i r;let⟨_,Y,G,e⟩:=aS c;let⟨hn,m⟩:=cN G;subst m;let⟨ws,H,A⟩:=hv;let⟨f,y,g1,g2,g3⟩:=XO (P:=K.P) (hT.T _ _ r) A E e;subst f;exact cR.same h (u:=y) (by simp[execOp,C,Instr.index,H,S,asIntOf,j,hn,lu (hT.T _ _ r),g1]) g2 g3;simp[ax.aD]at c;simp[ax.aD]at c
include hT in
def ajd(h:aY K β ω Z s a w){args:bW cF}{A:bW bq}{dst:Nat}{o:cS}(B:o.op=.call {callee:=.builtin .len,args,argTypes:=A}){v:SV}{s':St}(g:(cn af o.op dst).aD s=J (v,s')):cR K s' a dst ((execOp a.eval o).run K.P w) v:=by
 rw[B]at g;simp only[cn]at g;split at g;rename_i x t X Y;have k:args=#[x]:=by grind
 have C:A=#[t]:=by grind
 subst k;subst C;have key:∀b:az,(∃i,af.ti t=J i∧((b=W∧i.kind=.bh)∨(b=I∧∃e,i.kind=.slice e)))→(do rm b (←ev x):ax SV).aD s=J (v,s')→cR K s' a dst ((execOp a.eval o).run K.P w) v:=by
  rintro b ⟨i,E,f⟩ g;let⟨v1,H,h1,j⟩:=aS g;let⟨m,hv,N,R⟩:=iU h h1;subst m;obtain⟨p,n,rfl,F⟩:=aiw hv j;subst p;let⟨d,hd,hk,D⟩:=fe (w:=w) (hT.T _ _ E);refine cR.d h (u:=.int .i64 n) ?_ rfl;rcases F with⟨rfl,l,r,rfl⟩|⟨rfl,ad,cap,r⟩
  have y:tk d=.bh:=f.elim (λq=>by rw[hk,q.2]) (λq=>by cases q.1);have z:=sP y;subst z;simp[execOp,B,resolve,invoke,builtin,Ws,r,D,goInt,C6];obtain⟨e,y⟩:∃e,tk d=.slice e:=f.elim (λq=>by cases q.1) (λ⟨_,e,q⟩=>⟨e,by rw[hk,q]⟩);have z:=oh y;subst z;simp[execOp,B,resolve,invoke,builtin,Ws,r,D,goInt]
 split at g;grind;grind;let⟨c,H,h1,j⟩:=aS g;let⟨m,o1,S,G⟩:=gE h h1;rw[m]at j;obtain⟨p,n,rfl,F,kt,et,hd⟩:=ai3 hT h S j;subst p;refine cR.d h (u:=.int .i64 n) ?_ rfl;rcases F with⟨r,rfl⟩|⟨b,es,cq,r,V,rfl⟩
 simp[execOp,B,resolve,invoke,builtin,Ws,r,lh hd,goInt];simp[execOp,B,resolve,invoke,builtin,Ws,r,lh hd,goInt,qh V];simp[ax.aD]at g;simp[ax.aD]at g
def Pd(h:aY K β ω Z s a w):∀(os:M cF){vs:M SV}{s':St},(rl os).aD s=J (vs,s')→s'=s∧aQ (λu v=>bO (aR K β Z s a w) u v) (os.map a.eval) vs∧(∀v∈vs,(∀c∈v.cells,cQ c)∧v≠.undef):=by
 intro os;induction os with
 |nil=>intro vs s' d;obtain⟨rfl,rfl⟩:=bg d;exact⟨rfl,trivial,by simp⟩
 |cons o os m=>intro vs s' d;simp only[rl]at d;let⟨v,r,h1,b⟩:=aS d;let⟨e,hv,n,p⟩:=iU h h1;rw[e]at b;let⟨q,t,h2,f⟩:=aS b;let⟨g,i,k⟩:=m h2;let⟨l,j⟩:=bg f;rw[l];refine⟨by rw[j,g],⟨hv,i⟩,λx l=>?_⟩;grind
def XP(h:aY K β ω Z s a w){args:bW cF}{f:bW bq}{dst:Nat}{o:cS}{b:az}(l:o.op=.call {callee:=.builtin (if b then .min else .max),args,argTypes:=f}){v:SV}{s':St} (r:(do CL b (←rl (T args)):ax SV).aD s=J (v,s')):cR K s' a dst ((execOp a.eval o).run K.P w) v:=by
 let⟨vs,z,h1,c⟩:=aS r;let⟨g,e,i⟩:=Pd h _ h1;subst g;unfold CL at c;split at c;rename_i k x k' y;obtain⟨rfl,rfl⟩:=bg c;match j:T args,e with
 |[p,q],e=>
  have m:adx a p=.int k x:=e.1.2;have n:adx a q=.int k' y:=e.2.1.2;have t:args=#[p,q]:=by grind
  subst t;refine cR.d h (u:=.int k (if b then(if y<x then y else x)else(if y>x then y else x))) ?_ rfl;cases b;simp[execOp,l,resolve,invoke,builtin,Builtin.max_,Builtin.max2,m,n];simp[execOp,l,resolve,invoke,builtin,Builtin.min_,Builtin.min2,m,n]
 simp[ax.aD]at c
def aje(h:aY K β ω Z s a w){f:dT}{first captured:bW cF}{dst:Nat}{o:cS}(x:o.op=.makeFunc (.func f) first captured){v:SV}{s':St}(i:(cn af o.op dst).aD s=J (v,s')):cR K s' a dst ((execOp a.eval o).run K.P w) v:=by
 rw[x]at i;simp only[cn]at i;let⟨_,D,y,j⟩:=aS i;let⟨e,m⟩:=cN y;subst m;clear i;let⟨vs,E,h1,g⟩:=aS j;let⟨n,q,r⟩:=Pd h _ h1;subst n;split at g;rename_i l d;obtain⟨rfl,rfl⟩:=bg g;have key:∀(os:M aJ)(vs:M SV)(l:M (aC×Nat)),aQ (λu v=>bO (aR K β Z s' a w) u v) os vs→vs.mapM (λv=>match v with|.one (.aW k o)=>J (k,o)|_=>O)=J l→aQ (λu p=>∃b,β p.1=J b∧u=.pointer (J ⟨b,p.2,O⟩)) os l:=by
  intro os;induction os with
  |nil=>
   intro vs l hv d;cases vs with|nil=>simp at d;subst d;trivial|cons _ _=>exact ab1 hv
  |cons u os z=>
   intro vs l hv d;cases vs with
   |nil=>exact ab1 hv|cons v vs=>
    rw[List.mapM_cons]at d;cases v with
    |one c=>
     cases c with
     |aW k off=>
      cases t:vs.mapM (λv=>match v with|.one (.aW k o)=>J (k,o)|_=>O)with|none=>simp[t]at d|some A=>simp[t]at d;subst d;let⟨b,B,C⟩:=hv.1.2;exact⟨⟨b,B,C⟩,z vs A hv.2 t⟩
     |_=>simp at d
    |_=>simp at d
 have:=key _ _ _ q d;refine cR.same h (u:=.func (.func f) #[] (captured.map a.eval)) ?_ ⟨rfl,captured.map a.eval,rfl,by simpa using this⟩ (by simp[SV.cells,cQ]);simp[execOp,x,Instr.makeFunc,e];simp[ax.aD]at g
def ajf(h:aY K β ω Z s a w){x:cF}{n dst:Nat}{o:cS}(y:o.op=.extract x n){v:SV}{s':St}(b:(cn af o.op dst).aD s=J (v,s')):cR K s' a dst ((execOp a.eval o).run K.P w) v:=by
 rw[y]at b;simp only[cn]at b;let⟨v1,z,h1,d⟩:=aS b;let⟨m,hv,p,B⟩:=iU h h1;subst m;clear b;split at d;rename_i vs;let⟨us,D,e⟩:=hv;have key:∀(bx:az×M C)(v2:SV),vs[n]?=J bx→((bx.1=W∧v2=.agg bx.2)∨(bx.1=I∧∃c,bx.2=[c]∧v2=.one c))→(lV (.tmp dst) x v2).aD z=J (v,s')→cR K s' a dst ((execOp a.eval o).run K.P w) v:=by
  intro bx v2 f g b;let⟨u,E,i⟩:=e.aE f;have q:us[n]?=J u:=by simpa using E
  have r:bO (aR K β Z z a w) u v2:=by
   unfold eC at i;rcases g with⟨j,rfl⟩|⟨j,c,l,rfl⟩
   simp only[j,bI]at i;exact i;simp only[j,bL,ch]at i;let⟨F,A,G,H⟩:=i;rw[l]at A;cases A;exact⟨G,H⟩
  have k:∀c∈v2.cells,cQ c:=by
   intro c l;refine p c (Hp.2 ⟨bx,fK f,?_⟩);rcases g with⟨j,rfl⟩|⟨j,F,t,rfl⟩
   exact l;rw[t];exact l
  let⟨ω',Z',N,k1,R⟩:=Xh h r k b;exact⟨u,w,β,ω',Z',by simp[execOp,y,D,Instr.extract,q],N,R⟩
 grind [ax.aD];simp[ax.aD]at d
end
section
variable{K:dh}{β:aC→Option Nat}{ω:Nat→Option cT}{Z:Nat→Prop}{s:St}{a:Act}{w:World}{af:bM}(hT:ip K.P af)
def De{e b:Nat}{ws:bW aJ}{el:bq}{fz:Nat×Nat}(c:w.heap[b]?=J (.cells ws el fz)):∀(rows:M (M D))(o:Nat),(∀r∈rows,Y r=e)→(∀(j:Nat)d,(adC rows)[j]?=J d→∃u,ws[o+j]?=J u∧bA w Z d u)→dy w Z e rows b o|[],_,_,_=>trivial|r::rows,o,a,h=>by have f:=a r (lf ..);refine⟨f,fB.dX λj d hd=>?_,De c rows (o+e) (λx g=>a x (i7 _ g)) λj d hd=>?_⟩;have i:j<Y r:=(iO.1 hd).1;simp_all [pS,World.cell?];let⟨u,h1,h2⟩:=h (e+j) d (by grind);grind
theorem IH{e:Nat}:∀{rows:M (M D)},(∀r∈rows,Y r=e)→Y (adC rows)=Y rows*e|[],_=>by simp|r::rows,h=>by simp only[Wt,lg,kO,IH (rows:=rows) (λx a=>h x (i7 _ a)),h r (lf ..),Nat.add_mul];omega
theorem dy.us{e b:Nat}:∀{xs:M (M D)}{o:Nat},dy w Z e xs b o→∃us,DL w Z us (adC xs)∧Y us=Y xs*e∧∀j,j<Y us→ve w ⟨b,o+j,O⟩=us[j]?
 |[],_,_=>⟨[],trivial,by simp,by simp⟩|x::xs,o,h=>by
  let⟨h1,h2,h3⟩:=h;let⟨a,f1,f2⟩:=h2.us;let⟨u2,c,d,f⟩:=dy.us h3;have g:Y a=e:=by rw[f1.length,h1]
  refine⟨a++u2,aQ.append f1 c,by grind,λj i=>?_⟩;grind
theorem DL.aE{us:M aJ}{ds:M D}(h:DL w Z us ds){j:Nat}{d:D}(hd:ds[j]?=J d):∃u,us[j]?=J u∧bA w Z d u:=aQ.aE h hd
theorem DL.mono{w':World}{Z':Nat→Prop}(hZ:∀b,Z b→w'.heap[b]?=w.heap[b]? ∧Z' b){us:M aJ}{ds:M D}(h:DL w Z us ds):DL w' Z' us ds:=aQ.mono (λ_ _ a=>bA.mono hZ _ _ a) h
theorem Pe(zero:bW aJ)(n:Nat):T ((N3 (n*zero.size)).map λi=>zero[i%zero.size]!)=adC (ep n (T zero)):=by
 apply uj;intro i;have a:Y (adC (ep n (T zero)))=n*zero.size:=by simp
 by_cases hi:i<n*zero.size;have b:0<zero.size:=by grind
 have key:∀(n i:Nat),i<n*zero.size→(adC (ep n (T zero)))[i]?=(T zero)[i%zero.size]? :=by
  intro n;induction n with
  |zero=>intro i hi;simp at hi
  |succ n c=>intro i hi;simp only[ahG,Wt];by_cases h1:i<Y (T zero);simp_all [pS,Nat.mod_eq_of_lt];grind [Nat.mod_eq_sub_mod]
 grind;grind
theorem II{us:M aJ}{ds:M D}(h:DL w Z us ds):∀n:Nat,DL w Z (adC (ep n us)) (adC (ep n ds))|0=>trivial|n+1=>by simp only[ahG,Wt];exact aQ.append h (II h n)
def Df(h:aY K β ω Z s a w){e dst len cap:Nat}{ws:bW aJ}{el:bq}{rows:M (M D)}{r:Result Next}(v:r=.ok (.value (.slice (J ⟨w.heap.size,0,O⟩) len cap)) (ac2 w (.cells ws el))) (n:Y rows=len)(f:len≤cap)(o:cap*e≤ws.size)(g:∀r∈rows,Y r=e)(hd:∀(j:Nat)d,(adC rows)[j]?=J d→∃u,ws[j]?=J u∧bA w Z d u)(hm:ca e=I):cR K s a dst r (.one (.ak e rows)):=by
 let⟨y,k1,f1,p⟩:=h.alloc ws el (.tmp dst,J 0);refine⟨_,_,β,_,Z,v,y,⟨rfl,(aR.ju hm).2 ⟨⟨w.heap.size,0,O⟩,cap,by rw[n],rfl,by rw[n];exact f,?_⟩⟩,?_⟩;refine De p rows 0 g λj d i=>?_;let⟨u,k,l⟩:=hd j d i;exact⟨u,by simpa using k,bA.mono (λb m=>⟨k1.heap b (h.dp b m),m⟩) _ _ l⟩;intro j c x q t;have i:j=0:=by grind [SV.cells]
 subst i;simp only[SV.cells,iA,Option.some.injEq]at q;simp only[eB,iA,Option.some.injEq]at t;subst q;subst t;refine⟨(aR.ju hm).2 ⟨⟨w.heap.size,0,O⟩,cap,by rw[n],rfl,by rw[n];exact f,?_⟩,λz xs b k l=>?_⟩;refine De p rows 0 g λj d i=>?_;let⟨u,k,l⟩:=hd j d i;exact⟨u,by simpa using k,bA.mono (λb m=>⟨k1.heap b (h.dp b m),m⟩) _ _ l⟩;cases k;cases l;exact⟨by simp,⟨ws,el,0,0,p,by simpa using o,by omega⟩,f1⟩
theorem uU{P:ew}(el:bq)(ws:bW aJ):(newRow el ws).run P w=.ok ⟨w.heap.size,0,O⟩ (ac2 w (.cells ws el)):=rfl
def XQ(h:aY K β ω Z s a w){k:aC}(i:(s (.box k)).v=.undef){ws:bW aJ}{el:bq}{cs:M C}(hp:il K β ω Z s a w (λn=>(.box k,n)) 0 (T ws) cs):∃c ω',aY K c ω' Z (s.set (.box k) {hv:=(s (.box k)).hv+1,cv:=(s (.box k)).cv,v:=.agg cs}) a (ac2 w (.cells ws el))∧c k=J w.heap.size:=by
 let⟨l,k1,f1,m⟩:=h.alloc ws el (.box k,O);have d:=il.lift h k1 hp;have f:β k=O:=by have:=h.aI k;rw[i]at this;exact this
 let⟨r,_⟩:=l.Oy (k:=k) (b:=w.heap.size) (ws:=ws) (el:=el) (lo:=0) (hi:=0) (w':=ac2 w (.cells ws el)) (cs:=cs) (by simp) (.inl f) rfl rfl rfl rfl (λ_ _=>rfl) m (by omega) d.all (by intro j e xs t o p q g;have:=(d.aE p q).2 e xs o rfl g;grind);grind
def XR{c:aC→Option Nat}{ω':Nat→Option cT}{Z':Nat→Prop}{s':St}{w':World}{k:aC}{b dst:Nat}(h:aY K c ω' Z' s' a w')(d:c k=J b){r:Result Next}(e:r=.ok (.value (.pointer (J ⟨b,0,O⟩))) w'):cR K s' a dst r (.one (.aW k 0)):=⟨_,w',c,ω',Z',e,h,jv.CW ⟨rfl,b,d,rfl⟩ (by simp[SV.cells,cQ])⟩
def DL.XS{mk:Nat→aO×Nat}:∀{i:Nat}{us:M aJ}{ds:M D},DL w Z us ds→il K β ω Z s a w mk i us (ds.map .d)|_,[],[],_=>trivial|_,_::_,_::_,h=>⟨lr.Ag (by simp[cQ]) h.1,DL.XS h.2⟩
include hT in
def ajg(h:aY K β ω Z s a w){t:bq}{dst:Nat}{o:cS}(k:o.op=.alloc t){v:SV}{s':St}(c:(cn af o.op dst).aD s=J (v,s')):cR K s' a dst ((execOp a.eval o).run K.P w) v:=by rw[k]at c;simp only[cn]at c;split at c;rename_i size bytes kind z e;let⟨_,r,h1,b⟩:=aS c;let⟨u,f⟩:=cN h1;subst f;simp only[ax.aD]at b;split at b;rename_i l;let⟨_,x,h2,g⟩:=aS b;simp only[eu,ax.aD,Option.some.injEq,gO]at h2;obtain⟨_,rfl⟩:=h2;obtain⟨rfl,rfl⟩:=bg g;let⟨m,i,j⟩:=xB (w:=w) (hT.T _ _ e) rfl;let⟨n,ω',p,q⟩:=XQ h l (ws:=adA m) (el:=t) (cs:=z.map .d) (qd j).XS;refine XR p q ?_;simp only[execOp,k,Instr.alloc,dC,i,dF,newVar,uU,fF];simp[ax.aD]at b;simp[ax.aD]at c
def ajh(h:aY K β ω Z s a w){t:bq}{x:cF}{dst:Nat}{o:cS}(p:o.op=.box t x){v:SV}{s':St}(g:(cn af o.op dst).aD s=J (v,s')):cR K s' a dst ((execOp a.eval o).run K.P w) v:=by rw[p]at g;simp only[cn]at g;let⟨v1,q,h1,d⟩:=aS g;let⟨i,hv,j,r⟩:=iU h h1;subst i;clear g;split at d;rename_i cs k;let⟨l,e⟩:=xE hv k;let⟨f,u,h2,b⟩:=aS d;let⟨y,G,z,k1,A⟩:=Im (mk:=λn=>(.box (.aw dst),n)) cs 0 _ ω Z q u f h e (λc B=>j c (by rw[l];exact B)) h2;simp only[ax.aD]at b;split at b;rename_i C;let⟨_,H,h3,m⟩:=aS b;simp only[eu,ax.aD,Option.some.injEq,gO]at h3;obtain⟨_,rfl⟩:=h3;obtain⟨rfl,rfl⟩:=bg m;let⟨D,ω',E,F⟩:=XQ z C (ws:=adA (adx a x)) (el:=t) (cs:=f) A;refine XR E F ?_;simp only[execOp,p,Instr.box,dC,newVar,uU,dF,fF];simp[ax.aD]at b;simp[ax.aD]at d
def XT(off:Nat):∀(us:M aJ)(k:Nat)(cells:bW aJ),off+k+Y us≤cells.size→T ((us.zipIdx k).foldl (λ(cs:bW aJ)(x:aJ×Nat)=>acW cs (off+x.2) x.1) cells)=eG (T cells) (off+k) us|[],k,cells,_=>by simp[eG]|u::us,k,cells,h=>by simp only[kO]at h;simp only[List.zipIdx_cons,List.foldl_cons];rw[XT off us (k+1) _ (by simp;omega)];grind [WW]
def XU(off:Nat)(us:bW aJ)(cells:bW aJ)(h:off+us.size≤cells.size):T (us.zipIdx.foldl (λ(cs:bW aJ)(x:aJ×Nat)=>acW cs (off+x.2) x.1) cells)=eG (T cells) off (T us):=by rw[←Array.foldl_toList,Array.toList_zipIdx];simp_all [XT]
def XV{α a:Type}{P:ew}(g:α→Sem a)(f:α→a):∀(l:M α),(∀x∈l,(g x).run P w=.ok (f x) w)→(l.mapM g).run P w=.ok (l.map f) w|[],_=>by simp|x::l,h=>by rw[List.mapM_cons];simp[h x (lf ..),XV g f l λy hy=>h y (i7 _ hy)]
def aji{α a:Type}{P:ew}(g:α→Sem a)(f:α→a)(l:bW α)(h:∀x∈l,(g x).run P w=.ok (f x) w):(l.mapM g).run P w=.ok (l.map f) w:=by
 have h1:=XV (w:=w) (P:=P) g f (T l) (λx c=>h x (by simpa using c));rw[←Array.toList_mapM]at h1;simp only[Sem.run_map]at h1;cases d:(l.mapM g).run P w with
 |ok b w'=>rw[d]at h1;simp only[dF,Result.ok.injEq]at h1;obtain⟨e,rfl⟩:=h1;congr 1;apply Array.toList_inj.1;rw[e];simp
 |halt x w'=>simp_all
def XW(h:aY K β ω Z s a w){place:Nat→Option (Nat×Nat)}{fs:M (Nat×bq)}(f:∀(i off:Nat)t ti,fs[i]?=J (off,t)→af.ti t=J ti→place i=J (off,ti.size)){size:Nat}:
  ∀(parts:M (Nat×cF)){ps:M (Nat×M C)}{s':St}(cells:bW aJ)(cs:M C),(xl fs af parts).aD s=J (ps,s')→(∀p∈ps,p.1+p.2.length≤size)→cells.size=size→
   aQ (λu c=>aR K β Z s a w c u) cells.toList cs→(∀c∈cs,cQ c)→
   s'=s∧∃ws,Wu place cells (parts.map λp=>(p.1,adx a p.2))=J ws∧aQ (λu c=>aR K β Z s a w c u) ws.toList (fill cs ps)∧(∀c∈fill cs ps,cQ c):=by
 intro parts
 induction parts with
 |nil=>intro ps s' cells cs n _ _ d g;obtain⟨rfl,rfl⟩:=bg n;exact⟨rfl,cells,rfl,d,g⟩
 |cons p parts H=>
  let⟨i,o⟩:=p;intro ps s' cells cs n j N d g;simp only[xl]at n;let⟨v,s1,h1,b⟩:=aS n;let⟨q,hv,F,P⟩:=iU h h1;rw[q]at b;split at b;rename_i off t k r y;split at b;rename_i ti z;let⟨_,s2,h2,l⟩:=aS b;let⟨G,A⟩:=cN h2;rw[A]at l;let⟨rest,s3,h3,B⟩:=aS l;let⟨R,D⟩:=bg B;subst R;let⟨S,e⟩:=xE hv y;have T:(adx a o).cells.size=ti.size:=by have:=e.length;simp at this;omega
  have m:=j (off,k) (lf ..);simp only at m;have V:=f i off t ti r z;have E:=XU off (adx a o).cells cells (by omega)
  let⟨X,ws,q2,Y,q4⟩:=H ((adx a o).cells.zipIdx.foldl (λ(cs:bW aJ)(x:aJ×Nat)=>acW cs (off+x.2) x.1) cells) (eG cs off k) h3
   (λp hp=>j p (i7 _ hp)) (by
     grind [Xl]) (by rw[E];exact d.eG e) (by
     grind [eG])
  refine⟨by rw[D,X],ws,?_,Y,q4⟩;simp_all [Wu];simp[ax.aD]at b;simp[ax.aD]at b
include hT in
def ajj(h:aY K β ω Z s a w){t:bq}{parts:bW (Nat×cF)}{dst:Nat}{o:cS}(N:o.op=.build t parts){v:SV}{s':St}(j:(cn af o.op dst).aD s=J (v,s')):
  cR K s' a dst ((execOp a.eval o).run K.P w) v:=by
 rw[N]at j
 simp only[cn]at j
 unfold H1 at j
 have E:T (parts.map λ(x:Nat×cF)=>(x.1,adx a x.2))=(T parts).map λp=>(p.1,adx a p.2):=by simp
 split at j
 ·rename_i size bytes fs z b
  obtain⟨_,s1,h1,c⟩:=aS j
  obtain⟨⟨hz,R⟩,m⟩:=cN h1
  rw[m]at c
  obtain⟨ps,s2,h2,q⟩:=aS c
  obtain⟨_,s3,h3,e⟩:=aS q
  obtain⟨r,y⟩:=cN h3
  rw[y]at e
  obtain⟨S,A⟩:=bg e
  subst S
  obtain⟨V,B,g⟩:=xB (w:=w) (hT.T _ _ b) rfl
  obtain⟨d,hd,hk,C⟩:=fe (w:=w) (hT.T _ _ b)
  obtain⟨fields,rfl,rfl⟩:=CY hk
  have D:∀f∈fields,(sizeOf f.type).run K.P w=.ok (K.P.cellsOf f.type) w:=by
   intro f k
   have:=R (adV f,f.type) (mh.2 ⟨f,by simpa using k,rfl⟩)
   obtain⟨ti,l⟩:=Option.isSome_iff_exists.1 this
   rw[lu (hT.T _ _ l)]
   obtain⟨info,d2,g1,g2,g3,_⟩:=sO (hT.T _ _ l)
   simp[ayG,g1,g3]
  have F:=aji (P:=K.P) (w:=w) (λf:Field=>(do pure (adV f,←sizeOf f.type):Sem (Nat×Nat))) (λf=>(adV f,K.P.cellsOf f.type)) fields (λf k=>by simp[D f k])
  obtain⟨X,ws,Y,q3,q4⟩:=XW h (place:=λi=>(fields.map λf=>(adV f,K.P.cellsOf f.type))[i]?) (size:=size) (by
   intro i off t' ti k G
   rw[iQ]at k
   cases H:(T fields)[i]? with
   |none=>grind
   |some f=>
    rw[H]at k
    simp only[Option.map_some,Option.some.injEq,gO]at k
    obtain⟨rfl,rfl⟩:=k
    have hfi':fields[i]?=J f:=by simpa using H
    obtain⟨info,d2,g1,g2,g3,_⟩:=sO (hT.T _ _ G)
    grind [ayG]) (T parts) V.cells (z.map .d) h2 r (by
    have h1:=(qd (w:=w) (Z:=Z) g).length
    grind) (Ik g) (by simp[cQ])
  rw[A,X]
  refine cR.same h (u:=.agg ws) ?_ ⟨ws,rfl,q3⟩ q4
  simp only[execOp,N,Instr.build,dC,B,dF,C,F,E,Y,fF]
 ·rename_i size bytes n et z b
  split at j
  ·rename_i i hft
   obtain⟨_,s1,h1,c⟩:=aS j
   obtain⟨hz,m⟩:=cN h1
   rw[m]at c
   obtain⟨ps,s2,h2,q⟩:=aS c
   obtain⟨_,s3,h3,e⟩:=aS q
   obtain⟨r,y⟩:=cN h3
   rw[y]at e
   obtain⟨S,A⟩:=bg e
   subst S
   obtain⟨V,B,g⟩:=xB (w:=w) (hT.T _ _ b) rfl
   obtain⟨d,hd,hk,C⟩:=fe (w:=w) (hT.T _ _ b)
   have X4:=Iq hk
   subst X4
   obtain⟨X,ws,Y,q3,q4⟩:=XW h (place:=λi'=>J (i'*i.size,i.size)) (size:=size) (by
    grind) (T parts) V.cells (z.map .d) h2 r (by
     have h1:=(qd (w:=w) (Z:=Z) g).length
     grind) (Ik g) (by simp[cQ])
   rw[A,X]
   refine cR.same h (u:=.agg ws) ?_ ⟨ws,rfl,q3⟩ q4
   simp only[execOp,N,Instr.build,dC,B,dF,C,lu (hT.T _ _ hft),E,Y,fF]
  ·simp[ax.aD]at j
 ·simp[ax.aD]at j
end
def XX{e:Nat}{ds:M D}:∀{rows:M (M D)}{i:Nat},(∀r∈rows,r.length=e)→ds.length=e→i<rows.length→(rows.set i ds).flatten=eG rows.flatten (i*e) ds|[],i,_,_,h=>by simp at h|r::rows,0,a,hd,_=>by simp_all [eG]|r::rows,i+1,a,hd,h=>by have c:=a r (lf ..);have d:=XX (rows:=rows) (i:=i) (λx b=>a x (i7 _ b)) hd (by simpa using h);simp_all [eG,Nat.add_mul,List.take_append,List.take_of_length_le,List.drop_append]
section
variable{K:dh}{β:aC→Option Nat}{ω:Nat→Option cT}{Z:Nat→Prop}{s:St}{a:Act}{w:World}{af:bM}(hT:ip K.P af)
def ajk{size:Nat}:∀(parts:M (Nat×cF))(ω:Nat→Option cT)(Z:Nat→Prop)(s s':St)(cells:bW aJ)(rows rows':M (M D)),aY K β ω Z s a w→(rowsOf size parts rows).aD s=J (rows',s')→(∀r∈rows,r.length=size)→DL w Z cells.toList (adC rows)→∃ω' Z' ws,aY K β ω' Z' s' a w∧Wu (λi=>J (i*size,size)) cells (parts.map λp=>(p.1,adx a p.2))=J ws∧DL w Z' ws.toList (adC rows')∧(∀r∈rows',r.length=size)∧rows'.length=rows.length:=by
 intro parts;induction parts with
 |nil=>intro ω Z s s' cells rows rows' h g j hd;let⟨N,P⟩:=bg g;subst N;subst P;exact⟨ω,Z,cells,h,rfl,hd,j,rfl⟩
 |cons p parts R=>
  let⟨i,o⟩:=p;intro ω Z s s' cells rows rows' h g j hd;simp only[rowsOf]at g;let⟨v,s1,h1,d⟩:=aS g;let⟨k,hv,l,S⟩:=iU h h1;rw[k]at d;split at d;rename_i cs m;let⟨_,s2,h2,f⟩:=aS d;let⟨⟨E,hi⟩,n⟩:=cN h2;rw[n]at f;let⟨ds,F,h3,q⟩:=aS f;let⟨t,e⟩:=xE hv m;let⟨u,T,V,k1,G⟩:=Io cs _ ω Z s F ds h e (λc X=>l c (by rw[t];exact X)) h3;have y:(adx a o).cells.size=size:=by have:=e.length;simp at this;omega
  have A:ds.length=size:=by rw[←G.length];simpa using y
  have B:cells.size=rows.length*size:=by have:=hd.length;grind [IH]
  have H:i*size+size≤cells.size:=by rw[B,←Nat.succ_mul];exact Nat.mul_le_mul_right _ hi
  have C:=XU (i*size) (adx a o).cells cells (by omega)
  let⟨Y,Z2,ws,q1,q2,q3,q4,q5⟩:=R u T F s' ((adx a o).cells.zipIdx.foldl (λ(cs:bW aJ)(x:aJ×Nat)=>acW cs (i*size+x.2) x.1) cells) (rows.set i ds) rows' V q
   (by
     grind) (by
     rw[C,XX j A hi]
     exact aQ.eG (hd.mono λb hb=>⟨rfl,k1.z b hb⟩) G)
  grind [Wu];simp[ax.aD]at d
include hT in
def ajl(h:aY K β ω Z s a w){t:bq}{len:Nat}{parts:bW (Nat×cF)}{dst:Nat}{o:cS}(C:o.op=.buildSlice t len parts){v:SV}{s':St}(b:(cn af o.op dst).aD s=J (v,s')):cR K s' a dst ((execOp a.eval o).run K.P w) v:=by
 rw[C]at b;simp only[cn]at b;unfold H3 at b;have G:T (parts.map λ(x:Nat×cF)=>(x.1,adx a x.2))=(T parts).map λp=>(p.1,adx a p.2):=by simp
 split at b;rename_i size bytes H zz k;split at b;rename_i i e;split at b;rename_i z N;let⟨_,s1,h1,f⟩:=aS b;let⟨⟨R,D,E,l⟩,m⟩:=cN h1;rw[m]at f;let⟨rows,s2,h2,n⟩:=aS f;let⟨S,q⟩:=bg n;subst S;subst q;let⟨c,V,r⟩:=xB (w:=w) (hT.T _ _ e) N;let⟨d,hd,hk,y⟩:=fe (w:=w) (hT.T _ _ k);have A:=oh hk;subst A;have B:=qd (w:=w) (Z:=Z) r;have X:c.cells.size=i.size:=by have:=B.length;simp at this;omega
 have g:T ((N3 (len*i.size)).map ((if len*i.size=0 then #[]else adA c)[·%(if len*i.size=0 then #[]else adA c).size]!))=adC (ep len (T c.cells)):=by grind [Pe]
 let⟨Y,Z2,ws,q1,q2,F,q4,q5⟩:=ajk (T parts) ω Z s s' ((N3 (len*i.size)).map ((if len*i.size=0 then #[]else adA c)[·%(if len*i.size=0 then #[]else adA c).size]!)) (ep len z) rows h h2 (by grind) (by simp_all [II]);have Xo:ws.size=len*i.size:=by have:=F.length;grind [IH]
 refine Df (hm:=l) q1 (len:=len) (cap:=len) (ws:=ws) (el:=H) ?_ (by rw[q5];simp) (Nat.le_refl _) (by omega) q4 (λj d hj=>by let⟨u,g1,g2⟩:=F.aE hj;grind);simp only[execOp,C,Instr.buildSlice,dC,y,dF,lu (hT.T _ _ e)];rw[aV (by omega)];by_cases h0:len*i.size=0;simp_all [uU];simp_all [uU];simp[ax.aD]at b;simp[ax.aD]at b;simp[ax.aD]at b
def wrap_small{n:L}(a:0≤n)(h1:n≤2 ^ 36):aby a7 n=n:=by simp only[IntKind.wrap,IntKind.bits,Hs];simp;omega
def run_askRoom{P:ew}(n:Nat):(askRoom n).run P w=.ok () w:=by simp_all
include hT in
def ajm(h:aY K β ω Z s a w){t:bq}{l c:cF}{dst:Nat}{o:cS}(ho:o.op=.makeSlice t l c){v:SV}{s':St}(G:(cn af o.op dst).aD s=J (v,s')):cR K s' a dst ((execOp a.eval o).run K.P w) v:=by
 rw[ho]at G;simp only[cn]at G;let⟨c1,s1,h1,p⟩:=aS G;let⟨H,o1,r1,IF⟩:=gE h h1;rw[H]at p;let⟨n,s2,h2,q⟩:=aS p;let⟨N,k,R⟩:=uR h2;rw[N]at q;let⟨c2,s3,h3,r⟩:=aS q;let⟨S,o3,r3,aza⟩:=gE h h3;rw[S]at r;let⟨m,s4,h4,b⟩:=aS r;let⟨V,k',X⟩:=uR h4;rw[V]at b;subst R;subst X;have e1:adx a l=.int k n:=r1;have e2:adx a c=.int k' m:=r3;unfold H4 at b;split at b;rename_i size bytes et zz Y;split at b;rename_i i e;split at b;rename_i z hz;let⟨_,s5,h5,y⟩:=aS b;let⟨⟨hzl,hpos,hby,hmp⟩,hs5⟩:=cN h5;rw[hs5]at y;let⟨_,s6,h6,A⟩:=aS y;let⟨⟨B,C,hm⟩,Pc⟩:=cN h6;rw[Pc]at A;let⟨hx,Ph⟩:=bg A;subst hx;rw[Ph];let⟨g,XN,hrf⟩:=xB (w:=w) (hT.T _ _ e) hz;let⟨info,f,azb,D,_⟩:=xA (w:=w) (hT.T _ _ e);let⟨d,hd,hk,hun⟩:=fe (w:=w) (hT.T _ _ Y);have X4:=oh hk;subst X4;have E:=qd (w:=w) (Z:=Z) hrf;have hzs:g.cells.size=i.size:=by have:=E.length;simp at this;omega
 have F:T ((N3 (m.toNat*i.size)).map ((if m.toNat*i.size=0 then #[]else adA g)[·%(if m.toNat*i.size=0 then #[]else adA g).size]!))=adC (ep m.toNat (T g.cells)):=by grind [Pe]
 have hw1:=wrap_small B (Int.le_trans C hm);have IJ:=wrap_small (Int.le_trans B C) hm;have azc:∀x:L,0≤x→x≤2 ^ 36→¬(x<0∨(i.bytes:L)*x>2 ^ 48):=by intro x hx0 hx1;have h1:(i.bytes:L)*x≤2 ^ 10*2 ^ 36:=Int.mul_le_mul (by exact_mod_cast hby) hx1 hx0 (by decide);grind
 refine Df (hm:=hmp) h (len:=n.toNat) (cap:=m.toNat) (ws:=(N3 (m.toNat*i.size)).map ((if m.toNat*i.size=0 then #[]else adA g)[·%(if m.toNat*i.size=0 then #[]else adA g).size]!)) (el:=et) ?_ (by simp) (by omega) (by simp) (by grind) (λj d hj=>by
  have hj':(adC (ep m.toNat z))[j]?=J d:=by rw[show m.toNat=n.toNat+(m.toNat-n.toNat) by omega,←List.replicate_append_replicate,List.flatten_append,pS (iO.1 hj).1];exact hj
  let⟨u,g1,g2⟩:=(II E m.toNat).aE hj'
  grind)
 simp only[execOp,ho,Instr.makeSlice,dC,hun,dF,e1,e2,Go.asInt,asIntOf,fF,f,hw1,IJ,D];rw[aV (by grind)];simp only[dC,run_askRoom,dF,lu (hT.T _ _ e)];grind [dC,fF,dF,uU];simp[ax.aD]at b;simp[ax.aD]at b;simp[ax.aD]at b
theorem XY:∀(rounds bS c:Nat),c≤2*bS+192→ayH bS rounds c≤2*bS+192|0,bS,c,h=>h|r+1,bS,c,h=>by simp only[ayH];split;exact h;rename_i a;exact XY r bS _ (by omega)
def XZ{bS old:Nat}(h:old<bS):zK bS old≤2*bS+192:=by grind [zK,XY]
def Pf(K:dh)(Z:Nat→Prop)(w:World)(size:Nat)(u:aJ)(ys:M (M D)):Prop:=(Hy u).run K.P w=.ok (Y ys) w∧(∀y∈ys,Y y=size)∧∃arr:bW aJ,(∀a:World,a.heap=w.heap→(qW size (Y ys) u).run K.P a=.ok arr a)∧DL w Z (T arr) (adC ys)∧(∀x∈T arr,hJ x=W)
def DL.hJ{us:M aJ}{ds:M D}(h:DL w Z us ds):∀x∈us,hJ x=W:=by
 intro x b;let⟨j,c⟩:=nO b;have a:j<Y ds:=by rw[←h.length];grind
 let⟨u,h1,h2⟩:=h.aE (eM a);grind [xD]
def X0{size:Nat}{u:aJ}{ys:M (M D)}(h:(u=.slice O 0 0∧ys=[])∨∃c cap,u=.slice (J c) (Y ys) cap∧(cap=0∨c.spot=O)∧Y ys≤cap∧dy w Z size ys c.block c.off):Pf K Z w size u ys:=by
 rcases h with⟨rfl,rfl⟩|⟨c,cap,rfl,h2,h3,f⟩
 exact⟨by simp[Hy],by simp, #[],λa _=>by simp[qW],trivial,by simp⟩;let⟨us,g,j,k⟩:=f.us;refine⟨by simp[Hy],f.len,abf us,λa l=>?_,by simpa using g,by simpa using g.hJ⟩;simp only[qW];have m:Y us=Y ys*size:=j;rw[←m];by_cases i:Y us=0;rw[i];have:us=[]:=List.length_eq_zero_iff.1 i;subst this;simp[loadCells,loadCellsFrom];have d:cap≠0:=by grind
 have h2:=adQ h2 d;rw[show(c:ey)=⟨ac6 c,c.off,O⟩ by rw[←h2]];have b:=k (Y us-1) (by omega);rw[eM (by omega)]at b;let⟨ws,el,fz,n,o⟩:=cells_of_cell? b;have e:c.off+Y us≤ws.size:=by grind
 rw[Ow (w:=a) (by rw[l];exact n) e];congr 1;grind [World.cell?]
def ajn(l:M ao):Pf K Z w 1 (.string ⟨l.toArray⟩) (l.map λb=>[.int .u8 b.toNat]):=by
 refine⟨by simp[Hy,C6],by simp,(l.map λb:ao=>nS .u8 (b.toNat:Nat)).toArray,λa d=>?_,?_,?_⟩;simp only[qW,Xq,List.length_map,List.take_length,List.drop_zero,fF];simp;show aQ _ _ _;simp only;induction l with|nil=>trivial|cons b l c=>exact⟨rfl,by simpa using c⟩
 simp[hJ]
include hT in
def ajo(h:aY K β ω Z s a w){i:TI}{t:bq}{c:C}{u:aJ}{ys:M (M D)}{s':St}(e:aR K β Z s a w c u)(f:(xn af i t c).aD s=J (ys,s')):s'=s∧Pf K Z w i.size u ys∧∃d,(underlying t).run K.P w=.ok d w∧∀k,d≠.int k:=by unfold xn at f;split at f;rename_i l b;let⟨_,v,h1,m⟩:=aS f;let⟨o,p⟩:=cN h1;let⟨q,r⟩:=bg m;subst q;let⟨d,hd,hk,n⟩:=fe (w:=w) (hT.T _ _ b);have j:=sP hk;subst j;have x:u=.string ⟨abf l⟩:=e;simp_all [ajn];rename_i b;let⟨y,g⟩:=Xi h e f;let⟨d,hd,hk,n⟩:=fe (w:=w) (hT.T _ _ b);have j:=oh hk;simp_all [X0];simp[ax.aD]at f
end
section
variable{K:dh}{β:aC→Option Nat}{ω:Nat→Option cT}{Z:Nat→Prop}{s:St}{a:Act}{w:World}{af:bM}(hT:ip K.P af)
theorem X1(z:bW aJ)(n:Nat):(zL z n).size=n*z.size:=by simp[zL]
def X2{P:ew}{t t2 d:bq}{i:TI}{z:M D}(m:(underlying t).run P w=.ok (.slice d) w){d2:o6}(g:(underlying t2).run P w=.ok d2 w)(E:∀k,d2≠.int k) (hi:kR P d=J i)(F:i.zero=J z)(G:0<i.bytes)(H:i.bytes≤2 ^ 10){base:Option ey}{sLen sCap n:Nat}{x:aJ}(h:(Hy x).run P w=.ok n w)(o:sCap<sLen+n)(l:sLen+n≤2 ^ 36) {old new:bW aJ}(hold:∀a:World,a.heap=w.heap→(qW i.size sLen (.slice base sLen sCap)).run P a=.ok old a)(j:∀a:World,a.heap=w.heap→(qW i.size n x).run P a=.ok new a){ty:bq}:
  ∃(cap:Nat)(rest:bW aJ),sLen+n≤cap∧(∀B:Nat,B=Y z→rest.size=(cap-(sLen+n))*B)∧
   (uu #[t,t2] ty #[.slice base sLen sCap,x]).run P w=.ok (.slice (J ⟨w.heap.size,0,O⟩) (sLen+n) cap) (ac2 ({w with drawn:=adS w+1}:World) (.cells (old++new++rest) d)):=by
 let⟨info,b,C,f,_⟩:=xA (w:=w) hi
 let⟨p,e,q,r,_⟩:=xA (w:={w with drawn:=adS w+1}) hi
 let⟨K,s,u⟩:=xB (w:={w with drawn:=adS w+1}) hi F
 have N:=(qd (w:=w) (Z:=λ_=>dK) u).length
 have v:=XZ o
 have y:¬(zK (sLen+n) sCap*i.bytes>2 ^ 48):=by have h1:zK (sLen+n) sCap*i.bytes≤(2*2 ^ 36+192)*2 ^ 10:=Nat.mul_le_mul (by omega) H;grind
 refine⟨(zM (sLen+n) sCap d).cut (adZ w w.drawn (.appendCap (sLen+n) sCap d)),zL K.cells ((zM (sLen+n) sCap d).cut (adZ w w.drawn (.appendCap (sLen+n) sCap d))-(sLen+n)),?_,?_,?_⟩
 simp only[ahI];omega
 grind [X1]
 have A:(match d2 with|.int _=>W|_=>I)=I:=by cases d2<;>first|rfl|grind
 have c:(choose (.appendCap (sLen+n) sCap d)).run P w=.ok ((zM (sLen+n) sCap d).cut (adZ w w.drawn (.appendCap (sLen+n) sCap d))) {w with drawn:=adS w+1}:=by simp[choose,Sem.run,ahJ]
 simp only[uu,qV,HA,iA,qU,dC,m,dF,lu hi,g,fF,A,bL,ch,h,sB,bI]
 rw[aV (by omega)]
 simp only[dC,b,dF,f]
 rw[aV (by simp;omega)]
 simp only[dC,b,dF,f]
 rw[aV y]
 simp only[dC,c,dF,e,run_askRoom,hold {w with drawn:=adS w+1} rfl,j {w with drawn:=adS w+1} rfl,s,uU,fF]
def X3{P:ew}{t t2 j:bq}{i:TI}(e:(underlying t).run P w=.ok (.slice j) w){d2:o6}(b:(underlying t2).run P w=.ok d2 w)(l:∀k,d2≠.int k) (hi:kR P j=J i){base:Option ey}{sLen sCap n:Nat}{x:aJ}(c:(Hy x).run P w=.ok n w)(f:sLen+n≤sCap) {new:bW aJ}(d:(qW i.size n x).run P w=.ok new w){w':World}(m:∀g,base=J g→(storeCells (g.add (sLen*i.size)) (T new)).run P w=.ok () w')(a:base=O→w'=w){ty:bq}:(uu #[t,t2] ty #[.slice base sLen sCap,x]).run P w=.ok (.slice base (sLen+n) sCap) w':=by
 have h:(match d2 with|.int _=>W|_=>I)=I:=by cases d2<;>first|rfl|grind
 simp only[uu,HA,iA,qU,dC,e,dF,lu hi,b,fF,h,bL,ch,c,sB,bI];rw[aF f];simp only[dC,d,dF];cases base with|none=>rw[a rfl];rfl|some g=>simp_all
def ajp{P:ew}{t t2 e:bq}{i:TI}{z:M D}(g:(underlying t).run P w=.ok (.slice e) w)(f:(underlying t2).run P w=.ok (.int .i64) w) (hi:kR P e=J i)(A:i.zero=J z)(B:Y z=i.size)(C:0<i.size)(E:0<i.bytes)(H:i.bytes≤2 ^ 10){k:mX}{n:L}(hn:0≤n)(h:n≤2 ^ 36){ty:bq}:(n.toNat=0→(uu #[t,t2] ty #[.slice O 0 0,.int k n]).run P w=.ok (.slice O 0 0) w)∧
  (n.toNat≠0→∃(cap:Nat)(zv:bW aJ),n.toNat≤cap∧(∀(w:World)(Z:Nat→Prop),DL w Z (T zv) z)∧
    (uu #[t,t2] ty #[.slice O 0 0,.int k n]).run P w=.ok (.slice (J ⟨w.heap.size,0,O⟩) n.toNat cap) (ac2 ({w with drawn:=adS w+1}:World) (.cells (zL zv n.toNat++zL zv (cap-n.toNat)) e))):=by
 let⟨info,a,x,b,_⟩:=xA (w:=w) hi
 let⟨l,d,m,o,_⟩:=xA (w:={w with drawn:=adS w+1}) hi
 let⟨zv,F,p⟩:=xB (w:={w with drawn:=adS w+1}) hi A
 have q:∀(w:World)(Z:Nat→Prop),DL w Z (T zv.cells) z:=λw Z=>qd (w:=w) (Z:=Z) p
 have y:aby a7 n=n:=by simp only[IntKind.wrap,IntKind.bits,Hs];simp;omega
 have j:n*i.bytes≤2 ^ 48:=by have h1:n*i.bytes≤2 ^ 36*2 ^ 10:=Int.mul_le_mul (by omega) (by omega) (by omega) (by decide);omega
 constructor
 intro G
 simp only[uu,HA,iA,qU,dC,g,dF,lu hi,f,fF,bI,asInt,asIntOf,y,a,b]
 grind [dC,dF,fF]
 intro G
 have r:0<0+n.toNat:=by omega
 have s:=XZ r
 have u:¬(zK (0+n.toNat) 0*i.bytes>2 ^ 48):=by grind [zK]
 have c:(choose (.appendCap (0+n.toNat) 0 e)).run P w=.ok ((zM (0+n.toNat) 0 e).cut (adZ w w.drawn (.appendCap (0+n.toNat) 0 e))) {w with drawn:=adS w+1}:=by simp[choose,Sem.run,ahJ]
 refine⟨(zM (0+n.toNat) 0 e).cut (adZ w w.drawn (.appendCap (0+n.toNat) 0 e)),adA zv,?_,q,?_⟩
 simp only[ahI];omega
 simp only[uu,HA,iA,qU,dC,g,dF,lu hi,f,fF,bI,asInt,asIntOf,y,a,b]
 rw[aV (by omega)]
 simp only[dC,a,dF,b]
 rw[aV (by omega)]
 simp only[dC,fF,dF]
 rw[aV (by omega)]
 simp only[dC,a,dF,b]
 rw[aV (by simp[IntKind.max,IntKind.bits,Hs];omega)]
 simp only[dC,a,dF,b]
 rw[aV u]
 have v:(qW i.size 0 (.slice O 0 0)).run P {w with drawn:=adS w+1}=.ok #[] {w with drawn:=adS w+1}:=by simp[qW]
 simp only[dC,c,dF,d,run_askRoom,v]
 grind [Nat.mul_eq_zero,dC,dF,fF,uU]
include hT in
def ajq(h:aY K β ω Z s a w){args:bW cF}{f:bW bq}{dst:Nat}{o:cS}(m:o.op=.call {callee:=.builtin .cap,args,argTypes:=f}){v:SV}{s':St}(c:(cn af o.op dst).aD s=J (v,s')):cR K s' a dst ((execOp a.eval o).run K.P w) v:=by
 rw[m]at c;simp only[cn]at c;split at c;rename_i x t r y;have e:args=#[x]:=by grind
 have g:f=#[t]:=by grind
 subst e;subst g;split at c;rename_i i;let⟨c1,z,h1,b⟩:=aS c;let⟨j,A,p,n⟩:=gE h h1;rw[j]at b;unfold Oe at b;split at b;have q:adx a x=.slice O 0 0:=p;obtain⟨rfl,rfl⟩:=bg b;let⟨d,hd,hk,k⟩:=fe (w:=w) (hT.T _ _ i);have l:=oh hk;subst l;refine cR.d h (u:=.int .i64 0) ?_ rfl;simp[execOp,m,resolve,invoke,builtin,Builtin.cap_,q,k,goInt];simp[ax.aD]at b;simp[ax.aD]at c;simp[ax.aD]at c
include hT in
theorem ajr(h:aY K β ω Z s a w){x y:cF}{t t2 F:bq}{i i0 i2:TI}{dst:Nat}{o:cS}(ho:o.op=.call {callee:=.builtin .append,args:=#[x,y],argTypes:=#[t,t2]}) (G:af.ti t=J i0)(H:i0.kind=.slice F)(N:af.ti F=J i)(m:af.ti t2=J i2)(R:i2.kind=.int .i64){v:SV}{s':St} (he:(do let c ←ed x;let n ←pa (←ed y);zY i c n:ax SV).aD s=J (v,s')):cR K s' a dst ((execOp a.eval o).run K.P w) v:=by
 let⟨c1,s1,h1,p⟩:=aS he;let⟨S,o1,r1,IF⟩:=gE h h1;rw[S]at p;let⟨c2,s2,h2,q⟩:=aS p;let⟨V,o2,r2,OZ⟩:=gE h h2;rw[V]at q;let⟨n,s3,h3,b⟩:=aS q;let⟨X,k,Y⟩:=uR h3;rw[X]at b;subst Y;have e2:adx a y=.int k n:=r2;unfold zY at b;split at b;rename_i z hz;have e1:adx a x=.slice O 0 0:=r1;let⟨_,s5,h5,r⟩:=aS b;let⟨⟨hzs,A,hb0,hb,hmp⟩,hs5⟩:=cN h5;rw[hs5]at r;let⟨_,s6,h6,e⟩:=aS r;let⟨⟨hn0,xM⟩,Pc⟩:=cN h6;rw[Pc]at e;let⟨d,hd,hk,hun⟩:=fe (w:=w) (hT.T _ _ G);rw[H]at hk;have Pg:=oh hk;subst Pg;let⟨d2,X4,B,C⟩:=fe (w:=w) (hT.T _ _ m);rw[R]at B;have D:=xC B;subst D;have azd:(execOp a.eval o).run K.P w=((uu #[t,t2] o.type #[adx a x,adx a y]).run K.P w).andThen λu w'=>.ok (.value u) w':=by simp[execOp,ho,resolve,invoke,builtin]
 let⟨q0,q1⟩:=ajp (P:=K.P) (w:=w) hun C (hT.T _ _ N) hz hzs A hb0 hb (k:=k) hn0 xM (ty:=o.type);split at e;rename_i hn;let⟨f,g⟩:=bg e;rw[g,f];refine cR.d h (u:=.slice O 0 0) ?_ rfl;simp_all;rename_i hn;let⟨f,g⟩:=bg e;rw[g,f];let⟨cap,l,p1,p2,p3⟩:=q1 hn;let⟨r5,k5⟩:=h.drew;have hsz:l.size=i.size:=by have:=(p2 w Z).length;simp at this;omega
 refine Df (hm:=hmp) r5 (len:=n.toNat) (cap:=cap) (ws:=zL l n.toNat++zL l (cap-n.toNat)) (el:=F) ?_ (by simp) p1 ?_ (by grind) (λj d hj=>?_);simp_all;simp only[ahK,X1,hsz];rw[←Nat.add_mul];grind;have E:T (zL l n.toNat)=adC (ep n.toNat (T l)):=Pe l n.toNat;let⟨u,g1,g2⟩:=(II (p2 {w with drawn:=adS w+1} Z) n.toNat).aE hj;grind;simp[ax.aD]at b
include hT in
def ajs(h:aY K β ω Z s a w){args:bW cF}{tys:bW bq}{dst:Nat}{o:cS}(ho:o.op=.call {callee:=.builtin .append,args,argTypes:=tys}){v:SV}{s':St}(Y:(cn af o.op dst).aD s=J (v,s')):
  cR K s' a dst ((execOp a.eval o).run K.P w) v:=by
 rw[ho]at Y
 simp only[cn]at Y
 split at Y
 ·rename_i x y t t2 hx ht
  have hargs:args=#[x,y]:=by grind
  have ajt:tys=#[t,t2]:=by grind
  subst hargs;subst ajt
  split at Y
  ·rename_i size bytes et zz hti
   split at Y
   ·rename_i i hft
    split at Y
    ·grind [ajr]
    rename_i aze
    obtain⟨c1,s1,h1,qe⟩:=aS Y
    obtain⟨hs1,o1,r1,IF⟩:=gE h h1
    rw[hs1]at qe
    obtain⟨c2,s2,h2,Dg⟩:=aS qe
    obtain⟨hs2,o2,r2,OZ⟩:=gE h h2
    rw[hs2]at Dg
    obtain⟨ys,s3,h3,Al⟩:=aS Dg
    obtain⟨hs3,⟨B,X5,arr,C,hdl,hone⟩,d2,D,X4⟩:=ajo hT h r2 h3
    rw[hs3]at Al
    obtain⟨d,hd,hk,hun⟩:=fe (w:=w) (hT.T _ _ hti)
    have Pg:=oh hk
    subst Pg
    have p:(execOp a.eval o).run K.P w=((uu #[t,t2] o.type #[adx a x,adx a y]).run K.P w).andThen λu w'=>.ok (.value u) w':=by
     simp[execOp,ho,resolve,invoke,builtin]
    unfold xm at Al
    obtain⟨_,s4,h4,F⟩:=aS Al
    obtain⟨⟨hpos,hb0,hb,hzl,hmp⟩,hs4⟩:=cN h4
    rw[hs4]at F
    obtain⟨z,hz⟩:∃z,i.zero=J z:=by
     cases hzz:i.zero with
     |none=>grind
     |some z=>exact⟨z,rfl⟩
    have hzs:z.length=i.size:=by grind
    have A:arr.size=ys.length*i.size:=by
     have:=hdl.length
     grind [IH]
    split at F
    ·
     have e1:adx a x=.slice O 0 0:=r1
     obtain⟨_,s5,h5,n⟩:=aS F
     obtain⟨hmax,hs5⟩:=cN h5
     rw[hs5]at n
     split at n
     ·rename_i E
      obtain⟨G,H⟩:=bg n
      rw[H,G]
      refine cR.d h (u:=.slice O 0 0) ?_ rfl
      rw[p,e1,X3 hun D X4 (hT.T _ _ hft) B (by rw[E];simp) (C w rfl) (w':=w) (by intro g h;cases h) (λ_=>rfl)]
      simp[E]
     ·rename_i E
      obtain⟨G,H⟩:=bg n
      rw[H,G]
      have hy0:0<ys.length:=List.length_pos_iff.2 E
      obtain⟨cap,rest,q1,q2,q3⟩:=X2 (P:=K.P) (w:=w) hun D X4 (hT.T _ _ hft) hz hb0 hb B (base:=O) (sLen:=0) (sCap:=0) (by omega) (by omega) (old:=#[]) (λf _=>by simp[qW]) C (ty:=o.type)
      obtain⟨r5,k5⟩:=h.drew
      refine Df (hm:=hmp) r5 (len:=ys.length) (cap:=cap) (ws:=#[]++arr++rest) (el:=et) ?_ rfl (by omega) ?_ X5 (λj d hj=>?_)
      ·simp_all
      ·have:=q2 i.size hzs.symm
       simp only[ahK,A,this,Array.size_empty]
       rw[Nat.zero_add,Nat.zero_add,←Nat.add_mul]
       grind
      ·obtain⟨u,g1,g2⟩:=hdl.aE hj
       grind [bA.mono]
    ·rename_i r j hv cv e k xs
     simp only[ax.aD]at F
     obtain⟨_,s5,h5,n⟩:=aS F
     obtain⟨⟨uP,sR,N,qf⟩,hs5⟩:=cN h5
     rw[hs5]at n
     split at n
     ·rename_i e0 zs Ou
      obtain⟨_,s6,h6,IG⟩:=aS n
      obtain⟨hfull,H⟩:=cN h6
      rw[H]at IG
      obtain⟨_,s7,h7,IK⟩:=aS IG
      obtain⟨hmax,Ph⟩:=cN h7
      rw[Ph]at IK
      obtain⟨_,s8,h8,Pj⟩:=aS IK
      obtain⟨G,Pk⟩:=bg Pj
      rw[Pk,G]
      have R:ca e=I:=by rw[N];exact hmp
      obtain⟨g,cap,e1,g2,g3,g4⟩:=OI h R r1 uP sR (xy Ou)
      obtain⟨X6,cap',f1,_,_,_,ad0,azg,azh,ys0,f2,f3,f4,f4b,f5,f6,f7⟩:=OH h R r1 uP sR (xy Ou)
      rw[e1]at f1
      cases f1
      obtain⟨e9,ys9,u9,b9,ω',t1,t2',t3,t4,t6,t7,t8,t9,t10⟩:=Xc h qf h8 (.tmp dst,J 0)
      rw[t2']at f2
      cases f2
      simp only[eH,Option.some.injEq]at t3
      subst t3
      rw[Ou]at t1
      cases t1
      have hee:e0=e:=by
       rcases f6 with f6|f6<;>rw[Ou]at f6<;>cases f6;rfl
      subst hee
      have hmp0:ca e0=I:=R
      have X7:DL w Z (T arr) (adC ys):=hdl
      by_cases S:xs.length+ys.length≤cap
      ·
       have l:ac6 g=ac6 ad0:=f3
       obtain⟨ws,el,lo,hi,w1,w2,w3⟩:=t9
       have hfit:g.off+cap*e0≤ws.size:=by omega
       have azj:xs.length*e0+ys.length*e0≤cap*e0:=by rw[←Nat.add_mul];exact Nat.mul_le_mul_right _ S
       obtain⟨w',iC,p1,p2,p3⟩:=Ox (P:=K.P) (b:=ac6 g) (o:=g.off+xs.length*e0) (T arr) 0 w ws (by rw[l];exact w1) w3 (by grind) hone
       have ajx:T iC=eG (T ws) (g.off+xs.length*e0) (T arr):=by simpa using p3
       rw[l]at p2
       obtain⟨n1,n2,n3,n4⟩:=t6.ah3 t8 t10 p2
       have hZ:∀b,Z b→w'.heap[b]?=w.heap[b]? ∧Z b:=λb hb=>⟨p2.other b (λe=>(t6.dZ _ _ t8).1 (e▸hb)),hb⟩
       have hcell:∀q,ve w' ⟨ac6 g,q,O⟩=if g.off+xs.length*e0≤q∧q<g.off+xs.length*e0+ys.length*e0 then(T arr)[q-(g.off+xs.length*e0)]? else ve w ⟨ac6 g,q,O⟩:=by
        intro q
        have h1:ve w' ⟨ac6 g,q,O⟩=(T iC)[q]? :=by simp[World.cell?,l,p2.here]
        grind [Aj,World.cell?]
       have hrows:dy w' Z e0 (xs++ys) g.block g.off:=by
        refine dy.append ?_ ?_
        ·refine dy.dX λm x hm=>?_
         obtain⟨q1,q2⟩:=g4.aE hm
         refine⟨q1,fB.dX λjj d hd=>?_⟩
         obtain⟨u2,q3,q4⟩:=q2.aE hd
         have hjl:jj<e0:=by grind
         have hml:m<xs.length:=(iO.1 hm).1
         have:m*e0+e0≤xs.length*e0:=by rw[←Nat.succ_mul];exact Nat.mul_le_mul_right _ hml
         grind [bA.mono]
        ·refine De (w:=w') (ws:=iC) (el:=el) (fz:=(lo,hi)) (by rw[l];exact p2.here) ys _ (by rw[N];exact X5) λj d hj=>?_
         obtain⟨u2,q1,q2⟩:=X7.aE hj
         have hjl:j<ys.length*e0:=by
          grind
         refine⟨u2,?_,bA.mono hZ _ _ q2⟩
         have:iC[g.off+xs.length*e0+j]?=(T iC)[g.off+xs.length*e0+j]? :=by simp
         rw[this,ajx,Aj (by grind)]
         simp only[Array.length_toList,A,←N]
         rw[aF (by omega),Nat.add_sub_cancel_left]
         exact q1
       have V:(xs++ys).length=xs.length+ys.length:=by simp
       have hown:aR K β Z s8 a w' (.ak e0 (xs++ys)) (.slice (J g) (xs.length+ys.length) cap):=(aR.ju hmp0).2 ⟨g,cap,by rw[V],g2,by rw[V];exact S,hrows⟩
       refine⟨.slice (J g) (xs.length+ys.length) cap,w',β,ω',Z,?_,n1,⟨rfl,hown⟩,?_⟩
       ·rw[p,e1,X3 hun D X4 (hT.T _ _ hft) B S (C w rfl) (w':=w') (by
          grind [rC]) (by intro h;cases h)]
        rfl
       ·intro j' c q hc hq
        have hj:j'=0:=by
         grind [SV.cells]
        subst hj
        simp only[SV.cells,iA,Option.some.injEq]at hc
        simp only[eB,iA,Option.some.injEq]at hq
        subst hc;subst hq
        refine⟨hown,λe' xs' b2 q1 q2=>?_⟩
        cases q1
        cases q2
        exact⟨by rw[l];exact t8,⟨iC,el,lo,hi,by rw[l];exact p2.here,by rw[p2.len];exact hfit,λq hq=>w3 q (by rw[←p2.len];exact hq)⟩,by rw[l];exact n2⟩
      ·
       obtain⟨ajy,rest,q1,q2,q3⟩:=X2 (P:=K.P) (w:=w) hun D X4 (hT.T _ _ hft) hz hb0 hb B (base:=J g) (sLen:=xs.length) (sCap:=cap) (by omega) hmax (old:=abf (g4.us.choose)) (λf hW=>by
        obtain⟨_,a2,a3⟩:=g4.us.choose_spec
        generalize g4.us.choose=us at a2 a3
        simp only[qW]
        rw[show(g:ey)=⟨ac6 g,g.off,O⟩ by rw[←g2],←N,←a2]
        by_cases h0:us.length=0
        ·rw[h0]
         have:us=[]:=List.length_eq_zero_iff.1 h0
         subst this
         simp[loadCells,loadCellsFrom]
        ·have X:=a3 (us.length-1) (by omega)
         rw[eM (by omega)]at X
         obtain⟨ws,el,fz,hw,Am⟩:=cells_of_cell? X
         have hlt:g.off+us.length≤ws.size:=by
          grind
         rw[Ow (w:=f) (by rw[hW];exact hw) hlt]
         congr 1
         grind [World.cell?]) C (ty:=o.type)
       obtain⟨a1,a2,_⟩:=g4.us.choose_spec
       generalize g4.us.choose=us at a1 a2 q3
       obtain⟨r5,k5⟩:=t6.drew
       have hfl:adC (xs++ys)=adC xs++adC ys:=by simp
       have hall:DL w Z (us++T arr) (adC (xs++ys)):=by rw[hfl];exact aQ.append a1 X7
       refine Df (hm:=hmp0) r5 (len:=xs.length+ys.length) (cap:=ajy) (ws:=abf us++arr++rest) (el:=et) ?_ (by simp) (by omega) ?_ (by
        intro r hr
        rcases nP.1 hr with hr|hr
        ·exact g4.len r hr
        grind) (λj d hj=>?_)
       ·rw[p,e1,q3];rfl
       ·have:=q2 i.size hzs.symm
        simp only[ahK,A,this,List.size_toArray,a2,N]
        rw[←Nat.add_mul,←Nat.add_mul]
        grind
       ·obtain⟨u,IL,Pm⟩:=hall.aE hj
        grind [bA.mono,Array.size]
     ·simp[ax.aD]at n
    ·simp[ax.aD]at F
   ·simp[ax.aD]at Y
  ·simp[ax.aD]at Y
 ·simp[ax.aD]at Y
end
section
variable{K:dh}{β:aC→Option Nat}{ω:Nat→Option cT}{Z:Nat→Prop}{s:St}{a:Act}{w:World}{af:bM}(hT:ip K.P af)
def ajz(h:aY K β ω Z s a w){e dst len cap lo hi:Nat}{ws:bW aJ}{el:bq}{rows:M (M D)}{r:Result Next}{w':World}(X:r=.ok (.value (.slice (J ⟨w.heap.size,0,O⟩) len cap)) w') (f:∀b,b<w.heap.size→w'.heap[b]?=w.heap[b]?)(m:w'.heap.size=w.heap.size+1)(A:w'.os=w.os)(n:adZ w'=adZ w)(t:adH w'=adH w) (g:w'.heap[w.heap.size]?=J (.cells ws el (lo,hi)))(B:∀o,o<ws.size→¬(lo≤o∧o<hi)) (z:rows.length=len)(k:len≤cap)(C:cap*e≤ws.size)(v:∀r∈rows,r.length=e)(hd:∀(j:Nat)d,(adC rows)[j]?=J d→∃u,ws[j]?=J u∧bA w Z d u)(hm:ca e=I):cR K s a dst r (.one (.ak e rows)):=by
 let⟨Y,k1⟩:=h.grow (w':=w') (ω':=λb=>if b=w.heap.size then J (.tmp dst,J 0)else ω b) f (by omega) A n t (λb p=>by simp[Nat.ne_of_lt p]) (λb g' p R=>by rw[m];by_cases E:b=w.heap.size;omega;rw[aV E]at R;have:=(h.dZ b _ R).2.1;omega);have f1:lq K β s a w' w.heap.size:=by intro q l S xs u' b' hq F y G p;rw[h.Ov f]at y;have:=(h.dZ _ _ (h.ak q l S xs u' b' hq F y G).1).2.1;omega
 have i:dy w' Z e rows w.heap.size 0:=by refine De g rows 0 v λj d H=>?_;let⟨u,N,P⟩:=hd j d H;exact⟨u,by simpa using N,bA.mono (λb p=>⟨k1.heap b (h.dp b p),p⟩) _ _ P⟩
 refine⟨_,_,β,_,Z,X,Y,⟨rfl,(aR.ju hm).2 ⟨⟨w.heap.size,0,O⟩,cap,by rw[z],rfl,by rw[z];exact k,i⟩⟩,?_⟩;intro j c x T V;have H:j=0:=by grind [SV.cells]
 subst H;simp only[SV.cells,iA,Option.some.injEq]at T;simp only[eB,iA,Option.some.injEq]at V;subst T;subst V;refine⟨(aR.ju hm).2 ⟨⟨w.heap.size,0,O⟩,cap,by rw[z],rfl,by rw[z];exact k,i⟩,λS xs b N P=>?_⟩;cases N;cases P;exact⟨by simp,⟨ws,el,lo,hi,g,by simpa using C,B⟩,f1⟩
def ajA{P:ew}(el:bq)(l:M ao):∃(cap:Nat)(w':World)(ws:bW aJ),Y l≤cap∧(ayI el ⟨abf l⟩).run P w=.ok (.slice (J ⟨w.heap.size,0,O⟩) (Y l) cap) w'∧(∀b,b<w.heap.size→w'.heap[b]?=w.heap[b]?)∧w'.heap.size=w.heap.size+1∧w'.os=w.os∧adZ w'=adZ w∧adH w'=adH w∧w'.heap[w.heap.size]?=J (.cells ws el (ws.size,ws.size+1))∧ws.size=cap∧∀(j:Nat),j<Y l→ws[j]?=(l[j]?).map λb=>.int .u8 b.toNat:=by
 have a:(choose (.appendCap (Y l) 0 el)).run P w=.ok ((zM (Y l) 0 el).cut (adZ w w.drawn (.appendCap (Y l) 0 el))) {w with drawn:=adS w+1}:=by simp[choose,Sem.run,ahJ]
 have c:Y l≤(zM (Y l) 0 el).cut (adZ w w.drawn (.appendCap (Y l) 0 el)):=by simp only[ahI];omega
 generalize (zM (Y l) 0 el).cut (adZ w w.drawn (.appendCap (Y l) 0 el))=cap at a c;let ws:bW aJ:=((abf l).map λb=>nS .u8 b.toNat)++Array.replicate (cap-Y l) (.int .u8 0);have d:ws.size=cap:=by simp[ws];omega
 let w1:World:=ac2 ({w with drawn:=adS w+1}:World) (.cells ws el);have h1:w1.heap[w.heap.size]?=J (.cells ws el (0,0)):=by show(w.heap.push _)[w.heap.size]?=_;simp
 refine⟨cap,w1.freeze ⟨w.heap.size,ws.size,O⟩ 1,ws,c,?_,?_,?_,rfl,rfl,rfl,?_,d,?_⟩;simp only[ayI,dC,C6,a,dF];have e:(shape w.heap.size).run P w1=.ok (J (el,ws.size)) w1:=by simp[shape,Sem.run,World.shape?,h1]
 show((newRow el ws).run P {w with drawn:=adS w+1}).andThen _=_;simp only[uU,dF];show((markStringish ⟨w.heap.size,0,O⟩).run P w1).andThen _=_;simp only[markStringish,dC,e,dF];rfl;intro b g;have f:w.heap.size≠b:=by omega
 show((w1.freeze ⟨w.heap.size,ws.size,O⟩ 1).heap)[b]?=_;simp only[World.freeze,Nat.one_ne_zero,ch,Array.getElem?_modify,aV f];show(w.heap.push _)[b]?=_;grind;show((w1.freeze ⟨w.heap.size,ws.size,O⟩ 1).heap).size=_;simp only[World.freeze,Nat.one_ne_zero,ch,Array.size_modify];show(w.heap.push _).size=_;simp;grind [World.freeze];grind
def X8{α a:Type}(f:α→a):∀l:M α,adC (l.map λb=>[f b])=l.map f|[]=>rfl|b::l=>by simp only[eU,Wt,X8 f l];rfl
def X9{P:ew}:∀(us:M aJ)(l:M ao)(acc:M ao),aQ (λu(b:ao)=>∃n:L,u=.int .u8 n∧b=kC (G n)) us l→
  (forIn us (lP (abf acc)) λc(__s:nT)=>
    match c with
    |nS IntKind.u8 n=>(pure (HB (__s.push (kC (G n)))):Sem (ForInStep nT))|x=>do
     stuck "bytesToString: byte expected"
     pure (HB __s)).run P w=.ok (lP (abf (acc++l))) w
 |[],[],acc,_=>by simp|u::us,b::l,acc,h=>by
  obtain⟨⟨n,rfl,rfl⟩,h2⟩:=h;rw[List.forIn_cons];simp only[dC,fF,dF];have hp:(lP (abf acc)).push (kC (G n))=lP (abf (acc++[kC (G n)])):=by apply ahz;simp[ByteArray.push]
  rw[hp,X9 us l _ h2];simp
def ajB{P:ew}{u:aJ}{xs:M (M D)}{l:M ao}(j:(u=.slice O 0 0∧xs=[])∨∃e cap,u=.slice (J e) xs.length cap∧(cap=0∨e.spot=O)∧xs.length≤cap∧dy w Z 1 xs e.block e.off) (h:xs.mapM (λx=>match x with|[.int .u8 n]=>J (kC n.toNat)|_=>O)=J l):(ayJ u).run P w=.ok (.string ⟨l.toArray⟩) w:=by
 rcases j with⟨rfl,rfl⟩|⟨e,cap,rfl,h2,h3,m⟩
 simp at h;subst h;rfl;have o:=X0 (K:={P:=P,N:=0,base:=0,w0:=w,E0:=λ_=>jn,Z0:=λ_=>jn,argv:=#[],kn:=λ_=>O}) (w:=w) (Z:=Z) (size:=1) (u:=.slice (J e) xs.length cap) (ys:=xs) (.inr ⟨e,cap,rfl,h2,h3,m⟩);let⟨_,_,arr,g,i,_⟩:=o;have d:=g w rfl;simp only[qW,Nat.mul_one]at d;have key:∀(xs:M (M D))(us:M aJ)(l:M ao),DL w Z us xs.flatten→xs.mapM (λx=>match x with|[.int .u8 n]=>J (kC n.toNat)|_=>O)=J l→aQ (λu(b:ao)=>∃n:L,u=.int .u8 n∧b=kC n.toNat) us l:=by
  intro xs;induction xs with
  |nil=>
   intro us l hd c;simp at c;subst c;cases us with|nil=>trivial|cons _ _=>exact hd.elim
  |cons x xs p=>
   intro us l hd c;rw[List.mapM_cons]at c;match x,c with
   |[.int .u8 n],c=>
    cases f:xs.mapM (λx=>match x with|[.int .u8 n]=>J (kC n.toNat)|_=>O)with
    |none=>simp[f]at c|some q=>
     simp[f]at c;subst c;cases us with|nil=>exact hd.elim|cons u us=>exact⟨⟨n,hd.1,rfl⟩,p us q hd.2 f⟩
   |[],c=>simp at c|.bool _::_,c=>simp at c|.bh _::_,c=>simp at c|.nil::_,c=>simp at c|.sl _ _::_,c=>simp at c|.cX _::_,c=>simp at c|.rep _ _::_,c=>simp at c|.int k n::y::r,c=>simp at c|[.int .i8 n],c=>simp at c|[.int .i16 n],c=>simp at c|[.int .i32 n],c=>simp at c|[.int .i64 n],c=>simp at c|[.int .u16 n],c=>simp at c|[.int .u32 n],c=>simp at c|[.int .u64 n],c=>simp at c
 have s:=X9 (P:=P) (w:=w) arr.toList l [] (key xs _ l i h);simp only[ayJ,dC,d,dF];rw[←Array.forIn_toList];have t:ByteArray.empty=lP ([]:M ao).toArray:=rfl;rw[t];exact(congrArg (λr:Result nT=>r.andThen λa w'=>Sem.run P (pure (Value.string a)) w') s).trans (by simp)
include hT in
def ajC(h:aY K β ω Z s a w){src A:bq}{x:cF}{dst:Nat}{o:cS}(ho:o.op=.convert src A x){v:SV}{s':St}(R:(cn af o.op dst).aD s=J (v,s')):cR K s' a dst ((execOp a.eval o).run K.P w) v:=by
 rw[ho]at R;simp only[cn]at R;let⟨v1,s1,h1,e⟩:=aS R;let⟨S,hv,hno,hnu⟩:=iU h h1;rw[S]at e;have B:(execOp a.eval o).run K.P w=((convert src A (adx a x)).run K.P w).andThen λu w'=>.ok (.value u) w':=by simp only[execOp,ho,dC,fF]
 unfold uE at e;split at e;rename_i i1 _ _ k _ _ n f i;let⟨d1,_,_,r⟩:=fe (w:=w) (hT.T _ _ f);let⟨d2,_,m,t⟩:=fe (w:=w) (hT.T _ _ i);have p:=xC m;subst p;let⟨C,q⟩:=bg e;rw[C,q];have G:=hv.2;simp only[aR,bA]at G;refine cR.d (d:=.int k (aby k n)) h (u:=.int k (aby k n)) ?_ rfl;rw[B,G];simp only[convert,dC,r,t,dF,Conv.intToInt,fF];rename_i l f i;let⟨d1,_,_,r⟩:=fe (w:=w) (hT.T _ _ f);let⟨d2,_,m,t⟩:=fe (w:=w) (hT.T _ _ i);have p:=sP m;subst p;let⟨C,q⟩:=bg e;rw[C,q];have G:=hv.2;simp only[aR,bA]at G;refine cR.d (d:=.bh l) h (u:=.string ⟨abf l⟩) ?_ rfl;grind [convert,dC,dF,fF];rename_i V z l f i;let⟨d1,_,_,r⟩:=fe (w:=w) (hT.T _ _ f);let⟨d2,_,m,t⟩:=fe (w:=w) (hT.T _ _ i);have p:=oh m;subst p;split at e;rename_i D;let⟨d3,_,E,H⟩:=fe (w:=w) (hT.T _ _ D);have F:=xC E;subst F;let⟨C,q⟩:=bg e;rw[C,q];have G:=hv.2;simp only[aR,bA]at G;let⟨cap,w',ws,q1,q2,q3,q4,q5,q6,q7,q8,q9,q10⟩:=ajA (P:=K.P) (w:=w) V l;refine ajz (hm:=by decide) h (w':=w') (len:=l.length) (cap:=cap) (lo:=ws.size) (hi:=ws.size+1) (ws:=ws) (el:=V) ?_ q3 q4 q5 q6 q7 q8 (by omega) (by simp) q1 (by omega) (by simp) (λj d N=>?_);grind [convert,dC,dF];rw[X8,iQ]at N;cases X:l[j]? with|none=>grind|some b=>rw[X]at N;simp only[Option.map_some,Option.some.injEq]at N;subst N;refine⟨.int .u8 b.toNat,?_,rfl⟩;grind
 simp[ax.aD]at e;rename_i V z c f i;let⟨d1,_,Y,r⟩:=fe (w:=w) (hT.T _ _ f);have X7:=oh Y;subst X7;let⟨d2,_,m,t⟩:=fe (w:=w) (hT.T _ _ i);have p:=sP m;subst p;split at e;rename_i D;let⟨d3,_,E,H⟩:=fe (w:=w) (hT.T _ _ D);have F:=xC E;subst F;let⟨xs,s2,h2,y⟩:=aS e;let⟨q,g⟩:=Xi h hv.2 h2;rw[q]at y;split at y;rename_i l hl;let⟨C,hs3⟩:=bg y;rw[C,hs3];have hrun:=ajB (P:=K.P) g hl;refine cR.d (d:=.bh l) h (u:=.string ⟨abf l⟩) ?_ rfl;grind [convert,dC,dF];simp[ax.aD]at y;simp[ax.aD]at e;simp[ax.aD]at e
end
def dm(args:M SV)(aI:M (M C)):St
 |.tmp _=>{}|.bN i=>{v:=H args i .undef}|.box (.aB i)=>{v:=match aI[i]? with|some cs=>.agg cs|none=>.undef}
 |.box _=>{}
def fa(args:M SV)(r:ri):St
 |.tmp 0=>{v:=r.v}|.tmp _=>{}|.bN i=>{v:=H (ln r.cH args) i .undef}|.box (.aB i)=>{v:=match r.aI[i]? with|some cs=>.agg cs|none=>.undef}
 |.box _=>{}
def cY(P:ew)(N:Nat)(w:World)(vals:bW aJ)(β:aC→Option Nat)(ω:Nat→Option cT)(Z:Nat→Prop):dh:={P,N,base:=w.heap.size,w0:=w,E0:=λb=>ω b≠O,Z0:=Z,argv:=vals,kn:=β}
section
variable{K:dh}{β:aC→Option Nat}{ω:Nat→Option cT}{Z:Nat→Prop}{s:St}{a:Act}{w:World}{af:bM}
def Ya(h:aY K β ω Z s a w){c c':C}{u:aJ}{s':St}(e:aR K β Z s a w c u)(j:cQ c)(d:(pf af c).aD s=J (c',s')):∃ω' Z',aY K β ω' Z' s' a w∧dD K β a ω Z s w ω' Z' s' w∧aR K β Z' s' a w c' u∧cQ c':=by unfold pf at d;split at d;split at d;grind [bg,dD.refl];let⟨x,k,h1,b⟩:=aS d;let⟨f,g⟩:=bg b;rw[f,g];let⟨ω',Z',i,k1,d1⟩:=CX h e h1;exact⟨ω',Z',i,k1,d1,by simp[cQ]⟩;split at d;let⟨x,k,h1,b⟩:=aS d;let⟨f,g⟩:=bg b;rw[f,g];let⟨ω',Z',i,k1,d1⟩:=CX h e h1;exact⟨ω',Z',i,k1,d1,by simp[cQ]⟩;grind [bg,dD.refl];grind [bg,dD.refl]
def ajD:∀(cs:M C)(us:M aJ)(ω:Nat→Option cT)(Z:Nat→Prop)(s s':St)(cs':M C),aY K β ω Z s a w→aQ (λu c=>aR K β Z s a w c u) us cs→(∀c∈cs,cQ c)→(xq af cs).aD s=J (cs',s')→∃ω' Z',aY K β ω' Z' s' a w∧dD K β a ω Z s w ω' Z' s' w∧aQ (λu c=>aR K β Z' s' a w c u) us cs'∧(∀c∈cs',cQ c):=by
 intro cs;induction cs with
 |nil=>intro us ω Z s s' cs' h b g i;let⟨d,o⟩:=bg i;grind [dD.refl]
 |cons c cs q=>
  intro us ω Z s s' cs' h b g i;cases us with|nil=>exact ab1 b|cons u us=>simp only[xq]at i;let⟨c1,r,h1,j⟩:=aS i;let⟨k,F,h2,l⟩:=aS j;let⟨d,o⟩:=bg l;subst d;subst o;let⟨m,t,p,k1,v,y⟩:=Ya h b.1 (g c (lf ..)) h1;have f:∀x∈cs,cQ x:=λx d=>g x (i7 _ d);let⟨n,z,A,k2,B,G⟩:=q us m t r _ k p (b.2.kS λu c D E=>k1.ls h.dp (λe xs _ d _=>cO d (f c D e xs)) E) f h2;refine⟨n,z,A,k1.trans k2,⟨k2.ls p.dp (λe xs _ d _=>cO d (y e xs)) v,B⟩,λx d=>?_⟩;grind
def oi(K:dh)(β:aC→Option Nat)(Z:Nat→Prop)(s:St)(a:Act)(w:World)(u:aJ)(v:SV):Prop:=bO (aR K β Z s a w) u v∧(∀c∈v.cells,cQ c)∧v≠.undef
theorem oi.lift{ω':Nat→Option cT}{Z':Nat→Prop}{s':St}{w':World}(d:aY K β ω Z s a w)(k:dD K β a ω Z s w ω' Z' s' w'){u:aJ}{v:SV}(h:oi K β Z s a w u v):oi K β Z' s' a w' u v:=⟨bO.mono (λc _ f b=>k.ls d.dp (λe xs _ g _=>cO g (h.2.1 c f e xs)) b) h.1,h.2⟩
def ajE(h:aY K β ω Z s a w){v v':SV}{u:aJ}{s':St}(hv:oi K β Z s a w u v)(e:(qb af v).aD s=J (v',s')):∃ω' Z',aY K β ω' Z' s' a w∧dD K β a ω Z s w ω' Z' s' w∧oi K β Z' s' a w u v':=by
 cases v with
 |one c=>simp only[qb]at e;let⟨c1,n,h1,b⟩:=aS e;let⟨g,i⟩:=bg b;subst g;subst i;let⟨d,j,k,k1,l,m⟩:=Ya h hv.1.2 (hv.2.1 c (by simp[SV.cells])) h1;exact⟨d,j,k,k1,⟨hv.1.1,l⟩,by simpa[SV.cells]using m,by simp⟩
 |agg cs=>simp only[qb]at e;let⟨c1,n,h1,b⟩:=aS e;let⟨g,i⟩:=bg b;subst g;subst i;let⟨ws,o,f⟩:=hv.1;let⟨d,j,k,k1,l,m⟩:=ajD cs (T ws) ω Z s _ _ h f (λc p=>hv.2.1 c p) h1;exact⟨d,j,k,k1,⟨ws,o,l⟩,m,by simp⟩
 |bw x=>simp[qb,ax.aD]at e|undef=>simp[qb,ax.aD]at e
def ajF:∀(vs:M SV)(us:M aJ)(ω:Nat→Option cT)(Z:Nat→Prop)(s s':St)(vs':M SV),aY K β ω Z s a w→aQ (oi K β Z s a w) us vs→(Aa af vs).aD s=J (vs',s')→∃ω' Z',aY K β ω' Z' s' a w∧dD K β a ω Z s w ω' Z' s' w∧aQ (oi K β Z' s' a w) us vs':=by
 intro vs;induction vs with
 |nil=>intro us ω Z s s' vs' h b c;let⟨j,k⟩:=bg c;grind [dD.refl]
 |cons v vs m=>
  intro us ω Z s s' vs' h b c;cases us with|nil=>exact ab1 b|cons u us=>simp only[Aa]at c;let⟨v1,n,h1,d⟩:=aS c;let⟨e,y,h2,f⟩:=aS d;let⟨j,k⟩:=bg f;subst j;subst k;let⟨g,o,l,k1,p⟩:=ajE h b.1 h1;let⟨i,q,r,k2,t⟩:=m us g o n _ e l (aQ.mono (λ_ _ x=>oi.lift h k1 x) b.2) h2;exact⟨i,q,r,k1.trans k2,oi.lift l k2 p,t⟩
def gU(ks:M aC)(β:aC→Option Nat):aC→Option Nat|.aB i=>if i<Y ks then β (H ks i default)else O|_=>O
def gF(ks:M aC)(ω:Nat→Option cT)(b:Nat):Option cT:=
 match ω b with|some (.box k,j)=>if k∈ks then J (.box (.aB (idx k ks)),j)else O|_=>O
theorem IM:∀{ks:M aC}{k:aC},k∈ks→idx k ks<Y ks∧ks[idx k ks]?=J k
 |k'::ks,k,h=>by
  simp only[idx];split;grind;rename_i e;have:k∈ks:=by grind
  let⟨h1,h2⟩:=IM this;grind
theorem rE{ks:M aC}{k:aC}(h:k∈ks)(β:aC→Option Nat):gU ks β (.aB (idx k ks))=β k:=by grind [IM,gU]
theorem rF:∀{ks:M aC}(_:ks.Nodup){i:Nat}{k:aC},ks[i]?=J k→idx k ks=i
 |[],_,_,_,h=>by simp at h|k'::ks,hn,0,k,h=>by simp_all [idx]|k'::ks,hn,i+1,k,h=>by
  simp only[qU]at h;have a:k≠k':=by grind
  simp only[idx,aV a,rF (wW.1 hn).2 h]
theorem An:∀(l:M aC),(nh l).Nodup|[]=>List.nodup_nil|k::r=>by simp only[nh];exact wW.2 ⟨by simp,(An r).filter _⟩
theorem Yb:∀{l:M aC}{k:aC},k∈l→k∈nh l|k'::r,k,h=>by simp only[nh,jQ,List.mem_filter,eY];by_cases e:k=k';exact .inl e;exact .inr ⟨Yb (by simpa[e]using h),e⟩
def Yc:∀{cs:M C}{c:C}{k:aC},c∈cs→k∈iB [c]→k∈iB cs
 |b::cs,c,k,a,hk=>by
  rcases jQ.1 a with rfl|a
  cases c<;>simp_all [iB];have:=Yc a hk;cases b<;>simp_all [iB]
def Yd(h:aY K β ω Z s a w){ks:M aC}{c c':C}{u:aJ}{s':St}(m:aR K β Z s a w c u)(V:cQ c)(hk:∀k∈iB [c],k∈ks)(o:(canon ks c).aD s=J (c',s')):s'=s∧(∀(K₀:dh)(s₀:St)(a₀:Act),aR K₀ (gU ks β) Z s₀ a₀ w c' u)∧(∀(e:Nat)(xs:M (M D))(b:Nat),c'=.ak e xs→eH u=J b→gF ks ω b=O∧b<w.heap.size):=by
 unfold canon at o;split at o;let⟨l,n⟩:=bg o;subst l;exact⟨n,λ_ _ _=>m,by simp⟩;rename_i r j hv cv e k xs;simp only[ax.aD]at o;let⟨_,s1,h1,d⟩:=aS o;let⟨⟨E,F⟩,G⟩:=cN h1;rw[G]at d;have v:(s r).at j≠.bK:=by grind [ax.aD]
 let⟨ys,P,z,f6,f2,f3,f4,f5,_,f8⟩:=Il h m E F v;rcases f6 with f6|f6
 rw[f6]at d;simp only at d;let⟨_,s2,h2,y⟩:=aS d;let⟨X,H⟩:=cN h2;rw[H]at y;let⟨l,n⟩:=bg y;subst l;refine⟨n,λ_ _ _=>pk.iff.2 f5,λe' Y b1 q1 A=>?_⟩;rw[f4]at A;cases A;by_cases q:r.isArg=W;cases r with
 |bN i=>
  let⟨B,R⟩:=h.iS i j e ys P z (jc f6 (by simp)) f2 f3;refine⟨?_,Nat.lt_of_lt_of_le B h.base⟩;have:ω z=O:=by
   cases N:ω z with|none=>rfl|some g=>exact cO ((h.dZ _ _ N).2.2 B) R
  simp[gF,this]
 |tmp t=>simp[aO.isArg]at q|box k=>simp[aO.isArg]at q
 let⟨B,R⟩:=h.ak r j e ys P z (by simpa using q) (jc f6 (by simp)) f2 f3;refine⟨?_,(h.dZ _ _ B).2.1⟩;grind [gF];rw[f6]at d;simp only at d;let⟨l,n⟩:=bg d;subst l;refine⟨n,λ_ _ _=>f8 Z (λb hb=>hb) (h.frozen f6 f2 f3),by simp⟩;rename_i k off;let⟨l,n⟩:=bg o;subst l;let⟨b,S,T⟩:=m;exact⟨n,λ_ _ _=>⟨b,by simp_all [rE,iB],T⟩,by simp⟩;rename_i f caps;let⟨l,n⟩:=bg o;subst l;let⟨vs,S,T⟩:=m;refine⟨n,λ_ _ _=>⟨vs,S,?_⟩,by simp⟩;have key:∀(us:M aJ)(caps:M (aC×Nat)),(∀p∈caps,p.1∈ks)→aQ (λu(p:aC×Nat)=>∃b,β p.1=J b∧u=.pointer (J ⟨b,p.2,O⟩)) us caps→aQ (λu(p:aC×Nat)=>∃b,gU ks β p.1=J b∧u=.pointer (J ⟨b,p.2,O⟩)) us (caps.map λp=>(.aB (idx p.1 ks),p.2)):=by
  intro us;induction us with
  |nil=>intro caps _ h;cases caps with|nil=>trivial|cons _ _=>exact ab1 h
  |cons u us ih=>
   intro caps hm h;cases caps with|nil=>exact ab1 h|cons p caps=>let⟨⟨b,q1,A⟩,q3⟩:=h;exact⟨⟨b,by grind [rE],A⟩,ih caps (λx l=>hm x (i7 _ l)) q3⟩
 grind [iB];simp[ax.aD]at o
def Dh(ks:M aC)(β:aC→Option Nat)(ω:Nat→Option cT)(Z:Nat→Prop)(w:World)(u:aJ)(v:SV):Prop:=(∀(a:dh)(c:St)(d:Act),bO (aR a (gU ks β) Z c d w) u v)∧(∀(j e:Nat)(xs:M (M D))(f:aJ)(b:Nat),v.cells[j]?=J (.ak e xs)→(eB u)[j]?=J f→eH f=J b→gF ks ω b=O∧b<w.heap.size)∧v≠.undef
def ajG:∀(cs:M C)(us:M aJ)(s':St)(cs':M C){ks:M aC},aY K β ω Z s a w→aQ (λu c=>aR K β Z s a w c u) us cs→(∀c∈cs,cQ c)→(∀k∈iB cs,k∈ks)→
  (sJ ks cs).aD s=J (cs',s')→s'=s∧(∀(K₀:dh)(s₀:St)(a₀:Act),aQ (λu c=>aR K₀ (gU ks β) Z s₀ a₀ w c u) us cs')∧
    (∀(j e:Nat)(xs:M (M D))(n:aJ)(b:Nat),cs'[j]?=J (.ak e xs)→us[j]?=J n→eH n=J b→gF ks ω b=O∧b<w.heap.size):=by
 intro cs
 induction cs with
 |nil=>
  intro us s' cs' ks h d f hk m;let⟨g,o⟩:=bg m;subst g;cases us with|nil=>exact⟨o,λ_ _ _=>trivial,by simp⟩|cons u us=>exact ab1 d
 |cons c cs v=>
  intro us s' cs' ks h d f hk m;cases us with|nil=>exact ab1 d|cons u us=>simp only[sJ]at m;let⟨c1,E,h1,i⟩:=aS m;let⟨p,y,F⟩:=Yd h d.1 (f c (lf ..)) (λk l=>hk k (Yc (lf ..) l)) h1;rw[p]at i;let⟨q,z,h2,r⟩:=aS i;let⟨g,o⟩:=bg r;let⟨t,A,G⟩:=v us z q h d.2 (λx g=>f x (i7 _ g)) (λk l=>hk k (by cases c<;>simp_all [iB])) h2;subst g;refine⟨by rw[o,t],λK₀ s₀ a₀=>⟨y K₀ s₀ a₀,A K₀ s₀ a₀⟩,λj e xs n H N P B=>?_⟩;grind
theorem Ye(l m:M C):iB (l++m)=iB l++iB m:=by
 induction l with|nil=>rfl|cons c l a=>cases c<;>simp[iB,a]
def ajH:∀(vs:M SV)(us:M aJ)(s':St)(vs':M SV){ks:M aC},aY K β ω Z s a w→aQ (oi K β Z s a w) us vs→(∀k∈iB (vs.flatMap SV.cells),k∈ks)→(uF ks vs).aD s=J (vs',s')→s'=s∧aQ (Dh ks β ω Z w) us vs':=by
 intro vs;induction vs with
 |nil=>
  intro us s' vs' ks h b hk z;let⟨l,m⟩:=bg z;subst l;cases us with|nil=>exact⟨m,trivial⟩|cons u us=>exact ab1 b
 |cons v vs T=>
  intro us s' vs' ks h b hk z;cases us with
  |nil=>exact ab1 b|cons u us=>
   simp only[uF]at z;let⟨v1,V,h1,r⟩:=aS z;have t:∀k∈iB v.cells,k∈ks:=λk n=>hk k (by grind [Ye]);have i:V=s∧Dh ks β ω Z w u v1:=by
    cases v with
    |one c=>simp only[n5]at h1;let⟨c1,H,h3,o⟩:=aS h1;let⟨l,m⟩:=bg o;subst l;let⟨p,C,N⟩:=Yd h b.1.1.2 (b.1.2.1 c (by simp[SV.cells])) (λk n=>t k (by simpa[SV.cells]using n)) h3;refine⟨by rw[m,p],λd f g=>⟨b.1.1.1,C d f g⟩,λj e xs P R A B y=>?_,by simp⟩;rw[Af b.1.1.1]at B;grind [SV.cells]
    |agg cs=>simp only[n5]at h1;let⟨c1,H,h3,o⟩:=aS h1;let⟨l,m⟩:=bg o;subst l;let⟨ws,B,D⟩:=b.1.1;let⟨p,C,N⟩:=ajG cs ws.toList H c1 h D (λc A=>b.1.2.1 c A) t h3;refine⟨by rw[m,p],λd f g=>⟨ws,B,C d f g⟩,λj e xs P R A S y=>?_,by simp⟩;rw[B]at S;exact N j e xs P R A S y
    |bw x=>simp[n5,ax.aD]at h1|undef=>simp[n5,ax.aD]at h1
   rw[i.1]at r;let⟨E,X,h2,F⟩:=aS r;let⟨l,m⟩:=bg F;subst l;let⟨G,q⟩:=T us X E h b.2 (λk n=>hk k (by grind [Ye])) h2;exact⟨by rw[m,G],i.2,q⟩
def Yf{d:M aC}:∀(ks:M aC)(s':St)(b:M (M C)),(xt d ks).aD s=J (b,s')→s'=s∧Y b=Y ks∧∀(i:Nat)(k:aC),ks[i]?=J k→∃cs,b[i]?=J (cs.map (tc d))∧(s (.box k)).v=.agg cs∧cs.all (tok d)=W:=by
 intro ks;induction ks with
 |nil=>intro s' b a;let⟨h,j⟩:=bg a;grind
 |cons k ks l=>intro s' b a;simp only[xt,ax.aD]at a;split at a;rename_i cs f;let⟨_,m,h1,c⟩:=aS a;let⟨hp,e⟩:=cN h1;rw[e]at c;let⟨r,n,h2,g⟩:=aS c;grind [bg];simp[ax.aD]at a
def ajI:∀(ks:M aC)(s':St)(l:M aC),(Ab ks).aD s=J (l,s')→s'=s:=by
 intro ks;induction ks with
 |nil=>intro s' l a;exact(bg a).2
 |cons k ks c=>intro s' l a;simp only[Ab,ax.aD]at a;split at a;let⟨r,d,h2,b⟩:=aS a;grind [bg];simp[ax.aD]at a
def Yg{ks:M aC}{cs:M C}(h:cs.all (tok ks)=W){c:C}(a:c∈cs):tok ks c=W:=gy.1 h c a
def Yh{f:dh}{ks:M aC}{s':St}{g:Act}{c:C}{u:aJ}(hp:tok ks c=W)(h:aR K β Z s a w c u):aR f (gU ks β) Z s' g w (tc ks c) u:=by
 cases c with
 |d x=>exact h|ak e xs=>exact h|aW k off=>let⟨b,j,i⟩:=h;exact⟨b,by simp_all [rE,tok],i⟩
 |bK=>trivial|_=>cases hp
theorem Yi{ks:M aC}{c:C}{e:Nat}{xs:M (M D)}(h:tc ks c=.ak e xs):c=.ak e xs:=by cases c<;>first|exact h|cases h
def aQ.IP{α β a:Type}{R:α→β→Prop}{S:α→a→Prop}{f:β→a}:∀{us:M α}{cs:M β},aQ R us cs→(∀u c,c∈cs→R u c→S u (f c))→aQ S us (cs.map f)|[],[],_,_=>trivial|_::_,_::_,h,g=>⟨g _ _ (lf ..) h.1,aQ.IP h.2 λu c b=>g u c (i7 _ b)⟩
def Yj{ks:M aC}{c:C}(h:tok ks c=W):jE (Y ks) (tc ks c)=W:=by
 cases c with|d x=>rfl|ak e xs=>rfl|aW k off=>exact decide_eq_true (IM (by simpa[tok]using h)).1|bK=>rfl|_=>cases h
def ajJ{b:dh}{n:Nat}{s':St}{f:Act}{c:C}{u:aJ}(hp:jE n c=W)(h:aR K β Z s a w c u):aR b β Z s' f w c u:=by
 cases c with|d x=>exact h|ak e xs=>exact h|aW k off=>exact h|bK=>trivial|_=>cases hp
def Yk{n:Nat}{cs:M C}(h:cs.all (jE n)=W){c:C}(a:c∈cs):jE n c=W:=gy.1 h c a
theorem Yl{ks:M aC}{β:aC→Option Nat}{k:aC}{b:Nat}(h:gU ks β k=J b):∃i k',k=.aB i∧ks[i]?=J k'∧β k'=J b:=by unfold gU at h;grind
def ajK(h:aY K β ω Z s a w){ks:M aC}(hnd:ks.Nodup){us:M aJ}{d:M SV}{x:M (M C)}(D:aQ (Dh ks β ω Z w) us d)(Ao:x.length=ks.length) (E:∀(i:Nat)(k:aC),ks[i]?=J k→∃cs,x[i]?=J (cs.map (tc ks))∧(s (.box k)).v=.agg cs∧cs.all (tok ks)=W):aY (cY K.P 0 w (abf us) (gU ks β) (gF ks ω) Z) (gU ks β) (gF ks ω) Z (dm d x) {tmps:=#[],defers:=[]} w:=by
 have o:∀i,(abf us).getD i undef=us.getD i undef:=λi=>by simp_all
 have f:∀i(v:SV),d.getD i .undef=v→v≠.undef→Dh ks β ω Z w (us.getD i undef) v:=by
  intro i v hv F;rw[jP]at hv;cases m:d[i]? with|none=>grind|some v'=>rw[m]at hv;simp only[Option.getD_some]at hv;subst hv;let⟨u,n,p⟩:=D.aE m;grind
 have q:∀(k:aC)(y:M C),(dm d x (.box k)).v=.agg y→∃i k' cs,k=.aB i∧ks[i]?=J k'∧(s (.box k')).v=.agg cs∧y=cs.map (tc ks)∧cs.all (tok ks)=W:=by
  intro k cs hk;cases k with
  |aB i=>
   simp only[dm]at hk;cases H:x[i]? with|none=>grind|some y=>rw[H]at hk;cases hk;have hi:i<ks.length:=(by grind);let⟨cs2,n,p,G⟩:=E i _ (eM hi);grind
  |aw t=>simp[dm]at hk|cm t i=>simp[dm]at hk
 have N:∀(i:Nat)(k':aC)(j:Option Nat)(b:Nat),ks[i]?=J k'→ω b=J (.box k',j)→gF ks ω b=J (.box (.aB i),j):=by grind [gF,rF]
 refine⟨rfl,⟨rfl,λg l R=>?_,λg R=>?_⟩,rfl,rfl,rfl,Nat.le_refl _,λ_ _ _=>rfl,h.dp,λ_ h=>h,λb E=>.inl E,?_,?_,?_,?_,?_,?_,λ_ _ h=>h⟩;let⟨n,p,G,S⟩:=h.laid g l R;refine⟨n,p,λT=>T ?_,S⟩;simp only[gF,G];let⟨n,p,G,S⟩:=h.opens g R;refine⟨n,p,λT=>T ?_,S⟩;simp only[gF,G];intro t;exact trivial;intro i;show bO _ ((abf us).getD i undef) (d.getD i .undef);rw[o];by_cases hu:d.getD i .undef=.undef;rw[hu];trivial;exact(f i _ rfl hu).1 _ _ _;intro k;cases hv:(dm d x (.box k)).v with
 |agg cs=>obtain⟨i,k',z,rfl,hi,n,rfl,p⟩:=q k cs hv;let⟨b,ws,el,lo,V,f1,f2,f3,f4,f5⟩:=ek.cell h n;refine⟨b,ws,el,lo,V,?_,N i k' O b hi f2,f3,f4,f5.IP λu c m X=>Yh (Yg p m) X⟩;have:=rE (fK hi) β;grind [rF]
 |undef=>
  show gU ks β k=O;cases Y:gU ks β k with|none=>rfl|some b=>grind [Yl,dm]
 |one c=>cases k<;>simp only[dm]at hv<;>(try (split at hv))<;>cases hv
 |bw c=>cases k<;>simp only[dm]at hv<;>(try (split at hv))<;>cases hv
 intro r j e xs u1 b1 X m hh A;cases r with
 |tmp t=>simp[dm,SV.cells]at m|bN i=>simp[aO.isArg]at X|box k=>
  cases hv:(dm d x (.box k)).v with
  |agg cs=>obtain⟨i,k',z,rfl,hi,n,rfl,p⟩:=q k cs hv;rw[hv]at m;have m:(z.map (tc ks))[j]?=J (.ak e xs):=m;have hc0:z[j]?=J (.ak e xs):=(by grind [Yi]);have Y:gU ks β (.aB i)=β k':=(by have:=rE (fK hi) β;grind [rF]);have B:cK K β a w (.box k') j=J u1:=(by simp_all [cK]);let⟨p1,p2⟩:=h.ak (.box k') j e xs u1 b1 rfl (by rw[n];exact hc0) B A;grind
  |undef=>simp_all [SV.cells]|one c=>cases k<;>simp only[dm]at hv<;>(try (split at hv))<;>cases hv
  |bw c=>cases k<;>simp only[dm]at hv<;>(try (split at hv))<;>cases hv
 intro i j e xs u1 b1 m hh A;have Pz:(d.getD i .undef).cells[j]?=J (.ak e xs):=m;have F:d.getD i .undef≠.undef:=by grind [SV.cells]
 have B:(eB (us.getD i undef))[j]?=J u1:=by rw[←o];exact hh
 let⟨p1,p2⟩:=(f i _ rfl F).2.1 j e xs u1 b1 Pz B A;exact⟨p2,λhE=>hE p1⟩;intro b g E;have hb':gF ks ω b≠O:=by rw[E];simp
 have:∃g',ω b=J g':=by grind [gF]
 let⟨g',hg'⟩:=this;let⟨q1,q2,_⟩:=h.dZ b g' hg';exact⟨q1,q2,λ_=>hb'⟩
end
end Go.Vs
