/- The statement ExportLeftUptoCardSaid of the given program is proved here: for every input whose bulk is at most the bound of its row, the law returns true and changes nothing. Part 1 of 7. -/
import Derived.Orders
import Derived.Scope
import Derived.Laws.World
import Derived.Laws.Sem
import GoSem.Dispatch
import Derived.Lib.Strings
import Derived.MapKept
import Derived.WideKeyRuns
set_option linter.unusedVariables false
set_option linter.unusedSimpArgs false
set_option linter.unusedSectionVars false
set_option linter.constructorNameAsVariable false
set_option linter.defProp false
open Array renaming getElem?_toList->qO,range->ND,size_append->agK,toList_modify->ayj,setIfInBounds->abW,toList->V
open BitVec renaming ofInt->mX
open Bool renaming and_eq_true->cr,false->I,false_eq_true->bM,not_false->qQ,toNat->agE,true->W
open ByteArray renaming ext->agB,mk->lK,size->CA
open Eq renaming trans->aav
open False renaming elim->aaY
open ForInStep renaming yield->Hz
open Go renaming Addr->eu,BinOp->jR,FuncId->dS,IntKind->mW,MapEntry->dT,Oper->cR,Operand->cD,Program->er,TypeDesc->oU,TypeId->bv,Value->aL,run_underlying->kZ
open Go.Act renaming eval->ab3
open Go.Addr renaming block->abX
open Go.Builtin renaming append_->uh,firstCells->qP,growBy->aym,lenOf->Hw,len_->Vk,nextslicecap->zS,zeroCells->zU
open Go.Conv renaming bytesToString->ayo,stringToBytes->ayn
open Go.Field renaming offset->acJ
open Go.Instr renaming checkKey->mY,entryStore->ayk,fieldAt->agA,fill->Vm,findAsking->ayg,findKey->NA,indexAt->Nx,keyThatStays->Vj,loadAt->Cz,lookup->xe,mapUpdate->NC,sameBits->Hv,sameNow->Nz,sliceAt->agD,sliceBound->agC,sliceBounds->Ny,storeAt->agz,sureAddr->xb
open Go.IntKind renaming i64->a7,signed->Ht,wrap->aaX
open Go.MapKept renaming bytes_beq->ayh
open Go.Op renaming bytesLess->nK,equalIn->Hu
open Go.Program renaming cellsOf->ayl,underlying->aa9
open Go.Question renaming appendCap->zV,cut->agI,forced->agJ
open Go.Result renaming andThen_ok->dE
open Go.Sem renaming run_bind->dB,run_pure->fF
open Go.Value renaming cells->agF,int->nN,cells->acz
open Go.World renaming alloc->abK,cell?->T,drawn->acK,output->acB,setCell->ab5,tape->acL
open Iff renaming rfl->uf
open Int renaming toNat->G
open List renaming all_cons->nM,all_eq_true->gT,append_nil->ug,ext_getElem?->ud,flatMap_cons->kK,flatMap_nil->CD,flatten_cons->Vl,getD_eq_getElem?_getD->jH,getElem?_append->ayi,getElem?_append_left->pO,getElem?_cons_succ->qN,getElem?_cons_zero->ij,getElem?_eq_getElem->eD,getElem?_eq_some_iff->ik,getElem?_map->iH,getElem?_of_mem->nL,getElem?_set->zO,getElem?_toArray->Hy,length_append->mo,length_cons->kL,map_cons->fc,mem_append->mm,mem_cons->iG,mem_cons_of_mem->jr,mem_cons_self->kJ,mem_flatMap->Hr,mem_iff_getElem?->Vi,mem_map->mq,mem_of_getElem?->fG,mem_or_eq_of_mem_set->agG,mem_singleton->js,nodup_cons->zX,pairwise_append->sf,replicate->ej,replicate_succ->agH,contains->aa1,flatten->acA,getD->H,length->Y,toArray->ve
open List.cons renaming injEq->zR
open Nat renaming ble->gG
open Option renaming none->O,some->J,getD->X
open Or renaming resolve_left->acH
open Prod.mk renaming injEq->gH
open UInt8 renaming ofNat->kr
open _root_ renaming Array->bZ,Bool->ay,ByteArray->nO,False->jc,Int->L,List->M,Nat->U,Option->Q,True->dL,UInt8->ao,Unit->bY,absurd->cJ,and_true->zQ,decide_eq_true_eq->eW,if_false->ca,if_neg->aU,if_pos->aF,if_true->bH
namespace Go.Vs
inductive aD where
 |aC(i:Nat)|az(t:Nat)|cn(t i:Nat)
 deriving DecidableEq,Repr,Inhabited
inductive aO where
 |tmp(t:Nat)|box(k:aD)|bP(i:Nat)
 deriving DecidableEq,Repr,Inhabited
inductive NK where
 |aX|func|iface|map|chan
 deriving DecidableEq,Repr,Inhabited
inductive D where
 |int(k:IntKind)(n:Int)
 |bool(b:Bool)
 |bj(s:List UInt8)
 |nil
 |sl(e:Nat)(xs:List (List D))
 |cV(k:NK)
 |rep(u:TypeId)(ps:List (UInt8×List UInt8))
 deriving Inhabited
inductive C where
 |d(x:D)
 |ak(e:Nat)(xs:List (List D))
 |bm(r:aO)(j hv cv e k:Nat)(xs:List (List D))
 |ea(r:aO)(j hv e i off:Nat)
 |da(xs:List D)
 |aX(k:aD)(off:Nat)
 |dj(f:FuncId)(caps:List (aD×Nat))
 |bN
 deriving Inhabited
inductive SV where
 |one(c:C)
 |agg(cs:List C)
 |bw(vs:List (Bool×List C))
 |undef
 deriving Inhabited
structure RV where
 hv:Nat:=0
 cv:Nat:=0
 v:SV:=.undef
 deriving Inhabited
abbrev St:=aO->RV
def St.set(s:St)(r:aO)(x:RV):St:=λa=>if a=r then x else s a
theorem lN(s:St)(r:aO)(x:RV):s.set r x r=x:=by simp[St.set]
theorem lO(s:St){r q:aO}(x:RV)(h:q≠r):s.set r x q=s q:=by simp[St.set,h]
def SV.cells:SV->M C|.one c=>[c]|.agg cs=>cs|.bw vs=>vs.flatMap (·.2)|.undef=>[]
def qW:M (ay×M C)->U->C->M (ay×M C)|[],_,_=>[]|(b,cs)::r,j,c=>if j<Y cs then(b,cs.set j c)::r else(b,cs)::qW r (j-Y cs) c
def SV.setCell(v:SV)(j:U)(c:C):SV:=
 match v with|.one _=>if j=0 then .one c else v|.agg cs=>.agg (cs.set j c)|.bw vs=>.bw (qW vs j c)|.undef=>.undef
def pW(a:U)(b:ay)(c:U)(d:ay):U:=4294967296+((a*2+b.toNat)*65536+(c*2+d.toNat))
def cf(e:U):ay:=gG 4294967296 e
def nS:U:=1099511627776
def fN(e:U):ay:=gG 1099511627776 e
def jU(e:U):U:=e+549755813888
def lP(l:M U):M D:=l.map λ(n:U)=>.int .i64 (n:L)
def hV(e:U):ay:=gG 549755813888 e&& !fN e
def CN(b:ay)(e:U):U:=match b with|true=>jU e|false=>e
def oE(e:U):U:=match hV e with|true=>e-549755813888|false=>e
def uA(e:U):U:=(e-4294967296)/131072
def xq(e:U):ay:=(e-4294967296)/65536%2==1
def HO(e:U):U:=(e-4294967296)%65536/2
def xt(e:U):ay:=(e-4294967296)%2==1
inductive aw(α:Type)where
 |ret(a:α)
 |ai
 |aG(r:aO)(k:RV->aw α)
 |put(r:aO)(x:RV)(k:aw α)
namespace aw
def bind{α β:Type}:aw α->(α->aw β)->aw β|.ret a,f=>f a|.ai,_=>.ai|.aG r k,f=>.aG r λx=>(k x).bind f|.put r x k,f=>.put r x (k.bind f)
instance:Monad aw where
 pure:=aw.ret
 bind:=aw.bind
def aE{α:Type}:aw α->St->Q (α×St)|.ret a,s=>J (a,s)|.ai,_=>O|.aG r k,s=>(k (s r)).aE s|.put r x k,s=>k.aE (s.set r x)
def dk{α:Type}:aw α->St->M aO×M aO|.ret _,_=>([],[])|.ai,_=>([],[])|.aG r k,s=>let f:=(k (s r)).dk s;(r::f.1,f.2)|.put r x k,s=>let f:=k.dk (s.set r x);(f.1,r::f.2)
end aw
def eo(r:aO)(x:RV):aw bY:=.put r x (.ret ())
def bU(p:Prop)[Decidable p]:aw bY:=if p then .ret ()else .ai
def opt{α:Type}:Q α->aw α|some a=>.ret a|none=>.ai
inductive TK where
 |bool|int(k:IntKind)|bj|aX(e:TypeId)|slice(e:TypeId)|array(n:Nat)(e:TypeId)|struct(fs:List (Nat×TypeId))
 |func|iface|map(k e:TypeId)|other
 deriving DecidableEq,Repr,Inhabited
def TK.agg:TK->ay|.struct _|.array _ _=>W|_=>I
structure TI where
 size:Nat
 bytes:Nat
 kind:TK
 zero:Option (List D)
 deriving Inhabited
def tk:oU->TK|.bool=>.bool|.int k=>.int k|.string=>.bj|.pointer e=>.aX e|.slice e=>.slice e|.array n e=>.array n e|.struct fs=>.struct ((V fs).map λf=>(acJ f,f.type))|.func .. =>.func|.interface _=>.iface|.map k e=>.map k e|_=>.other
def uB:aL->Q D|.int k n=>J (.int k n)|.bool b=>J (.bool b)|.string s=>J (.bj (V s.data))|.slice O 0 0=>J .nil|.pointer O=>J (.cV .aX)|.nilFunc=>J (.cV .func)|.nilIface=>J (.cV .iface)|.map O=>J (.cV .map)|.chan O=>J (.cV .chan)|_=>O
def lQ:M aL->Q (M D)|[]=>J []|v::r=>match uB v,lQ r with|some d,J ds=>J (d::ds)|_,_=>O
def HP:aL->ay|.agg _=>W|_=>I
def HQ(agg:ay)(v:aL):Q (M D):=if HP v=agg then lQ (V v.cells) else O
def kN(P:er)(t:bv):Q TI:=
 match P.info? t,aa9 P t with|some i,J d=>J {size:=i.size,bytes:=i.bytes,kind:=tk d,zero:=i.zero.bind (HQ (tk d).agg)}|_,_=>O
structure qX where
 v:SV
 aI:List (List C)
 cI:List (Nat×Nat):=[]
 deriving Inhabited
abbrev qY:=M SV->M (M C)->Q qX
inductive Sc where
 |int(k:IntKind)|bool|bj
 deriving DecidableEq,Inhabited
def cz:M Sc->M D->ay|[],[]=>W|.int k::sh,.int k' _::ds=>decide (k'=k)&&cz sh ds|.bool::sh,.bool _::ds=>cz sh ds|.bj::sh,.bj _::ds=>cz sh ds|_,_=>I
structure bO where
 N:Nat
 T:List (TypeId×TI)
 Γ:Nat->FuncId->Option qY
 var:List Nat
 res:List Nat
 eqs:List (TypeId×List Sc):=[]
 dat:List Nat:=[]
 nT:Bool:=false
 qZ:Bool:=false
 un:List Nat:=[]
 ss:List (Nat×List Int):=[]
def bO.keep(af:bO)(u:U):ay:=aa1 af.var u&& !aa1 af.dat u
def lk{α:Type}(t:U):M (U×α)->Q α|[]=>O|(u,a)::r=>if t=u then J a else lk t r
def bO.ti(c:bO)(t:bv):Q TI:=lk t c.T
def nU(r:aO)(x:RV)(j:U):C->C|.ak e xs=>.bm r j x.hv x.cv e 0 xs|c=>c
def iW(r:aO)(x:RV):U->M C->M C|_,[]=>[]|j,c::cs=>nU r x j c::iW r x (j+1) cs
def uC(r:aO)(x:RV):U->M (ay×M C)->M (ay×M C)|_,[]=>[]|j,(b,cs)::vs=>(b,iW r x j cs)::uC r x (j+Y cs) vs
def RV.gq(x:RV)(r:aO):SV:=
 match x.v with|.one c=>.one (nU r x 0 c)|.agg cs=>.agg (iW r x 0 cs)|.bw vs=>.bw (uC r x 0 vs)|.undef=>.undef
def ev:cD->aw SV
 |.tmp t=>.aG (.tmp t) λx=>match x.v with|.undef=>.ai|_=>.ret (x.gq (.tmp t))
 |.const v=>match v with
  |.agg cs=>match lQ (V cs) with|some ds=>.ret (.agg (ds.map .d))|none=>.ai
  |v=>match uB v with|some d=>.ret (.one (.d d))|none=>.ai
 |.func f=>.ret (.one (.dj f []))|.global _=>.ai
def ra:M cD->aw (M SV)|[]=>.ret []|o::os=>do let v <-ev o;let vs <-ra os;.ret (v::vs)
def Ae:SV->aw C|.one c=>.ret c|_=>.ai
def dZ(o:cD):aw C:=do Ae (<-ev o)
def oY:C->aw L|.d (.int _ n)=>.ret n|_=>.ai
def Af:C->aw ay|.d (.bool b)=>.ret b|_=>.ai
def RV.at(x:RV)(j:U):C:=H x.v.cells j .bN
def oZ(r:aO)(j:U)(x:RV):aw bY:=
 match x.at j with
 |.ak e ys=>eo r {x with v:=x.v.setCell j (.d (.sl e ys))}
 |.d (.sl _ _)=>.ret ()|_=>.ai
def pX(r:aO)(j:U)(x:RV):aw bY:=
 match x.at j with
 |.ak _ _=>eo r {x with v:=x.v.setCell j .bN}
 |_=>.ai
def aO.isArg:aO->ay|.bP _=>W|_=>I
def nV(self:Q (aO×U))(take:aO->ay):C->aw C
 |.bm r j hv cv e k xs=>
  if r.isArg then .ret (.bm r j hv cv e k xs)else
  .aG r λx=>do
   bU (x.hv=hv/\x.cv=cv)
   match x.at j with|.ak _ _=>if self=J (r,j)\/take r=W then do pX r j x;.ret (.ak e xs);else do oZ r j x;.ret (.d (.sl e xs))|.d (.sl _ _)=>.ret (.d (.sl e xs))|_=>.ai
 |.bN=>.ai|c=>.ret c
def o0(mk:U->aO×U)(take:aO->ay):U->M C->aw (M C)|_,[]=>.ret []|i,c::cs=>do let b <-nV (J (mk i)) take c;let a <-o0 mk take (i+1) cs;.ret (b::a)
def xu(mk:U->aO×U)(take:aO->ay):U->M (ay×M C)->aw (M (ay×M C))|_,[]=>.ret []|i,(b,cs)::vs=>do let a <-o0 mk take i cs;let c <-xu mk take (i+Y cs) vs;.ret ((b,a)::c)
def m9(r:aO)(take:aO->ay):SV->aw SV|.one c=>do .ret (.one (<-nV (J (r,0)) take c))|.agg cs=>do .ret (.agg (<-o0 (λi=>(r,i)) take 0 cs))|.bw vs=>do .ret (.bw (<-xu (λi=>(r,i)) take 0 vs))|.undef=>.ai
def mv:C->aw D
 |.d x=>.ret x|.bm r j hv cv e _ xs=>.aG r λx=>do
   bU (x.hv=hv/\x.cv=cv)
   oZ r j x
   .ret (.sl e xs)
 |_=>.ai
def o4:M C->aw (M D)|[]=>.ret []|c::cs=>do let x <-mv c;let xs <-o4 cs;.ret (x::xs)
def SV.fK:SV->Q (M C)|.one c=>J [c]|.agg cs=>J cs|_=>O
def alive(x:RV)(j:U):ay:=
 match x.at j with|.ak _ _|.d (.sl _ _)=>W|_=>I
def mx(size:U):C->aw (M (M D))|.d .nil=>.ret []|.d (.sl e xs)=>do bU (e=size/\cf e=I);.ret xs|.bm r j hv cv e _ xs=>.aG r λx=>do bU (x.hv=hv/\x.cv=cv/\alive x j=W/\e=size/\cf e=I);.ret xs|_=>.ai
def gJ(k:mW)(n:L):SV:=.one (.d (.int k n))
def jK(b:ay):SV:=.one (.d (.bool b))
def uD(op:jR)(k:mW)(a b:L):aw SV:=
 match op with|.add=>.ret (gJ k (aaX k (a+b)))|.sub=>.ret (gJ k (aaX k (a-b)))|.mul=>.ret (gJ k (aaX k (a*b)))|.quo=>do bU (b≠0);.ret (gJ k (aaX k (a.tdiv b)))|.rem=>do bU (b≠0);.ret (gJ k (a.tmod b))|.and=>.ret (gJ k (aaX k ((mX k.bits a &&& mX k.bits b).toNat)))|.or=>.ret (gJ k (aaX k ((mX k.bits a ||| mX k.bits b).toNat)))|.xor=>.ret (gJ k (aaX k ((mX k.bits a ^^^ mX k.bits b).toNat)))|.andNot=>.ret (gJ k (aaX k ((mX k.bits a &&& ~~~(mX k.bits b)).toNat)))|.eql=>.ret (jK (a==b))|.neq=>.ret (jK (a !=b))|.lss=>.ret (jK (a<b))|.leq=>.ret (jK (a<=b))|.gtr=>.ret (jK (a>b))|.geq=>.ret (jK (a>=b))|_=>.ai
def CO(op:jR)(a b:M ao):aw SV:=
 match op with|.add=>do bU (Y a+Y b<=2 ^ 60);.ret (.one (.d (.bj (a++b))))|.eql=>.ret (jK (decide (a=b)))|.neq=>.ret (jK (!decide (a=b)))|.lss=>.ret (jK (nK a b))|.leq=>.ret (jK (nK a b||decide (a=b)))|.gtr=>.ret (jK (!(nK a b||decide (a=b))))|.geq=>.ret (jK (!nK a b))|_=>.ai
def xv:C->Q ay|.d .nil=>J W|.d (.sl e _)=>if cf e=W then O else J I|.ak e _=>if cf e=W then O else J I|.bm _ _ _ _ e _ _=>if cf e=W then O else J I|_=>O
def HR(af:bO)(t:bv)(op:jR)(x:C):aw SV:=
 match af.ti t,op,xv x with|some {kind:=.slice _, ..},.eql,J b=>.ret (jK b)|some {kind:=.slice _, ..},.neq,J b=>.ret (jK (!b))|_,_,_=>.ai
def su(af:bO)(t:bv)(op:jR)(x y:C):aw SV:=
 match x,y with
 |.d (.int k a),.d (.int k' b)=>
  match op with|.shl=>do bU (0<=b);.ret (gJ k (aaX k (a*2 ^ (min (G b) k.bits))))|.shr=>do bU (0<=b);.ret (gJ k (a.fdiv (2 ^ (min (G b) k.bits))))|op=>if k=k' then uD op k a b else .ai
 |.d (.bj a),.d (.bj b)=>CO op a b|.d (.bool a),.d (.bool b)=>
  match af.ti t,op with|some {kind:=.bool, ..},.eql=>.ret (jK (a==b))|some {kind:=.bool, ..},.neq=>.ret (jK (!(a==b)))|_,_=>.ai
 |x,.d .nil=>HR af t op x|_,_=>.ai
def jL:D->D->ay|.int _ a,.int _ b=>a==b|.bool a,.bool b=>a==b|.bj a,.bj b=>decide (a=b)|_,_=>I
def dF:M D->M D->ay|[],[]=>W|x::xs,y::ys=>jL x y&&dF xs ys|_,_=>I
def jV:M C->Q (M D)
 |[]=>J []|.d x::cs=>match jV cs with|some ds=>J (x::ds)|none=>O
 |_::_=>O
def HS(af:bO)(t:bv)(op:jR)(xs ys:M C):aw SV:=
 match lk t af.eqs,op,jV xs,jV ys with|some sh,.eql,J ds,J es=>if cz sh ds&&cz sh es then .ret (jK (dF ds es))else .ai|some sh,.neq,J ds,J es=>if cz sh ds&&cz sh es then .ret (jK (!dF ds es))else .ai|_,_,_,_=>.ai
def my(i:TI)(cs:M C)(off:U):aw SV:=do
 bU (0<i.size/\off+i.size<=Y cs)
 if i.kind.agg then .ret (.agg ((cs.drop off).take i.size))
 else match cs[off]? with|some .bN=>.ai|some c=>.ret (.one c)|none=>.ai
def sw(i:TI):C->aw SV
 |.aX k off=>.aG (.box k) λx=>
  match x.v with|.agg cs=>my i (iW (.box k) x 0 cs) off|_=>.ai
 |.ea r j hv _ n off=>.aG r λx=>do
  bU (x.hv=hv)
  match x.at j with
  |.ak _ ys|.d (.sl _ ys)=>match ys[n]? with|some ds=>my i (ds.map .d) off|none=>.ai
  |_=>.ai
 |.da ds=>my i (ds.map .d) 0|_=>.ai
def eF{α:Type}(l:M α)(off:U)(m:M α):M α:=l.take off++m++l.drop (off+Y m)
def CP(take:aO->ay)(i:TI)(a:C)(v:SV):aw bY:=
 match a,v.fK with
 |.aX k off,J cs=>do
  bU (Y cs=i.size)
  let b <-o0 (λn=>(.box k,off+n)) take 0 cs
  .aG (.box k) λx=>
   match x.v with
   |.agg old=>do
    bU (off+i.size<=Y old)
    eo (.box k) {hv:=x.hv+1,cv:=x.cv,v:=.agg (eF old off b)}
   |_=>.ai
 |.ea r j hv _ n off,J cs=>do
  bU (Y cs=i.size)
  let ds <-o4 cs
  .aG r λx=>do
   bU (x.hv=hv/\r.isArg=I)
   match x.at j with
   |.ak e ys=>match ys[n]? with
    |some bG=>do
     bU (off+i.size<=Y bG)
     eo r {x with cv:=x.cv+1,v:=x.v.setCell j (.ak e (ys.set n (eF bG off ds)))}
    |none=>.ai
   |_=>.ai
 |_,_=>.ai
def CQ(af:bO)(t:bv)(c:C)(f:U):aw C:=
 match af.ti t with
 |some {kind:=.struct fs, ..}=>match fs[f]? with
  |some (o,a)=>match af.ti a with
   |some i=>do
    bU (i.size≠0)
    match c with|.aX k off=>.ret (.aX k (off+o))|.ea r j hv e n off=>.ret (.ea r j hv e n (off+o))|.da ds=>do bU (o<=Y ds);.ret (.da (ds.drop o))|_=>.ai
   |none=>.ai
  |none=>.ai
 |_=>.ai
def HU(af:bO)(t:bv)(g:U)(n:L):aw C:=
 match lk g af.ss,af.ti t with
 |some l,J {kind:=.array len a, ..}=>match af.ti a with|some i=>do bU (0<=n/\n<len);bU (len=Y l/\i.size=1);.ret (.da [.int .u64 (H l (G n) 0)])|none=>.ai
 |_,_=>.ai
def CR(af:bO)(t:bv)(c:C)(n:L):aw C:=
 match af.ti t with
 |some {kind:=.slice a, ..}=>match af.ti a with
  |some i=>match c with
   |.bm r j hv _ e k xs=>do bU (0<=n/\n<Y xs);bU (i.size=e/\cf e=I);.ret (.ea r j hv e (k+G n) 0)|.d (.sl e xs)=>do
    bU (0<=n/\n<Y xs);bU (i.size=e/\cf e=I)
    match xs[G n]? with|some ds=>.ret (.da ds)|none=>.ai
   |_=>.ai
  |none=>.ai
 |some {kind:=.array len a, ..}=>match af.ti a with
  |some i=>match c with|.aX k off=>do bU (0<=n/\n<len);.ret (.aX k (off+G n*i.size))|_=>.ai
  |none=>.ai
 |_=>.ai
def CS(af:bO)(t:bv)(v:SV)(n:L):aw SV:=
 match af.ti t,v with
 |some {kind:=.bj, ..},.one (.d (.bj s))=>do
  bU (0<=n)
  match s[G n]? with|some b=>.ret (gJ .u8 b.toNat)|none=>.ai
 |some {kind:=.array len a, ..},.agg cs=>match af.ti a with|some i=>do bU (0<=n/\n<len);my i cs (G n*i.size)|none=>.ai
 |_,_=>.ai
def rb(a:ay)(v:SV):aw SV:=
 match a,v with|true,.one (.d (.bj s))=>.ret (gJ .i64 (Y s))|false,.one (.d .nil)=>.ret (gJ .i64 0)|false,.one (.d (.sl e xs))=>do bU (cf e=I);.ret (gJ .i64 (Y xs))|false,.one (.bm _ _ _ _ e _ xs)=>do bU (cf e=I);.ret (gJ .i64 (Y xs))|_,_=>.ai
def fill(cells:M C):M (U×M C)->M C|[]=>cells|(off,cs)::r=>fill (eF cells off cs) r
def xw(fs:M (U×bv))(af:bO):M (U×cD)->aw (M (U×M C))
 |[]=>.ret []|(i,o)::r=>do
  let v <-ev o
  match fs[i]?,v.fK with
  |some (off,t),J cs=>match af.ti t with|some ti=>do bU (Y cs=ti.size);let rest <-xw fs af r;.ret ((off,cs)::rest)|none=>.ai
  |_,_=>.ai
def HW(af:bO)(t:bv)(parts:M (U×cD)):aw SV:=
 match af.ti t with
 |some {kind:=.struct fs,size,zero:=J z, ..}=>do
  bU (z.length=size/\∀p∈fs,(af.ti p.2).isSome=W)
  let ps <-xw fs af parts
  bU (∀p∈ps,p.1+p.2.length<=size)
  .ret (.agg (fill (z.map .d) ps))
 |some {kind:=.array n a,size,zero:=J z, ..}=>match af.ti a with
  |some i=>do
   bU (z.length=size)
   let ps <-xw ((List.range n).map λj=>(j*i.size,a)) af parts
   bU (∀p∈ps,p.1+p.2.length<=size)
   .ret (.agg (fill (z.map .d) ps))
  |none=>.ai
 |_=>.ai
def rowsOf(size:U):M (U×cD)->M (M D)->aw (M (M D))
 |[],rows=>.ret rows|(i,o)::r,rows=>do
  let v <-ev o
  match v.fK with
  |some cs=>do
   bU (Y cs=size/\i<Y rows)
   let ds <-o4 cs
   rowsOf size r (rows.set i ds)
  |none=>.ai
def HX(af:bO)(t:bv)(len:U)(parts:M (U×cD)):aw SV:=
 match af.ti t with
 |some {kind:=.slice a, ..}=>match af.ti a with
  |some i=>match i.zero with
   |some z=>do
    bU (Y z=i.size/\0<i.size/\len*i.size<=2 ^ 24/\cf i.size=I)
    let rows <-rowsOf i.size parts (ej len z)
    .ret (.one (.ak i.size rows))
   |none=>.ai
  |none=>.ai
 |_=>.ai
def HY(af:bO)(t:bv)(len cap:L):aw SV:=
 match af.ti t with
 |some {kind:=.slice a, ..}=>match af.ti a with
  |some i=>match i.zero with
   |some z=>do
    bU (Y z=i.size/\0<i.size/\i.bytes<=2 ^ 10/\cf i.size=I)
    bU (0<=len/\len<=cap/\cap<=2 ^ 36)
    .ret (.one (.ak i.size (ej (G len) z)))
   |none=>.ai
  |none=>.ai
 |_=>.ai
def xx(i:TI)(c:C)(ys:M (M D)):aw SV:=do
 bU (0<i.size/\0<i.bytes/\i.bytes<=2 ^ 10/\(i.zero.map (·.length))=J i.size/\cf i.size=I)
 match c with
 |.d .nil=>do
  bU (Y ys<=2 ^ 36)
  if ys=[]then .ret (.one (.d .nil))else .ret (.one (.ak i.size ys))
 |.bm r j hv cv e k xs=>.aG r λx=>do
  bU (x.hv=hv/\x.cv=cv/\e=i.size/\r.isArg=I)
  match x.at j with
  |.ak _ a=>do
   bU (k+Y xs=Y a)
   bU (Y xs+Y ys<=2 ^ 36)
   pX r j x
   .ret (.one (.ak e (xs++ys)))
  |_=>.ai
 |_=>.ai
def NQ(c:C):aw SV:=
 match c with|.d .nil=>.ret (.one (.d (.int .i64 0)))|_=>.ai
def Ag(i:TI)(c:C)(n:L):aw SV:=
 match c,i.zero with
 |.d .nil,J z=>do
  bU (Y z=i.size/\0<i.size/\0<i.bytes/\i.bytes<=2 ^ 10/\cf i.size=I)
  bU (0<=n/\n<=2 ^ 36)
  if G n=0 then .ret (.one (.d .nil))else .ret (.one (.ak i.size (ej (G n) z)))
 |_,_=>.ai
def xy(af:bO)(i:TI)(t:bv)(c:C):aw (M (M D)):=
 match af.ti t,c with|some {kind:=.bj, ..},.d (.bj s)=>do bU (i.size=1);.ret (s.map λb=>[.int .u8 b.toNat])|some {kind:=.slice _, ..},c=>mx i.size c|_,_=>.ai
def HZ(v:SV)(lo hi:Q L):aw SV:=
 match v with
 |.one (.d (.bj s))=>do
  let h:=X hi (Y s)
  let l:=X lo 0
  bU (0<=l/\l<=h/\h<=Y s)
  .ret (.one (.d (.bj ((s.take (G h)).drop (G l)))))
 |_=>.ai
def rc(size:U)(v:SV)(lo hi:Q L):aw SV:=
 match v with
 |.one (.d .nil)=>do
  bU (X lo 0=0/\X hi 0=0)
  .ret (.one (.d .nil))
 |.one (.d (.sl e xs))=>do
  let h:=X hi (Y xs)
  let l:=X lo 0
  bU (0<=l/\l<=h/\h<=Y xs)
  bU (e=size/\cf e=I)
  .ret (.one (.d (.sl e ((xs.take (G h)).drop (G l)))))
 |.one (.bm r j hv cv e k xs)=>do
  let h:=X hi (Y xs)
  let l:=X lo 0
  bU (0<=l/\l<=h/\h<=Y xs)
  bU (e=size/\cf e=I)
  .ret (.one (.bm r j hv cv e (k+G l) ((xs.take (G h)).drop (G l))))
 |_=>.ai
def uE(af:bO)(src dst:bv)(v:SV):aw SV:=
 match af.ti src,af.ti dst,v with
 |some _,J {kind:=.int k, ..},.one (.d (.int _ n))=>.ret (gJ k (aaX k n))|some _,J {kind:=.bj, ..},.one (.d (.bj s))=>.ret (.one (.d (.bj s)))|some _,J {kind:=.slice a, ..},.one (.d (.bj s))=>match af.ti a with|some {kind:=.int .u8,size:=1, ..}=>.ret (.one (.ak 1 (s.map λb=>[.int .u8 b.toNat])))|_=>.ai
 |some {kind:=.slice a, ..},J {kind:=.bj, ..},.one c=>match af.ti a with
  |some {kind:=.int .u8,size:=1, ..}=>do
   let xs <-mx 1 c
   match xs.mapM (λx=>match x with|[.int .u8 n]=>J (kr (G n))|_=>O)with|some l=>.ret (.one (.d (.bj l)))|none=>.ai
  |_=>.ai
 |_,_,_=>.ai
def dn(ki ei:TI):U:=pW ki.size ki.kind.agg ei.size ei.kind.agg
def jt(af:bO)(t:bv):Q (bv×TI×TI):=
 match af.ti t with
 |some {kind:=.map kt a, ..}=>match af.ti kt,af.ti a with|some ki,J ei=>if ki.size<32768/\ei.size<32768 then J (kt,ki,ei)else O|_,_=>O
 |_=>O
def rf(af:bO)(kt:bv):Q (M Sc):=
 match af.ti kt with|some {kind:=.int k, ..}=>J [.int k]|some {kind:=.bj, ..}=>J [.bj]|some {kind:=.bool, ..}=>J [.bool]|some {kind:=.struct _, ..}=>lk kt af.eqs|_=>O
def ew(n:U)(ks:M D):M (M D)->Q U|[]=>O|x::xs=>if dF ks (x.take n)=W then J 0 else(ew n ks xs).map (·+1)
def na(e:U):C->aw (M (M D))
 |.d (.cV .map)=>.ret []|.d (.sl a xs)=>do bU (a=e\/a=jU e);.ret xs|.bm r j hv _ a _ _=>.aG r λx=>do
  bU (x.hv=hv/\(a=e\/a=jU e))
  match x.at j with|.ak _ ys=>.ret ys|.d (.sl _ ys)=>.ret ys|_=>.ai
 |_=>.ai
def lc(sh:M Sc)(n:U)(xs:M (M D)):ay:=xs.all λx=>cz sh (x.take n)
def SV.isAgg:SV->ay|.agg _=>W|_=>I
def SV.key(v:SV):Q (M D):=match v.fK with|some cs=>jV cs|none=>O
def pY(agg:ay)(ds:M D):aw SV:=
 match agg with
 |true=>.ret (.agg (ds.map .d))|false=>match ds with|[d]=>.ret (.one (.d d))|_=>.ai
def iK(n:U)(xs:M (M D))(z:M D):Q U->M D|some i=>(H xs i []).drop n|none=>z
def jf(af:bO)(t:bv)(c:C)(a:SV)(ok:ay):aw SV:=
 match jt af t with
 |some (kt,ki,ei)=>match rf af kt,a.key,ei.zero with
  |some sh,J kd,J z=>do
   bU (cz sh kd=W/\Y kd=ki.size/\a.isAgg=ki.kind.agg/\Y z=ei.size/\(ei.kind.agg=W\/ei.size=1))
   let xs <-na (dn ki ei) c
   bU (lc sh ki.size xs=W)
   match ok with|true=>.ret (.bw [(ei.kind.agg,(iK ki.size xs z (ew ki.size kd xs)).map .d),(I,[.d (.bool (ew ki.size kd xs).isSome)])])|false=>pY ei.kind.agg (iK ki.size xs z (ew ki.size kd xs))
  |_,_,_=>.ai
 |none=>.ai
def CT(n:U)(kd vd:M D)(xs:M (M D)):M (M D):=
 match ew n kd xs with|some i=>xs.set i (kd++vd)|none=>xs++[kd++vd]
def NR:M ao->M ao->ay|[],_::_=>W|a::l,b::m=>Nat.blt a.toNat b.toNat||(Nat.beq a.toNat b.toNat&&NR l m)|_,[]=>I
def Ah:D->D->ay|.int _ a,.int _ b=>decide (a<b)|.bool a,.bool b=> !a&&b|.bj a,.bj b=>NR a b|_,_=>I
def o6:M D->M D->ay|a::l,b::m=>Ah a b||(jL a b&&o6 l m)|_,_=>I
def Ai(n:U)(kd bG:M D):M (M D)->M (M D)|[]=>[bG]|x::xs=>if o6 kd (x.take n)=W then bG::x::xs else x::Ai n kd bG xs
def H0(n:U)(kd vd:M D)(xs:M (M D)):M (M D):=
 match ew n kd xs with|some i=>xs.set i (kd++vd)|none=>Ai n kd (kd++vd) xs
def putRow(un:ay)(n:U)(kd vd:M D)(xs:M (M D)):M (M D):=
 match un with|true=>H0 n kd vd xs|false=>CT n kd vd xs
def xA(af:bO)(t:bv)(c:C)(a b:SV):aw bY:=
 match jt af t with
 |some (kt,ki,ei)=>match rf af kt,a.key,b.fK with
  |some sh,J kd,J d=>do
   bU (cz sh kd=W/\Y kd=ki.size/\a.isAgg=ki.kind.agg/\Y d=ei.size/\b.isAgg=ei.kind.agg)
   let vd <-o4 d
   match c with
   |.bm r j hv _ e _ _=>.aG r λx=>do
    bU (x.hv=hv/\r.isArg=I/\(e=dn ki ei\/e=jU (dn ki ei)))
    match x.at j with
    |.ak f xs=>do
     bU (lc sh ki.size xs=W)
     eo r {x with cv:=x.cv+1,v:=x.v.setCell j (.ak f (putRow (hV f) ki.size kd vd xs))}
    |_=>.ai
   |_=>.ai
  |_,_,_=>.ai
 |none=>.ai
def xB(af:bO)(t:bv)(c:C)(a:SV):aw SV:=
 match jt af t with
 |some (kt,ki,ei)=>match rf af kt,a.key,ei.zero with
  |some sh,J kd,J z=>do
   bU (cz sh kd=W/\Y kd=ki.size/\a.isAgg=ki.kind.agg/\Y z=ei.size/\(ei.kind.agg=W\/ei.size=1))
   match c with
   |.bm r j hv _ e _ _=>.aG r λx=>do
    bU (x.hv=hv/\r.isArg=I/\e=dn ki ei)
    match x.at j with
    |.ak b xs=>do
     bU (lc sh ki.size xs=W)
     eo r {x with cv:=x.cv+1,v:=x.v.setCell j (.ak b (if(ew ki.size kd xs).isSome=W then xs else xs++[kd++z]))}
     .ret (.bw [(ei.kind.agg,(iK ki.size xs z (ew ki.size kd xs)).map .d),(I,[.d (.int .i64 (X (ew ki.size kd xs) (Y xs):U))])])
    |_=>.ai
   |_=>.ai
  |_,_,_=>.ai
 |none=>.ai
def CU(af:bO)(t:bv)(c st:C)(a:SV):aw bY:=
 match jt af t,st,a.fK with
 |some (_,ki,ei),.d (.int _ n),J b=>do
  bU (Y b=ei.size/\a.isAgg=ei.kind.agg)
  let vd <-o4 b
  match c with
  |.bm r j hv _ e _ _=>.aG r λx=>do
   bU (x.hv=hv/\r.isArg=I/\e=dn ki ei)
   match x.at j with
   |.ak f xs=>do
    bU (0<=n/\n<Y xs)
    eo r {x with cv:=x.cv+1,v:=x.v.setCell j (.ak f (xs.set (G n) ((H xs (G n) []).take ki.size++vd)))}
   |_=>.ai
  |_=>.ai
 |_,_,_=>.ai
def CV(af:bO)(t:bv)(dst:U):aw SV:=
 match jt af t with|some (_,ki,ei)=>.ret (.one (.ak (CN (aa1 af.un dst) (dn ki ei)) []))|none=>.ai
def Aj(af:bO)(t:bv)(c:C):aw SV:=
 match jt af t with
 |some (_,ki,ei)=>do
  let xs <-na (dn ki ei) c
  .ret (gJ .i64 (Y xs))
 |none=>.ai
def H1(af:bO)(t:bv)(c:C):aw SV:=
 match jt af t with
 |some (_,ki,ei)=>do
  let d <-mv c
  match d with|.sl e xs=>do bU (e=dn ki ei);.ret (.one (.ak nS [[.sl e xs],[]]))|_=>.ai
 |none=>.ai
def pZ(em:U)(bG:M D):M (ay×M C):=[(xq em,(bG.take (uA em)).map .d),(xt em,(bG.drop (uA em)).map .d)]
def VC(c:C):aw SV:=
 match c with
 |.bm r j hv _ e _ _=>.aG r λx=>do
  bU (x.hv=hv/\r.isArg=I/\fN e=W)
  match x.at j with
  |.ak a [[.sl em []],[]]=>do bU (a=e);.ret (.bw [(I,[.d (.bool I)])])|.ak a [[.sl em [bG]],[]]=>do
   eo r {x with cv:=x.cv+1,v:=x.v.setCell j (.ak a [[.sl em [bG]],[.int .i64 0]])}
   .ret (.bw ((I,[.d (.bool W)])::pZ em bG))
  |.ak a [[.sl em [bG]],[.int .i64 0]]=>do bU (a=e);.ret (.bw [(I,[.d (.bool I)])])|_=>.ai
 |_=>.ai
def H3(c:C):aw SV:=
 match c with
 |.bm r j hv _ e _ _=>.aG r λx=>do
  bU (x.hv=hv/\r.isArg=I/\fN e=W)
  match x.at j with|.ak _ [[.sl em rows],.int .i64 n::_]=>do bU (0<=n/\G n<Y rows);.ret (.bw (pZ em (H rows (G n) [])))|_=>.ai
 |_=>.ai
def keysOf:M C->M aD|[]=>[]|.aX k _::cs=>k::keysOf cs|.dj _ caps::cs=>caps.map (·.1)++keysOf cs|_::cs=>keysOf cs
def nb:M aD->M aD|[]=>[]|k::r=>k::(nb r).filter (·≠k)
def idx(k:aD):M aD->U|[]=>0|k'::r=>if k=k' then 0 else idx k r+1
def o7(af:bO):C->aw C|.bm (.tmp u) j hv cv e k xs=>if af.keep u then .ret (.bm (.tmp u) j hv cv e k xs)else do let x <-mv (.bm (.tmp u) j hv cv e k xs);.ret (.d x)|.bm (.box q) j hv cv e k xs=>if af.qZ then(do let x <-mv (.bm (.box q) j hv cv e k xs);.ret (.d x))else .ret (.bm (.box q) j hv cv e k xs)|c=>.ret c
def xC(af:bO):M C->aw (M C)|[]=>.ret []|c::cs=>do let a <-o7 af c;let r <-xC af cs;.ret (a::r)
def p5(af:bO):SV->aw SV|.one c=>do .ret (.one (<-o7 af c))|.agg cs=>do .ret (.agg (<-xC af cs))|_=>.ai
def Ak(af:bO):M SV->aw (M SV)|[]=>.ret []|v::vs=>do let a <-p5 af v;let r <-Ak af vs;.ret (a::r)
def canon(ks:M aD):C->aw C
 |.d x=>.ret (.d x)|.bm r j hv cv e _ xs=>.aG r λx=>do
  bU (x.hv=hv/\x.cv=cv)
  match x.at j with
  |.ak _ _=>do
   bU (∀k∈ks,r≠.box k)
   .ret (.ak e xs)
  |.d (.sl _ _)=>.ret (.d (.sl e xs))|_=>.ai
 |.aX k off=>.ret (.aX (.aC (idx k ks)) off)|.dj f caps=>.ret (.dj f (caps.map λp=>(.aC (idx p.1 ks),p.2)))|_=>.ai
def sx(ks:M aD):M C->aw (M C)|[]=>.ret []|c::cs=>do let a <-canon ks c;let r <-sx ks cs;.ret (a::r)
def nW(ks:M aD):SV->aw SV|.one c=>do .ret (.one (<-canon ks c))|.agg cs=>do .ret (.agg (<-sx ks cs))|_=>.ai
def uF(ks:M aD):M SV->aw (M SV)|[]=>.ret []|v::vs=>do let a <-nW ks v;let r <-uF ks vs;.ret (a::r)
def plain:C->ay|.d _|.ak _ _=>W|_=>I
def tok(ks:M aD):C->ay|.d _|.ak _ _|.bN=>W|.aX k _=>aa1 ks k|_=>I
def tc(ks:M aD):C->C|.aX k off=>.aX (.aC (idx k ks)) off|c=>c
def ju(n:U):C->ay|.d _|.ak _ _|.bN=>W|.aX (.aC i) _=>decide (i<n)|_=>I
def bc(ks:M aD):C->C|.aX (.aC i) off=>.aX (H ks i default) off|c=>c
def xD(a:M aD):M aD->aw (M (M C))
 |[]=>.ret []|k::ks=>.aG (.box k) λx=>match x.v with|.agg cs=>do bU (cs.all (tok a)=W);let r <-xD a ks;.ret (cs.map (tc a)::r)|_=>.ai
def Al:M aD->aw (M aD)
 |[]=>.ret []|k::ks=>.aG (.box k) λx=>match x.v with|.agg cs=>do let r <-Al ks;.ret (keysOf cs++r)|_=>.ai
def uG:SV->M C->ay|.agg [.aX k off],[.aX k' a]=>decide (k=k')&&Nat.beq off a|_,_=>I
def rh(a:M aD):M aD->M (M C)->aw bY
 |[],[]=>.ret ()|k::ks,b::c=>.aG (.box k) λx=>do
  bU (b.all (ju (Y a))=W)
  match uG x.v (b.map (bc a))with|true=>rh a ks c|false=>do eo (.box k) {hv:=x.hv+1,cv:=x.cv,v:=.agg (b.map (bc a))};rh a ks c
 |_,_=>.ai
def escape(t:U):U->M (M C)->aw bY
 |_,[]=>.ret ()|i,b::a=>.aG (.box (.cn t i)) λx=>match x.v with|.undef=>do bU (b.all plain=W);eo (.box (.cn t i)) {hv:=x.hv+1,cv:=x.cv,v:=.agg b};escape t (i+1) a|_=>.ai
def Am(args:M SV)(l:M (U×U)):ay:=
 l.all λp=>match(H (H args p.1 .undef).cells) p.2 .bN with|.d _=>W|_=>I
def o8(v:SV)(j:U):SV:=
 match H v.cells j .bN with|.ak e ys=>v.setCell j (.d (.sl e ys))|_=>v
def ld:M (U×U)->M SV->M SV|[],args=>args|(i,j)::r,args=>ld r (args.set i (o8 (H args i .undef) j))
def NS(ks:M aD)(t:U):aD->aD|.aC i=>if i<Y ks then H ks i default else .cn t (i-Y ks)|k=>k
def back(ks:M aD)(t:U):C->aw C|.d x=>.ret (.d x)|.ak e xs=>.ret (.ak e xs)|.aX (.aC i) off=>.ret (.aX (NS ks t (.aC i)) off)|.dj f caps=>do bU (caps=[]);.ret (.dj f [])|_=>.ai
def ri(ks:M aD)(t:U):M C->aw (M C)|[]=>.ret []|c::cs=>do let a <-back ks t c;let r <-ri ks t cs;.ret (a::r)
def sy(ks:M aD)(t:U):M (ay×M C)->aw (M (ay×M C))|[]=>.ret []|(b,cs)::vs=>do let a <-ri ks t cs;let r <-sy ks t vs;.ret ((b,a)::r)
def lf(ks:M aD)(t:U):SV->aw SV|.one c=>do .ret (.one (<-back ks t c))|.agg cs=>do .ret (.agg (<-ri ks t cs))|.bw vs=>do .ret (.bw (<-sy ks t vs))|.undef=>.ai
def H4(af:bO)(f:dS)(b:M SV)(t:U):aw SV:=
 match af.Γ t f with
 |none=>.ai|some F=>do
  let args <-Ak af b
  let more <-Al (nb (keysOf (args.flatMap SV.cells)))
  let ks:=nb (keysOf (args.flatMap SV.cells)++more)
  let a <-uF ks args
  let c <-xD ks ks
  match F a c with
  |none=>.ai|some r=>do
   bU (Y ks<=Y r.aI/\Am a r.cI=W)
   rh ks ks (r.aI.take (Y ks))
   escape t 0 (r.aI.drop (Y ks))
   lf ks t r.v
def H6(o:cD):aw (dS×M SV):=
 match o with
 |.func f=>.ret (f,[])|o=>do
  match <-dZ o with|.dj f caps=>.ret (f,caps.map λp=>.one (.aX p.1 p.2))|_=>.ai
def sz(u:cD)(r:aO):ay:=
 match u,r with|.tmp u,.tmp t=>t==u|_,_=>I
def isVar(af:bO)(o:cD):ay:=
 match o with|.tmp u=>aa1 af.var u|_=>I
def VD(af:bO)(dst:U)(r:aO):ay:=
 match r with|.tmp u=> !aa1 af.var u||aa1 af.res dst|.box (.az _)=>aa1 af.res dst|_=>I
def CW(af:bO)(c:C)(r:aO):ay:=
 match r with
 |.tmp u=> !aa1 af.var u||(match c with|.aX (.az t) _=>aa1 af.res t|_=>I)
 |.box (.az _)=>(match c with|.aX (.az t) _=>aa1 af.res t|_=>I)
 |_=>I
def uH(self:aO×U)(u:cD):C->aw C|.bm r j hv cv e k xs=>if sz u r then nV (J self) (sz u) (.bm r j hv cv e k xs)else .ret (.bm r j hv cv e k xs)|c=>.ret c
def uI(r:aO)(u:cD):U->M C->aw (M C)|_,[]=>.ret []|i,c::cs=>do let b <-uH (r,i) u c;let a <-uI r u (i+1) cs;.ret (b::a)
def xE(r:aO)(u:cD):U->M (ay×M C)->aw (M (ay×M C))|_,[]=>.ret []|i,(b,cs)::vs=>do let a <-uI r u i cs;let c <-xE r u (i+Y cs) vs;.ret ((b,a)::c)
def lR(r:aO)(u:cD):SV->aw SV|.one c=>do .ret (.one (<-uH (r,0) u c))|.agg cs=>do .ret (.agg (<-uI r u 0 cs))|.bw vs=>do .ret (.bw (<-xE r u 0 vs))|.undef=>.ai
def uJ:Q cD->aw (Q L)|none=>.ret O|some o=>do .ret (J (<-oY (<-dZ o)))
def CX(c:ay):M SV->aw SV|[.one (.d (.int k a)),.one (.d (.int _ b))]=>.ret (gJ k (if c then(if b<a then b else a)else(if b>a then b else a)))|_=>.ai
def cq(af:bO)(op:Op)(dst:U):aw SV:=
 match op with
 |.move x=>do
  let v <-ev x
  if isVar af x then .ret v else lR (.tmp dst) x v
 |.assign x=>do
  let v <-ev x
  m9 (.tmp dst) (VD af dst) v
 |.pick c a b=>do
  let b' <-Af (<-dZ c)
  if b'=W then ev a else ev b
 |.alloc t=>match af.ti t with
  |some {size,zero:=J z, ..}=>do
   bU (Y z=size)
   .aG (.box (.az dst)) λx=>match x.v with|.undef=>do eo (.box (.az dst)) {hv:=x.hv+1,cv:=x.cv,v:=.agg (z.map .d)};.ret (.one (.aX (.az dst) 0))|_=>.ai
  |_=>.ai
 |.box _ x=>do
  let v <-ev x
  match v.fK with
  |some cs=>do
   let cs' <-o0 (λn=>(.box (.az dst),n)) (CW af (.aX (.az dst) 0)) 0 cs
   .aG (.box (.az dst)) λx=>match x.v with|.undef=>do eo (.box (.az dst)) {hv:=x.hv+1,cv:=x.cv,v:=.agg cs'};.ret (.one (.aX (.az dst) 0))|_=>.ai
  |none=>.ai
 |.build t ps=>HW af t (V ps)|.buildSlice t len ps=>HX af t len (V ps)|.load t a=>match af.ti t with|some i=>do sw i (<-dZ a)|none=>.ai
 |.nilCheck x=>do
  match <-dZ x with|.aX k o=>.ret (.one (.aX k o))|.ea r j hv e i o=>.ret (.one (.ea r j hv e i o))|.da ds=>.ret (.one (.da ds))|_=>.ai
 |.binOp op t x y _=>do
  match <-ev x,<-ev y with|.one a,.one b=>su af t op a b|.agg xs,.agg ys=>HS af t op xs ys|_,_=>.ai
 |.unOp op _ x=>do
  match op,<-dZ x with|.neg,.d (.int k n)=>.ret (gJ k (aaX k (0-n)))|.xor,.d (.int k n)=>uD .xor k (if k.signed then-1 else k.max) n|.not,.d (.bool b)=>.ret (jK (!b))|_,_=>.ai
 |.convert s t x=>do uE af s t (<-ev x)|.makeFunc (.func f) first captured=>do
  bU (first=#[])
  let vs <-ra (V captured)
  match vs.mapM (λv=>match v with|.one (.aX k o)=>J (k,o)|_=>O)with|some l=>.ret (.one (.dj f l))|none=>.ai
 |.makeSlice t l c=>do
  let n <-oY (<-dZ l)
  let m <-oY (<-dZ c)
  HY af t n m
 |.slice t x lo hi O=>match af.ti t with
  |some {kind:=.bj, ..}=>do
   let v <-ev x
   let l <-uJ lo
   let h <-uJ hi
   HZ v l h
  |some {kind:=.slice et, ..}=>match af.ti et with
   |some i=>do
    let v <-ev x
    let l <-uJ lo
    let h <-uJ hi
    rc i.size v l h
   |none=>.ai
  |_=>.ai
 |.fieldAddr t x f=>do .ret (.one (<-CQ af t (<-dZ x) f))|.field t x f=>do
  match af.ti t,<-ev x with
  |some {kind:=.struct fs, ..},.agg cs=>match fs[f]? with
   |some (o,ft')=>match af.ti ft' with|some i=>my i cs o|none=>.ai
   |none=>.ai
  |_,_=>.ai
 |.indexAddr t x ix=>match x with
  |.global g=>do
   let n <-oY (<-dZ ix)
   .ret (.one (<-HU af t g n))
  |x=>do
   let c <-dZ x
   let n <-oY (<-dZ ix)
   .ret (.one (<-CR af t c n))
 |.index t x ix=>do
  let v <-ev x
  let n <-oY (<-dZ ix)
  CS af t v n
 |.extract x n=>do
  match <-ev x with
  |.bw vs=>match vs[n]? with|some (W,cs)=>lR (.tmp dst) x (.agg cs)|some (I,[c])=>lR (.tmp dst) x (.one c)|_=>.ai
  |_=>.ai
 |.call {callee:=.builtin .len,args,argTypes}=>match V args,V argTypes with
  |[x],[t]=>match af.ti t with|some {kind:=.bj, ..}=>do rb W (<-ev x)|some {kind:=.slice _, ..}=>do rb I (<-ev x)|some {kind:=.map _ _, ..}=>do Aj af t (<-dZ x)|_=>.ai
  |_,_=>.ai
 |.makeMap t O=>CV af t dst|.lookup t x ix ok=>do
  let c <-dZ x
  let v <-ev ix
  jf af t c v ok
 |.range t x=>do H1 af t (<-dZ x)|.next x I=>do VC (<-dZ x)|.entry x=>do H3 (<-dZ x)|.mapEntry t m k=>do
  let c <-dZ m
  let v <-ev k
  xB af t c v
 |.call {callee:=.builtin .append,args,argTypes}=>match V args,V argTypes with
  |[x,y],[t,t2]=>match af.ti t with
   |some {kind:=.slice et, ..}=>match af.ti et with
    |some i=>match af.ti t2 with
     |some {kind:=.int .i64, ..}=>do
      let c <-dZ x
      let n <-oY (<-dZ y)
      Ag i c n
     |_=>do
      let c <-dZ x
      let c2 <-dZ y
      let ys <-xy af i t2 c2
      xx i c ys
    |none=>.ai
   |_=>.ai
  |_,_=>.ai
 |.call {callee:=.builtin .cap,args,argTypes}=>match V args,V argTypes with
  |[x],[t]=>match af.ti t with|some {kind:=.slice _, ..}=>do NQ (<-dZ x)|_=>.ai
  |_,_=>.ai
 |.call {callee:=.builtin .min,args, ..}=>do CX W (<-ra (V args))|.call {callee:=.builtin .max,args, ..}=>do CX I (<-ra (V args))|.call {callee:=.value o,args, ..}=>do
  let (f,caps) <-H6 o
  let vs <-ra (V args)
  H4 af f (vs++caps) dst
 |_=>.ai
def jW(af:bO)(t:U)(v:SV):aw bY:=
 .aG (.tmp t) λx=>do
  bU (t<af.N)
  eo (.tmp t) {hv:=x.hv+1,cv:=x.cv,v}
def NT(a:bZ cR)(j:U):aw (Q ay):=
 match(a[j]?).bind (·.dst)with
 |some t=>.aG (.tmp t) λx=>match x.v with|.one (.d (.bool b))=>.ret (J b)|.bw []=>.ret O|_=>.ai
 |none=>.ai
def mA(af:bO)(o:cR):aw bY:=
 match o.op,o.dst with
 |.store t a x,O=>match af.ti t with
  |some i=>do
   let c <-dZ a
   let v <-ev x
   CP (CW af c) i c v
  |none=>.ai
 |.mapUpdate t m k x,O|.insert t m k x,O=>do
  let c <-dZ m
  let b <-ev k
  let vx <-ev x
  xA af t c b vx
 |.entryStore t m st x,O=>do
  let c <-dZ m
  let s <-dZ st
  let vx <-ev x
  CU af t c s vx
 |op,J d=>do jW af d (<-cq af op d)|_,O=>.ai
def nc(af:bO)(c:bZ cR)(o:cR):aw bY:=
 match o.guard with
 |none=>mA af o|some (j,a)=>do
  let b <-NT c j
  if b=J a then mA af o
  else match o.dst with|some d=>jW af d (.bw [])|none=>.ret ()
def rj(af:bO)(a:bZ cR):M cR->St->Q St
 |[],s=>J s|o::r,s=>match(nc af a o).aE s with|some (_,s')=>rj af a r s'|none=>O
structure PS where
 cm:List (Nat×SV)
 aI:List (aD×List C)
 args:List SV
def nX{α:Type}(k:aD):M (aD×α)->Q α|[]=>O|(u,a)::r=>if k=u then J a else nX k r
def PS.st(p:PS):St
 |.tmp t=>{v:=X (lk t p.cm) .undef}|.box k=>{v:=match nX k p.aI with|some cs=>.agg cs|none=>.undef}
 |.bP i=>{v:=H p.args i .undef}
def jX(s:St)(bk:M aD):C->C|.bm r j hv cv e k xs=>if(s r).hv=hv/\(s r).cv=cv then .bm r j 0 0 e k xs else .bN|.ea _ _ _ _ _ _=>.bN|.aX k off=>if aa1 bk k then .aX k off else .bN|.dj f caps=>if caps.all (λp=>aa1 bk p.1)then .dj f caps else .bN|c=>c
def jv(s:St)(bk:M aD):M C->M C|[]=>[]|c::cs=>jX s bk c::jv s bk cs
def uK(s:St)(bk:M aD):M (ay×M C)->M (ay×M C)|[]=>[]|(b,cs)::r=>(b,jv s bk cs)::uK s bk r
def iX(s:St)(bk:M aD):SV->SV|.one c=>.one (jX s bk c)|.agg cs=>.agg (jv s bk cs)|.bw vs=>.bw (uK s bk vs)|.undef=>.undef
def CY(t:U)(v:SV)(r:M (U×SV)):M (U×SV):=
 match v with|.undef=>r|v=>(t,v)::r
def xF(k:aD)(v:SV)(r:M (aD×M C)):M (aD×M C):=
 match v with|.agg cs=>(k,cs)::r|_=>r
def An(s:St)(bk:M aD):M U->M (U×SV)|[]=>[]|t::ts=>CY t (iX s bk (s (.tmp t)).v) (An s bk ts)
def Ao(s:St)(bk:M aD):M aD->M (aD×M C)|[]=>[]|k::ks=>xF k (iX s bk (s (.box k)).v) (Ao s bk ks)
def uL(s:St)(bk:M aD):U->U->M SV|_,0=>[]|i,n+1=>iX s bk (s (.bP i)).v::uL s bk (i+1) n
def fin(s:St)(keys:M U)(hX:M aD)(a:U):PS:={cm:=An s hX keys,aI:=Ao s hX hX,args:=uL s hX 0 a}
def aR{α β:Type}(R:α->β->Prop):M α->M β->Prop|[],[]=>dL|a::as,b::c=>R a b/\aR R as c|_,_=>jc
def NU:NK->Value->Prop|.aX,v=>v=.pointer O|.func,v=>v=.nilFunc|.iface,v=>v=.nilIface|.map,v=>v=.map O|.chan,v=>v=.chan O
def gU:Value->ay|.agg _|.tuple _=>I|_=>W
def eG:Value->Option Nat|.slice (J a) _ _=>J a.block|.map (J b)=>J b|.pointer (J a)=>J a.block|_=>O
def gK(e b:Nat):Value:=
 match fN e with|true=>.pointer (J ⟨b,0,O⟩)|false=>.map (J b)
theorem lS(e b:Nat):eG (gK e b)=J b:=by unfold gK;split<;>rfl
theorem NV(e b:Nat):gU (gK e b)=W:=by unfold gK;split<;>rfl
theorem o9{e:Nat}(h:fN e=I)(b:Nat):gK e b=.map (J b):=by simp only[gK,h]
def NW{e:Nat}(h:fN e=W)(b:Nat):gK e b=.pointer (J ⟨b,0,O⟩):=by simp only[gK,h]
theorem CZ{e b c:Nat}(h:gK e b=gK e c):b=c:=by grind [lS]
theorem VE{e b:Nat}{a:Option eu}{l c:Nat}(h:Value.slice a l c=gK e b):jc:=by grind [gK]
def ag0(x:M D)(rest:M (M D))(since:Nat)(seen:bZ Nat)(a:Nat):Prop:=∃e ys,x=[.sl e ys]/\cf e=W/\fN e=I/\hV e=I/\since=Y ys/\a=Y ys/\rest=[lP (V seen).reverse]
def iy(agg:ay)(n:Nat)(v:Value):Prop:=
 match agg with|true=>∃cs:bZ Value,v=.agg cs/\cs.size=n|false=>gU v=W/\n=1
def pa(en:dT):M Value:=V en.key.cells++V en.val.cells
def qa(e:Nat)(en:dT):Prop:=iy (xq e) (uA e) en.key/\iy (xt e) (HO e) en.val
structure jY(e cu:Nat)(es:List MapEntry):Prop where
 ok:∀en∈es,qa e en
 born:∀(i:Nat)en,es[i]?=some en->en.born=i
 cu:cu=Y es
 nd:es.Pairwise λa b=>a.key≠b.key
def eU(ps:M (ao×M ao))(c:ao):Option (M ao):=match ps.find? λp=>p.1==c with|some p=>J p.2|none=>O
def C0(w:World)(Z:Nat->Prop)(l:M ao)(v:Value):Prop:=∃(b o cap:Nat),v=.slice (J ⟨b,o,O⟩) (Y l) cap/\Z b/\∀(i:Nat)x,l[i]?=J x->T w ⟨b,o+i,O⟩=J (.int .u8 x.toNat)
def rk(w:World)(Z:Nat->Prop)(ps:M (ao×M ao))(b:Nat):Prop:=
 (∀c:ao,∃v,T w ⟨b,c.toNat,O⟩=J v/\match eU ps c with|none=>v=.slice O 0 0|some l=>C0 w Z l v)/\
 ∃(q o cap:Nat),T w ⟨b,256,O⟩=J (.slice (J ⟨q,o,O⟩) (Y ps) cap)/\Z q/\
  ∀(i:Nat)(c:ao),(ps.reverse.map (·.1))[i]?=J c->T w ⟨q,o+i,O⟩=J (.string ⟨#[c]⟩)
def mB(w:World)(Z:Nat->Prop)(u:bv)(ps:M (ao×M ao))(v:Value):Prop:=
 match ps with|[]=>v=.nilIface|_=>∃b,v=.iface u (.pointer (J ⟨b,0,O⟩))/\Z b/\rk w Z ps b
mutual
def bA(w:World)(Z:Nat->Prop):D->Value->Prop
 |.int k n,v=>v=.int k n|.bool b,v=>v=.bool b|.bj s,v=>v=.string ⟨ve s⟩|.nil,v=>v=.slice O 0 0|.sl e xs,v=>match cf e with
  |false=>∃(c:eu)(cap:Nat),v=.slice (J c) (Y xs) cap/\(cap=0\/c.spot=O/\Z c.block)/\Y xs<=cap/\dt w Z e xs c.block c.off|true=>∃b,v=gK e b/\Z b/\match fN e with|false=>∃(es:bZ dT)(cu:Nat)(a:M dT),w.heap[b]?=J (.map es cu)/\jY (oE e) cu (V es)/\fO w Z xs a/\a.Perm (V es)/\(hV e=I->a=V es)|true=>uM w Z xs b
 |.cV k,v=>NU k v|.rep u ps,v=>mB w Z u ps v
def fC(w:World)(Z:Nat->Prop):M D->Nat->Nat->Prop|[],_,_=>dL|d::ds,b,o=>(∃v,T w ⟨b,o,O⟩=J v/\bA w Z d v)/\fC w Z ds b (o+1)
def dt(w:World)(Z:Nat->Prop)(e:Nat):M (M D)->Nat->Nat->Prop|[],_,_=>dL|x::xs,b,o=>Y x=e/\fC w Z x b o/\dt w Z e xs b (o+e)
def jZ(w:World)(Z:Nat->Prop):M D->M Value->Prop|[],[]=>dL|d::ds,v::vs=>bA w Z d v/\jZ w Z ds vs|_,_=>jc
def uM(w:World)(Z:Nat->Prop):M (M D)->Nat->Prop|x::rest,b=>∃(m since:Nat)(seen:bZ Nat)(a:Nat),w.heap[b]?=J (.mapIter (J m) since seen a)/\jZ w Z x [.map (J m)]/\ag0 x rest since seen a|[],_=>jc
def fO(w:World)(Z:Nat->Prop):M (M D)->M dT->Prop|[],[]=>dL|x::xs,en::es=>jZ w Z x (pa en)/\fO w Z xs es|_,_=>jc
end
def eg(w:World)(Z:Nat->Prop)(e:Nat)(xs:M (M D))(b:Nat):Prop:=
 match fN e with|true=>uM w Z xs b|false=>∃(es:bZ dT)(cu:Nat)(a:M dT),w.heap[b]?=J (.map es cu)/\jY (oE e) cu (V es)/\fO w Z xs a/\a.Perm (V es)/\(hV e=I->a=V es)
theorem eg.mu{w:World}{Z:Nat->Prop}{e:Nat}{xs:M (M D)}{b:Nat}(a:fN e=I):eg w Z e xs b↔ ∃(es:bZ dT)(cu:Nat)(es':M dT),w.heap[b]?=J (.map es cu)/\jY (oE e) cu (V es)/\fO w Z xs es'/\es'.Perm (V es)/\(hV e=I->es'=V es):=by simp only[eg,a]
def VG{e:Nat}(h:hV e=I):oE e=e:=by unfold oE;rw[h]
def eg.mp{w:World}{Z:Nat->Prop}{e:Nat}{xs:M (M D)}{b:Nat}(a:fN e=I)(c:hV e=I):eg w Z e xs b↔ ∃(es:bZ dT)(cu:Nat),w.heap[b]?=J (.map es cu)/\jY e cu (V es)/\fO w Z xs (V es):=by rw[eg.mu a];rw[VG c];simp_all
theorem eg.it{w:World}{Z:Nat->Prop}{e:Nat}{xs:M (M D)}{b:Nat}(a:fN e=W):eg w Z e xs b↔uM w Z xs b:=by simp only[eg,a]
def bA.hY{w:World}{Z:Nat->Prop}{e:Nat}{xs:M (M D)}{v:Value}(b:cf e=I):bA w Z (.sl e xs) v↔ ∃(a:eu)(cap:Nat),v=.slice (J a) (Y xs) cap/\(cap=0\/a.spot=O/\Z a.block)/\Y xs<=cap/\dt w Z e xs a.block a.off:=by simp only[bA,b]
theorem bA.nY{w:World}{Z:Nat->Prop}{e:Nat}{xs:M (M D)}{v:Value}(a:cf e=W):bA w Z (.sl e xs) v↔ ∃b,v=gK e b/\Z b/\eg w Z e xs b:=by simp only[bA,a,eg];cases fN e<;>rfl
theorem cell_of_heap{w w':World}{b:Nat}(h:w'.heap[b]?=w.heap[b]?)(o:Nat)(sp:Option Nat):T w' ⟨b,o,sp⟩=T w ⟨b,o,sp⟩:=by simp only[World.cell?,h]
section mono
variable{w w':World}{Z Z':Nat->Prop}(hZ:∀b,Z b->w'.heap[b]?=w.heap[b]? /\Z' b)
include hZ
theorem C0.mono{l:M ao}{v:Value}(h:C0 w Z l v):C0 w' Z' l v:=by let⟨b,o,cap,h1,h2,h3⟩:=h;exact⟨b,o,cap,h1,(hZ b h2).2,λi x a=>by rw[cell_of_heap (hZ b h2).1];exact h3 i x a⟩
theorem rk.mono{ps:M (ao×M ao)}{b:Nat}(a:Z b)(h:rk w Z ps b):rk w' Z' ps b:=by let⟨h1,q,o,cap,h2,h3,d⟩:=h;refine⟨λc=>?_,q,o,cap,by rw[cell_of_heap (hZ b a).1];exact h2,(hZ q h3).2,λi c e=>by rw[cell_of_heap (hZ q h3).1];exact d i c e⟩;let⟨v,f,g⟩:=h1 c;refine⟨v,by rw[cell_of_heap (hZ b a).1];exact f,?_⟩;split<;>simp_all only;exact C0.mono hZ g
theorem mB.mono{u:bv}{ps:M (ao×M ao)}{v:Value}(h:mB w Z u ps v):mB w' Z' u ps v:=by
 cases ps with|nil=>exact h|cons p ps=>let⟨b,h1,h2,h3⟩:=h;exact⟨b,h1,(hZ b h2).2,rk.mono hZ h2 h3⟩
mutual
theorem bA.mono:∀(d:D)(v:Value),bA w Z d v->bA w' Z' d v
 |.int _ _,_,h=>h|.bool _,_,h=>h|.bj _,_,h=>h|.nil,_,h=>h|.cV _,_,h=>h|.rep _ _,_,h=>mB.mono hZ h|.sl e xs,v,h=>by
  by_cases c:cf e=W;rw[bA.nY c]at h ⊢;let⟨b,h1,h2,h3⟩:=h;refine⟨b,h1,(hZ _ h2).2,?_⟩;by_cases a:fN e=W;exact(eg.it a).2 (uM.mono xs b (hZ _ h2).1 ((eg.it a).1 h3));have a:fN e=I:=by simpa using a
  let⟨es,cu,g,h3,f,i,k⟩:=(eg.mu a).1 h3;exact(eg.mu a).2 ⟨es,cu,g,by grind,f,fO.mono xs _ i,k⟩;have c:cf e=I:=by simpa using c
  rw[bA.hY c]at h ⊢;let⟨j,cap,h1,h2,h3,i⟩:=h;rcases h2 with h2|⟨h2,f⟩
  have:xs=[]:=List.length_eq_zero_iff.1 (by omega);subst this;exact⟨j,cap,h1,.inl h2,h3,trivial⟩;exact⟨j,cap,h1,.inr ⟨h2,(hZ _ f).2⟩,h3,dt.mono e xs _ _ (hZ _ f).1 i⟩
theorem fC.mono:∀(ds:M D)(b o:Nat),w'.heap[b]?=w.heap[b]? ->fC w Z ds b o->fC w' Z' ds b o|[],_,_,_,_=>trivial|d::ds,b,o,a,h=>by let⟨⟨v,h1,h2⟩,h3⟩:=h;exact⟨⟨v,by rw[cell_of_heap a];exact h1,bA.mono d v h2⟩,fC.mono ds b (o+1) a h3⟩
theorem dt.mono(e:Nat):∀(xs:M (M D))(b o:Nat),w'.heap[b]?=w.heap[b]? ->dt w Z e xs b o->dt w' Z' e xs b o|[],_,_,_,_=>trivial|x::xs,b,o,a,h=>⟨h.1,fC.mono x b o a h.2.1,dt.mono e xs b (o+e) a h.2.2⟩
theorem jZ.mono:∀(ds:M D)(vs:M Value),jZ w Z ds vs->jZ w' Z' ds vs|[],[],_=>trivial|d::ds,v::vs,h=>⟨bA.mono d v h.1,jZ.mono ds vs h.2⟩
theorem uM.mono:∀(xs:M (M D))(b:Nat),w'.heap[b]?=w.heap[b]? ->uM w Z xs b->uM w' Z' xs b|[],_,_,h=>aaY h|x::rest,b,c,h=>by let⟨m,since,seen,a,h1,h2,h3⟩:=h;exact⟨m,since,seen,a,by rw[c];exact h1,jZ.mono x _ h2,h3⟩
theorem fO.mono:∀(xs:M (M D))(es:M dT),fO w Z xs es->fO w' Z' xs es|[],[],_=>trivial|x::xs,en::es,h=>⟨jZ.mono x _ h.1,fO.mono xs es h.2⟩
end
theorem eg.mono(e:Nat)(xs:M (M D))(b:Nat)(a:w'.heap[b]?=w.heap[b]?)(h:eg w Z e xs b):eg w' Z' e xs b:=by by_cases c:fN e=W;grind [eg.it,uM.mono];grind [eg.mu,fO.mono]
end mono
section rows
variable{w:World}{Z:Nat->Prop}{b e:Nat}
theorem fC.aG:∀{ds:M D}{o j:Nat}{d:D},fC w Z ds b o->ds[j]?=J d->∃v,T w ⟨b,o+j,O⟩=J v/\bA w Z d v|[],_,_,_,_,h=>by simp at h|x::ds,o,0,d,h,a=>by simp only[ij,Option.some.injEq]at a;subst a;exact h.1|x::ds,o,j+1,d,h,a=>by have:=fC.aG (j:=j) h.2 (by simpa using a);grind
def fC.drop:∀{ds:M D}{o:Nat}(j:Nat),fC w Z ds b o->fC w Z (ds.drop j) b (o+j)|ds,o,0,h=>by simpa using h|[],o,j+1,_=>by simp[fC]|x::ds,o,j+1,h=>by have:=fC.drop (ds:=ds) (o:=o+1) j h.2;grind
def fC.take:∀{ds:M D}{o:Nat}(j:Nat),fC w Z ds b o->fC w Z (ds.take j) b o|ds,o,0,h=>by simp[fC]|[],o,j+1,_=>by simp[fC]|x::ds,o,j+1,h=>⟨h.1,fC.take j h.2⟩
theorem dt.append:∀{xs ys:M (M D)}{o:Nat},dt w Z e xs b o->dt w Z e ys b (o+Y xs*e)->dt w Z e (xs++ys) b o|[],ys,o,_,h=>by simpa using h|x::xs,ys,o,h,k=>⟨h.1,h.2.1,dt.append h.2.2 (by grind)⟩
theorem dt.aG:∀{xs:M (M D)}{o i:Nat}{x:M D},dt w Z e xs b o->xs[i]?=J x->Y x=e/\fC w Z x b (o+i*e)|[],_,_,_,_,h=>by simp at h|y::xs,o,0,x,h,a=>by simp only[ij,Option.some.injEq]at a;subst a;exact⟨h.1,by simpa using h.2.1⟩|y::xs,o,i+1,x,h,a=>by have:=dt.aG (i:=i) h.2.2 (by simpa using a);grind
def dt.drop:∀{xs:M (M D)}{o:Nat}(k:Nat),dt w Z e xs b o->dt w Z e (xs.drop k) b (o+k*e)|xs,o,0,h=>by simpa using h|[],o,k+1,_=>by simp[dt]|x::xs,o,k+1,h=>by have:=dt.drop (xs:=xs) (o:=o+e) k h.2.2;grind
def dt.take:∀{xs:M (M D)}{o:Nat}(k:Nat),dt w Z e xs b o->dt w Z e (xs.take k) b o|xs,o,0,h=>by simp[dt]|[],o,k+1,_=>by simp[dt]|x::xs,o,k+1,h=>⟨h.1,h.2.1,dt.take k h.2.2⟩
theorem dt.dU:∀{xs:M (M D)}{o:Nat},(∀(i:Nat)x,xs[i]?=J x->Y x=e/\fC w Z x b (o+i*e))->dt w Z e xs b o|[],_,_=>trivial|x::xs,o,h=>⟨(h 0 x rfl).1,by simpa using(h 0 x rfl).2,dt.dU λi y hy=>by have:=h (i+1) y (by simpa using hy);grind⟩
theorem fC.dU:∀{ds:M D}{o:Nat},(∀(j:Nat)d,ds[j]?=J d->∃v,T w ⟨b,o+j,O⟩=J v/\bA w Z d v)->fC w Z ds b o|[],_,_=>trivial|d::ds,o,h=>⟨h 0 d rfl,fC.dU λj y hy=>by have:=h (j+1) y (by simpa using hy);grind⟩
def dt.len{xs:M (M D)}{o:Nat}(h:dt w Z e xs b o):∀x∈xs,Y x=e:=by intro x a;let⟨i,c⟩:=nL a;exact(h.aG c).1
end rows
structure de where
 P:Program
 N:Nat
 base:Nat
 w0:World
 E0:Nat->Prop
 Z0:Nat->Prop
 argv:Array Value
 ka:aD->Option Nat
def ag1(n:String):Option (M Value):=if n== "internal/strconv.uint64pow10" then J (([1,10,100,1000,10000,100000,1000000,10000000,100000000,1000000000,10000000000,100000000000,1000000000000,10000000000000,100000000000000,1000000000000000,10000000000000000,100000000000000000,1000000000000000000,10000000000000000000]:M L).map λn=>.int .u64 n)else O
def NY:Nat->M Global->M (Nat×M Value)
 |_,[]=>[]|i,g::r=>match ag1 g.name with|some l=>(i,l)::NY (i+1) r|none=>NY (i+1) r
def uN(P:er):M (Nat×M Value):=NY 0 (V P.globals)
def qb(w:World)(g:Nat)(l:M Value):Prop:=∀j:Nat,T w ⟨g,j,O⟩=l[j]?
theorem qb.aG{w:World}{g:Nat}{l:M Value}(h:qb w g l){j:Nat}{v:Value}(a:l[j]?=J v):T w ⟨g,j,O⟩=J v:=by rw[h j,a]
def NZ:Nat->M Global->M Nat|_,[]=>[]|i,g::r=>if g.name== "internal/bytealg.MaxLen" then i::NZ (i+1) r else NZ (i+1) r
def xG(P:er):M Nat:=NZ 0 (V P.globals)
def xH(w:World)(g:Nat):Prop:=∃m,T w ⟨g,0,O⟩=J (.int .i64 m)
def ag2(K:de):Prop:=(∀g l,(g,l)∈uN K.P->g<K.base/\K.Z0 g/\¬K.E0 g/\qb K.w0 g l)/\∀g,g∈xG K.P->g<K.base/\K.Z0 g/\¬K.E0 g/\xH K.w0 g
abbrev cT:=aO×Option Nat
def ey:Value->M Value|.agg cs=>V cs|.tuple vs=>(V vs).flatMap λv=>V v.cells|v=>[v]
def lT{v:Value}(h:gU v=W):acz v=#[v]:=by cases v<;>simp_all [gU,Value.cells]
def Ap{v:Value}(h:gU v=W):ey v=[v]:=by cases v<;>simp_all [gU,ey]
def cK(K:de)(β:aD->Option Nat)(a:Act)(w:World):aO->Nat->Option Value|.tmp t,j=>(ey (a.tmps.getD t undef))[j]?|.box k,j=>(β k).bind λb=>T w ⟨b,j,O⟩|.bP i,j=>(ey (K.argv.getD i undef))[j]?
def aS(K:de)(β:aD->Option Nat)(Z:Nat->Prop)(s:St)(a:Act)(w:World):C->Value->Prop
 |.d x,v=>bA w Z x v|.ak e xs,v=>match cf e with|false=>∃(c:eu)(cap:Nat),v=.slice (J c) (Y xs) cap/\c.spot=O/\Y xs<=cap/\dt w Z e xs c.block c.off|true=>∃b,v=gK e b/\eg w Z e xs b
 |.bm r j hv cv e k xs,v=>match cf e with
  |true=>∃b,v=gK e b/\hv<=(s r).hv/\cv<=(s r).cv/\
   ((s r).hv=hv->(s r).at j≠.bN->cK K β a w r j=J (gK e b)/\∃ys,((s r).at j=.ak e ys\/(s r).at j=.d (.sl e ys))/\((s r).cv=cv->xs=ys))
  |false=>∃(h:eu)(g:Nat),v=.slice (J h) (Y xs) g/\h.spot=O/\Y xs<=g/\hv<=(s r).hv/\cv<=(s r).cv/\
   ((s r).hv=hv->(s r).at j≠.bN->∃(c:eu)(len cap:Nat),cK K β a w r j=J (.slice (J c) len cap)/\c.spot=O/\abX h=abX c/\
     (h.off=c.off+k*e\/g=0)/\h.off<=c.off+cap*e/\g+k=cap/\k+Y xs<=len/\len<=cap/\
     ∃ys,((s r).at j=.ak e ys\/(s r).at j=.d (.sl e ys))/\((s r).cv=cv->xs=(ys.drop k).take (Y xs)))
 |.ea r j hv e i off,v=>∃(b o:Nat),v=.pointer (J ⟨b,o,O⟩)/\hv<=(s r).hv/\
   ((s r).hv=hv->(s r).at j≠.bN->∃(c:eu)(len cap:Nat),cK K β a w r j=J (.slice (J c) len cap)/\c.spot=O/\b=abX c/\o=c.off+i*e+off/\
     ∃ys,(s r).at j=.ak e ys\/(s r).at j=.d (.sl e ys))
 |.da xs,v=>∃(b o:Nat),v=.pointer (J ⟨b,o,O⟩)/\Z b/\fC w Z xs b o|.aX k off,v=>∃b,β k=J b/\v=.pointer (J ⟨b,off,O⟩)|.dj f caps,v=>∃vs:bZ Value,v=.func (.func f) #[] vs/\aR (λu p=>∃b,β p.1=J b/\u=.pointer (J ⟨b,p.2,O⟩)) (V vs) caps|.bN,_=>dL
section
variable{K:de}{β:aD->Option Nat}{Z:Nat->Prop}{s:St}{a:Act}{w:World}{e:Nat}{v:Value}
theorem aS.jg{xs:M (M D)}(c:cf e=I):aS K β Z s a w (.ak e xs) v↔ ∃(b:eu)(cap:Nat),v=.slice (J b) (Y xs) cap/\b.spot=O/\Y xs<=cap/\dt w Z e xs b.block b.off:=by simp only[aS,c]
theorem aS.ku{xs:M (M D)}(c:cf e=W):aS K β Z s a w (.ak e xs) v↔ ∃b,v=gK e b/\eg w Z e xs b:=by simp only[aS,c]
theorem aS.pb{r:aO}{j hv cv k:Nat}{xs:M (M D)}(g:cf e=I):aS K β Z s a w (.bm r j hv cv e k xs) v↔
  ∃(c:eu)(b:Nat),v=.slice (J c) (Y xs) b/\c.spot=O/\Y xs<=b/\hv<=(s r).hv/\cv<=(s r).cv/\
   ((s r).hv=hv->(s r).at j≠.bN->∃(f:eu)(len cap:Nat),cK K β a w r j=J (.slice (J f) len cap)/\f.spot=O/\abX c=abX f/\
     (c.off=f.off+k*e\/b=0)/\c.off<=f.off+cap*e/\b+k=cap/\k+Y xs<=len/\len<=cap/\
     ∃ys,((s r).at j=.ak e ys\/(s r).at j=.d (.sl e ys))/\((s r).cv=cv->xs=(ys.drop k).take (Y xs))):=by
 simp only[aS,g]
theorem aS.rl{r:aO}{j hv cv k:Nat}{xs:M (M D)}(c:cf e=W):aS K β Z s a w (.bm r j hv cv e k xs) v↔
  ∃b,v=gK e b/\hv<=(s r).hv/\cv<=(s r).cv/\
   ((s r).hv=hv->(s r).at j≠.bN->cK K β a w r j=J (gK e b)/\∃ys,((s r).at j=.ak e ys\/(s r).at j=.d (.sl e ys))/\((s r).cv=cv->xs=ys)):=by
 simp only[aS,c]
end
theorem aR.length{α β:Type}{R:α->β->Prop}:∀{as:M α}{a:M β},aR R as a->Y as=Y a|[],[],_=>rfl|_::_,_::_,h=>by simp[aR.length h.2]
theorem aR.mono{α β:Type}{R c:α->β->Prop}(d:∀a b,R a b->c a b):∀{as:M α}{e:M β},aR R as e->aR c as e|[],[],_=>trivial|_::_,_::_,h=>⟨d _ _ h.1,aR.mono d h.2⟩
def aR.kO{α β:Type}{R d:α->β->Prop}:∀{as:M α}{c:M β},(∀a b,b∈c->R a b->d a b)->aR R as c->aR d as c|[],[],_,_=>trivial|_::_,_::_,e,h=>⟨e _ _ (kJ ..) h.1,aR.kO (λa b f=>e a b (jr _ f)) h.2⟩
theorem aR.aG{α β:Type}{R:α->β->Prop}:∀{as:M α}{d:M β}{j:Nat}{b:β},aR R as d->d[j]?=J b->∃a,as[j]?=J a/\R a b|[],[],_,_,_,h=>by simp at h|a::as,b::d,0,c,h,e=>by simp only[ij,Option.some.injEq]at e;subst e;exact⟨a,rfl,h.1⟩|a::as,b::d,j+1,c,h,e=>by obtain⟨x,h1,h2⟩:=aR.aG (j:=j) h.2 (by simpa using e);grind
theorem aR.dU{α β:Type}{R:α->β->Prop}:∀{as:M α}{d:M β},Y as=Y d->(∀(j:Nat)a b,as[j]?=J a->d[j]?=J b->R a b)->aR R as d|[],[],_,_=>trivial|a::as,b::d,c,h=>⟨h 0 a b rfl rfl,aR.dU (by simpa using c) λj x y e hy=>h (j+1) x y (by simpa using e) (by simpa using hy)⟩|[],_::_,c,_=>by simp at c|_::_,[],c,_=>by simp at c
theorem aR.append{α β:Type}{R:α->β->Prop}:∀{as a:M α}{b bs':M β},aR R as b->aR R a bs'->aR R (as++a) (b++bs')|[],_,[],_,_,h=>h|_::_,_,_::_,_,h,k=>⟨h.1,aR.append h.2 k⟩
def aR.drop{α β:Type}{R:α->β->Prop}:∀{as:M α}{a:M β}(n:Nat),aR R as a->aR R (as.drop n) (a.drop n)|_,_,0,h=>h|[],[],_+1,_=>trivial|_::_,_::_,n+1,h=>aR.drop n h.2
def aR.take{α β:Type}{R:α->β->Prop}:∀{as:M α}{a:M β}(n:Nat),aR R as a->aR R (as.take n) (a.take n)|as,a,0,h=>by simp[aR]|[],[],_+1,_=>trivial|_::_,_::_,n+1,h=>⟨h.1,aR.take n h.2⟩
def eB(R:C->Value->Prop)(v:Value)(x:ay×M C):Prop:=if x.1 then ∃ws:bZ Value,v=.agg ws/\aR (λu c=>R c u) (V ws) x.2 else ∃c,x.2=[c]/\gU v=W/\R c v
def bQ(R:C->Value->Prop)(v:Value):SV->Prop|.one c=>gU v=W/\R c v|.agg cs=>∃ws:bZ Value,v=.agg ws/\aR (λu c=>R c u) (V ws) cs|.bw xs=>∃vs:bZ Value,v=.tuple vs/\aR (eB R) (V vs) xs|.undef=>dL
theorem eB.ey{R:C->Value->Prop}{v:Value}{x:ay×M C}(h:eB R v x):aR (λu c=>R c u) (V v.cells) x.2:=by unfold eB at h;split at h;obtain⟨ws,rfl,h⟩:=h;exact h;let⟨c,h1,h2,h3⟩:=h;rw[lT h2,h1];exact⟨h3,trivial⟩
def VH{R:C->Value->Prop}:∀{vs:M Value}{xs:M (ay×M C)},aR (eB R) vs xs->aR (λu c=>R c u) (vs.flatMap λv=>V v.cells) (xs.flatMap (·.2))|[],[],_=>trivial|_::_,_::_,h=>by simp only[kK];exact aR.append (eB.ey h.1) (VH h.2)
theorem bQ.ey{R:C->Value->Prop}{v:Value}{a:SV}(h:bQ R v a)(b:a≠.undef):aR (λu c=>R c u) (ey v) a.cells:=by
 cases a with
 |one c=>rw[Ap h.1];exact⟨h.2,trivial⟩|agg cs=>obtain⟨ws,rfl,h⟩:=h;exact h
 |bw xs=>obtain⟨vs,rfl,h⟩:=h;exact VH h
 |undef=>exact cJ rfl b
theorem bQ.cell{R:C->Value->Prop}{v:Value}{a:SV}{j:Nat}{c:C}(h:bQ R v a)(b:a.cells[j]?=J c):∃u,(Vs.ey v)[j]?=J u/\R c u:=by by_cases d:a=.undef;subst d;simp[SV.cells]at b;exact(h.ey d).aG b
theorem bQ.mono{R g:C->Value->Prop}{v:Value}{sv:SV}(b:∀c u,c∈sv.cells->R c u->g c u)(h:bQ R v sv):bQ g v sv:=by
 cases sv with
 |one c=>exact⟨h.1,b _ _ (by simp[SV.cells]) h.2⟩|agg cs=>let⟨ws,h1,h2⟩:=h;exact⟨ws,h1,h2.kO λu c d a=>b c u d a⟩
 |bw xs=>let⟨vs,h1,h2⟩:=h;refine⟨vs,h1,h2.kO λv x i a=>?_⟩;unfold eB at a ⊢;split;rename_i e;simp only[e,bH]at a;let⟨ws,h3,f⟩:=a;exact⟨ws,h3,f.kO λu c d a=>b c u (Hr.2 ⟨x,i,d⟩) a⟩;rename_i e;simp only[e]at a;let⟨c,h3,f,j⟩:=a;exact⟨c,h3,f,b c _ (Hr.2 ⟨x,i,by simp[h3]⟩) j⟩
 |undef=>trivial
theorem aR.set{α β:Type}{R:α->β->Prop}:∀{as:M α}{d:M β}{j:Nat}{b:β},aR R as d->(∀a,as[j]?=J a->R a b)->aR R as (d.set j b)|[],[],_,_,_,_=>trivial|a::as,c::d,0,b,h,e=>⟨e a rfl,h.2⟩|a::as,c::d,j+1,b,h,e=>⟨h.1,aR.set h.2 λx f=>e x (by simpa using f)⟩
theorem eB.set{R:C->Value->Prop}{v:Value}{b:ay}{cs:M C}{j:Nat}{c:C}(h:eB R v (b,cs))(e:j<Y cs)(a:∀u,(V v.cells)[j]?=J u->R c u):eB R v (b,cs.set j c):=by
 unfold eB at *;cases b with
 |true=>simp only[bH]at h ⊢;obtain⟨ws,rfl,h⟩:=h;exact⟨ws,rfl,h.set a⟩
 |false=>simp only[bM,ca]at h ⊢;let⟨d,h1,h2,h3⟩:=h;simp_all [lT]
def VI{R:C->Value->Prop}:∀{vs:M Value}{xs:M (ay×M C)}{j:Nat}{c:C},aR (eB R) vs xs->(∀u,(vs.flatMap λv=>V v.cells)[j]?=J u->R c u)->aR (eB R) vs (qW xs j c)|[],[],_,_,_,_=>trivial|v::vs,(b,cs)::xs,j,c,h,a=>by simp only[qW];have f:Y (V v.cells)=Y cs:=(eB.ey h.1).length;split;rename_i d;exact⟨eB.set h.1 d λu e=>a u (by grind),h.2⟩;rename_i d;exact⟨h.1,VI h.2 λu e=>a u (by grind)⟩
theorem bQ.setCell{R:C->Value->Prop}{v:Value}{a:SV}{j:Nat}{c:C}(h:bQ R v a)(b:∀u,(Vs.ey v)[j]?=J u->R c u):bQ R v (a.setCell j c):=by
 cases a with
 |one d=>simp only[SV.setCell];split;rename_i e;subst e;exact⟨h.1,b v (by rw[Ap h.1];rfl)⟩;exact h
 |agg cs=>obtain⟨ws,rfl,h⟩:=h;exact⟨ws,rfl,h.set b⟩
 |bw xs=>obtain⟨vs,rfl,h⟩:=h;exact⟨vs,rfl,VI h b⟩
 |undef=>trivial
def VJ:∀(xs:M (ay×M C))(j:Nat)(c:C),(qW xs j c).flatMap (·.2)=(xs.flatMap (·.2)).set j c|[],j,c=>by simp[qW]|(b,cs)::xs,j,c=>by simp only[qW];split;grind;rename_i h;simp only[kK,VJ xs,List.set_append,aU h]
theorem rm(a:SV)(j:Nat)(c:C):(a.setCell j c).cells=a.cells.set j c:=by
 cases a with
 |one d=>
  simp only[SV.setCell];split;simp_all [SV.cells];rename_i h;cases j with|zero=>exact cJ rfl h|succ j=>simp[SV.cells]
 |agg cs=>simp[SV.setCell,SV.cells]|bw xs=>simp[SV.setCell,SV.cells,VJ]|undef=>simp[SV.setCell,SV.cells]
theorem aR.split{α β:Type}{R:α->β->Prop}:∀{as c:M α}{e bs':M β},Y as=Y e->aR R (as++c) (e++bs')->aR R as e/\aR R c bs'
 |[],_,[],_,_,h=>⟨trivial,h⟩|a::as,_,b::e,_,d,h=>by let⟨h1,h2⟩:=h;let⟨h3,f⟩:=aR.split (by simpa using d) h2;exact⟨⟨h1,h3⟩,f⟩
 |[],_,_::_,_,d,_=>by simp at d|_::_,_,[],_,d,_=>by simp at d
def lU(_:C)(_:aL):Prop:=dL
def VK{R:C->aL->Prop}:∀{vs:M aL}{xs:M (ay×M C)},aR (eB lU) vs xs->aR (λu c=>R c u) (vs.flatMap λv=>V v.cells) (xs.flatMap (·.2))->aR (eB R) vs xs|[],[],_,_=>trivial|v::vs,x::xs,h,k=>by simp only[kK]at k;let⟨k1,k2⟩:=aR.split (eB.ey h.1).length k;refine⟨?_,VK h.2 k2⟩;have h1:=h.1;unfold eB at h1 ⊢;split;rename_i a;simp only[a,bH]at h1;obtain⟨ws,rfl,_⟩:=h1;exact⟨ws,rfl,k1⟩;rename_i a;simp only[a]at h1;let⟨c,h2,h3,_⟩:=h1;rw[lT h3,h2]at k1;exact⟨c,h2,h3,k1.1⟩
def bQ.of_flat{R:C->aL->Prop}{v:aL}{sv:SV}(h:bQ lU v sv)(k:sv≠.undef->aR (λu c=>R c u) (Vs.ey v) sv.cells):bQ R v sv:=by
 cases sv with
 |one c=>have:=k (by simp);rw[Ap h.1]at this;exact⟨h.1,this.1⟩|agg cs=>obtain⟨ws,rfl,_⟩:=h;exact⟨ws,rfl,k (by simp)⟩
 |bw xs=>obtain⟨vs,rfl,h⟩:=h;exact⟨vs,rfl,VK h (k (by simp))⟩
 |undef=>trivial
def bQ.shape{R:C->aL->Prop}{v:aL}{sv:SV}(h:bQ R v sv):bQ lU v sv:=bQ.mono (λ_ _ _ _=>trivial) h
def bQ.nZ{R a:C->aL->Prop}{v:aL}{sv:SV}(f:∀(j:Nat)c u,sv.cells[j]?=J c->(Vs.ey v)[j]?=J u->R c u->a c u)(h:bQ R v sv):bQ a v sv:=by refine bQ.of_flat h.shape λb=>?_;have d:=h.ey b;exact aR.dU d.length λj u c b e=>by let⟨g,h1,h2⟩:=d.aG e;grind
def iY{x:RV}{j:Nat}{c:C}(h:x.at j=c)(a:c≠.bN):x.v.cells[j]?=J c:=by grind [RV.at]
theorem uO{x:RV}{j:Nat}{c:C}(h:x.v.cells[j]?=J c):x.at j=c:=by simp[RV.at,jH,h]
def sA(same:Prop)(c c':C):Prop:=c=c'\/(∃e ys,c=.ak e ys/\c'=.d (.sl e ys))\/(¬same/\∃e ys a,c=.ak e ys/\(c'=.ak e a\/c'=.d (.sl e a)))
def gL(x a:RV):Prop:=x.hv<=a.hv/\x.cv<=a.cv/\(a.hv=x.hv->∀j,a.at j≠.bN->sA (a.cv=x.cv) (x.at j) (a.at j))
theorem gL.refl(x:RV):gL x x:=⟨Nat.le_refl _,Nat.le_refl _,λ_ _ _=>.inl rfl⟩
theorem gL.bump{x x':RV}(h:x'.hv=x.hv+1)(a:x'.cv=x.cv):gL x x':=⟨by omega,by omega,λe=>by omega⟩
def aS.step{K K':de}{β B:aD->Option Nat}{Z Z':Nat->Prop}{s s':St}{a a':Act}{w w':World}(F:∀k b,β k=J b->B k=J b) (hZ:∀b,Z b->w'.heap[b]?=w.heap[b]? /\Z' b)(V:∀r,gL (s r) (s' r)) (hh:∀r j,(s' r).hv=(s r).hv->(s' r).at j≠.bN->cK K' B a' w' r j=cK K β a w r j){c:C}{v:aL} (G:∀(e:Nat)(xs:M (M D))(b:Nat),c=.ak e xs->eG v=J b->w'.heap[b]?=w.heap[b]?) (h:aS K β Z s a w c v):aS K' B Z' s' a' w' c v:=by
 cases c with
 |d x=>exact bA.mono hZ x v h|ak e xs=>
  by_cases z:cf e=W;grind [aS.ku,eg.mono,lS];have z:cf e=I:=by simpa using z
  rw[aS.jg z]at h ⊢;let⟨E,cap,h1,h2,h3,H⟩:=h;exact⟨E,cap,h1,h2,h3,dt.mono hZ e xs _ _ (G e xs E.block rfl (by rw[h1];rfl)) H⟩
 |bm r j hv cv e k xs=>
  have y:∀t:(s' r).hv=hv,hv<=(s r).hv->(s' r).at j≠.bN->(s' r).hv=(s r).hv/\(s r).hv=hv/\sA ((s' r).cv=(s r).cv) ((s r).at j) ((s' r).at j)/\(s r).at j≠.bN:=by
   intro t hle l;let⟨Y,e2,N⟩:=V r;have g:(s' r).hv=(s r).hv:=(by omega);have m:=N g j l;refine⟨g,by omega,m,?_⟩;rcases m with h|⟨e,ys,h,_⟩|⟨_,e,ys,q,h,_⟩
   rw[h];exact l;rw[h];simp;rw[h];simp
  by_cases z:cf e=W;rw[aS.rl z]at h ⊢;let⟨b,h1,H,h5,h6⟩:=h;let⟨Y,e2,N⟩:=V r;refine⟨b,h1,by omega,by omega,λt l=>?_⟩;let⟨g,A,m,n⟩:=y t H l;let⟨X,ys,g9,g10⟩:=h6 A n;refine⟨by grind,?_⟩;rcases m with h|⟨P,q,h,R⟩|⟨hn,P,q,zs,h,R⟩
  grind;grind;grind;have z:cf e=I:=by simpa using z
  rw[aS.pb z]at h ⊢;let⟨WX,S,h1,h2,h3,H,h5,h6⟩:=h;let⟨Y,e2,N⟩:=V r;refine⟨WX,S,h1,h2,h3,by omega,by omega,λt l=>?_⟩;let⟨g,A,m,n⟩:=y t H l;let⟨E,len,cap,X,T,g3,g4,g4b,g5,g6,g7,g8⟩:=h6 (by omega) n;let⟨ys,g9,g10⟩:=g8;refine⟨E,len,cap,by grind,T,g3,g4,g4b,g5,g6,g7,?_⟩;rcases m with h|⟨P,q,h,R⟩|⟨hn,P,q,zs,h,R⟩
  grind;grind;grind
 |ea r j hv e i off=>
  let⟨b,o,h1,h2,h3⟩:=h;let⟨Y,e2,N⟩:=V r;refine⟨b,o,h1,by omega,λt l=>?_⟩;have g:(s' r).hv=(s r).hv:=by omega
  have m:=N g j l;have n:(s r).at j≠.bN:=by
   rcases m with h|⟨e,ys,h,_⟩|⟨_,e,ys,q,h,_⟩
   rw[h];exact l;rw[h];simp;rw[h];simp
  let⟨E,len,cap,X,T,g3,g4,ys,g5⟩:=h3 (by omega) n;refine⟨E,len,cap,by grind,T,g3,g4,?_⟩;rcases m with h|⟨P,q,h,R⟩|⟨_,P,q,zs,h,R⟩
  grind;grind;grind
 |da xs=>let⟨b,o,h1,h2,h3⟩:=h;exact⟨b,o,h1,(hZ b h2).2,fC.mono hZ xs b o (hZ b h2).1 h3⟩
 |aX k off=>let⟨b,h1,h2⟩:=h;exact⟨b,F k b h1,h2⟩
 |dj f caps=>let⟨vs,h1,h2⟩:=h;exact⟨vs,h1,h2.mono λu p⟨b,X,T⟩=>⟨b,F _ b X,T⟩⟩
 |bN=>trivial
def Wr(w:World)(b n:Nat):Prop:=∃(cs:bZ aL)(el:bv)(a c:Nat),w.heap[b]?=J (.cells cs el (a,c))/\n<=cs.size/\∀o,o<cs.size->¬(a<=o/\o<c)
theorem Wr.mono{w w':World}{b n m:Nat}(h:Wr w b n)(a:w'.heap[b]?=w.heap[b]?)(hm:m<=n):Wr w' b m:=by let⟨cs,el,c,d,h1,h2,h3⟩:=h;exact⟨cs,el,c,d,by rw[a];exact h1,by omega,h3⟩
def mD(w:World)(e:Nat):aL->Prop|.slice (J a) _ cap=>Wr w a.block (a.off+cap*e)|.map (J b)=>∃(es:bZ dT)(cu:Nat),w.heap[b]?=J (.map es cu)|.pointer (J _)=>dL|_=>jc
theorem mD.mono{w w':World}{e b:Nat}{u:aL}(h:mD w e u)(a:eG u=J b)(c:w'.heap[b]?=w.heap[b]?):mD w' e u:=by unfold mD at *;split at h;rename_i d len cap;simp only[eG,Option.some.injEq]at a;subst a;exact h.mono c (Nat.le_refl _);simp_all [eG];trivial;exact h
def Live:aL->Prop|.slice (J _) _ cap=>cap≠0|_=>dL
theorem VL(e b:Nat):Live (gK e b):=by unfold gK;split<;>trivial
def ag3{w:World}{Z:Nat->Prop}{e b:Nat}{xs:M (M D)}(c:Nat)(h:eg w Z e xs b):mD w c (gK e b):=by
 by_cases a:fN e=W;rw[NW a];trivial;have a:fN e=I:=by simpa using a
 rw[o9 a];let⟨es,cu,_,h1,_⟩:=(eg.mu a).1 h;exact⟨es,cu,h1⟩
def bA.live{w:World}{Z:Nat->Prop}{e b:Nat}{ys:M (M D)}{u:aL}(h:bA w Z (.sl e ys) u)(a:eG u=J b)(d:Live u):Z b:=by by_cases f:cf e=W;grind [bA.nY,lS];obtain⟨g,c,rfl,h3,_⟩:=(bA.hY (by simpa using f)).1 h;simp only[eG,Option.some.injEq]at a;exact a▸(acH h3 d).2
def eh(K:de)(β:aD->Option Nat)(ω:Nat->Option cT)(Z:Nat->Prop)(s:St)(a:Act)(w:World)(k:aD):SV->Prop
 |.agg cs=>∃(b:Nat)(ws:bZ aL)(el:bv)(d e:Nat),β k=J b/\ω b=J (.box k,O)/\w.heap[b]?=J (.cells ws el (d,e))/\
   (∀o,o<ws.size->¬(d<=o/\o<e))/\aR (λu c=>aS K β Z s a w c u) (V ws) cs
 |.undef=>β k=O|_=>jc
structure aZ(K:de)(β:aD->Option Nat)(ω:Nat->Option cT)(Z:Nat->Prop)(s:St)(a:Act)(w:World):Prop where
 size:a.tmps.size=K.N
 defers:a.defers=[]/\ag2 K
 os:w.os=K.w0.os
 tape:acL w=acL K.w0
 output:acB w=acB K.w0
 base:K.base<=w.heap.size
 frame:∀b,b<K.base->¬K.E0 b->w.heap[b]?=K.w0.heap[b]?
 dp:∀b,Z b->b<w.heap.size
 lV:∀b,K.Z0 b->Z b
 ng:∀b,Z b->K.Z0 b\/K.base<=b\/K.E0 b\/∃(i j e:Nat)(ys:List (List D))(u:Value),(s (.bP i)).v.cells[j]?=some (.d (.sl e ys))/\(ey (K.argv.getD i undef))[j]?=some u/\eG u=some b/\Live u
 tmps:∀t,bQ (aS K β Z s a w) (a.tmps.getD t undef) (s (.tmp t)).v
 args:∀i,bQ (aS K β Z s a w) (K.argv.getD i undef) (s (.bP i)).v
 aI:∀k,eh K β ω Z s a w k (s (.box k)).v
 ak:∀(r:aO)(j e:Nat)(xs:List (List D))(u:Value)(b:Nat),r.isArg=false->(s r).v.cells[j]?=some (.ak e xs)->cK K β a w r j=some u->eG u=some b->ω b=some (r,some j)/\mD w e u
 iL:∀(i j e:Nat)(xs:List (List D))(u:Value)(b:Nat),(s (.bP i)).v.cells[j]?=some (.ak e xs)->(ey (K.argv.getD i undef))[j]?=some u->eG u=some b->b<K.base/\¬K.E0 b
 dV:∀b h,ω b=some h->¬Z b/\b<w.heap.size/\(b<K.base->K.E0 b)
 n5:∀k b,K.ka k=some b->β k=some b
section
variable{K:de}{β:aD->Option Nat}{ω:Nat->Option cT}{Z:Nat->Prop}{s:St}{a:Act}{w:World}
def aZ.still(h:aZ K β ω Z s a w){g:Nat}(h1:g<K.base)(h2:K.Z0 g)(h3:¬K.E0 g):g<w.heap.size/\Z g/\ω g=O/\w.heap[g]?=K.w0.heap[g]? :=by
 have b:=h.lV g h2;refine⟨Nat.lt_of_lt_of_le h1 h.base,b,?_,h.frame g h1 h3⟩;cases c:ω g with|none=>rfl|some x=>exact cJ b (h.dV g x c).1
def aZ.laid(h:aZ K β ω Z s a w)(g:Nat)(l:M aL)(b:(g,l)∈uN K.P):g<w.heap.size/\Z g/\ω g=O/\qb w g l:=by let⟨h1,h2,h3,c⟩:=h.defers.2.1 g l b;let⟨d,e,f,i⟩:=h.still h1 h2 h3;exact⟨d,e,f,λj=>by rw[cell_of_heap i];exact c j⟩
def aZ.opens(h:aZ K β ω Z s a w)(g:Nat)(b:g∈xG K.P):g<w.heap.size/\Z g/\ω g=O/\xH w g:=by let⟨h1,h2,h3,m,c⟩:=h.defers.2.2 g b;let⟨d,e,f,i⟩:=h.still h1 h2 h3;exact⟨d,e,f,m,by rw[cell_of_heap i];exact c⟩
theorem eh.cell(h:aZ K β ω Z s a w){k:aD}{cs:M C}(hv:(s (.box k)).v=.agg cs):∃(b:Nat)(ws:bZ aL)(el:bv)(lo hi:Nat),β k=J b/\ω b=J (.box k,O)/\w.heap[b]?=J (.cells ws el (lo,hi))/\(∀o,o<ws.size->¬(lo<=o/\o<hi))/\aR (λu c=>aS K β Z s a w c u) (V ws) cs:=by have:=h.aI k;rw[hv]at this;exact this
theorem nh{k:aD}{b j:Nat}{ws:bZ aL}{el:bv}{lo hi:Nat}(c:β k=J b)(d:w.heap[b]?=J (.cells ws el (lo,hi))):cK K β a w (.box k) j=(V ws)[j]? :=by simp[cK,c,World.cell?,d]
theorem aZ.cell(h:aZ K β ω Z s a w){r:aO}{j:Nat}{c:C}(d:(s r).v.cells[j]?=J c):∃u,cK K β a w r j=J u/\aS K β Z s a w c u:=by
 cases r with
 |tmp t=>exact(h.tmps t).cell d|bP i=>exact(h.args i).cell d|box k=>
  have e:=h.aI k;cases hv:(s (.box k)).v with
  |agg cs=>let⟨b,ws,el,g,l,h1,h2,h3,m,f⟩:=eh.cell h hv;rw[hv]at d;let⟨u,n,o⟩:=f.aG d;grind [nh]
  |one c=>rw[hv]at e;exact aaY e|bw x=>rw[hv]at e;exact aaY e|undef=>simp_all [SV.cells]
def aZ.ownRow(h:aZ K β ω Z s a w){r:aO}{j:Nat}{e:Nat}{ys:M (M D)}(f:cf e=I)(c:(s r).at j=.ak e ys):∃b cap,cK K β a w r j=J (.slice (J b) (Y ys) cap)/\b.spot=O/\Y ys<=cap/\dt w Z e ys b.block b.off:=by let⟨u,h1,d⟩:=h.cell (iY c (by simp));simp_all [aS.jg]
def aZ.H7(h:aZ K β ω Z s a w){r:aO}{j:Nat}{e:Nat}{ys:M (M D)}(f:cf e=W)(c:(s r).at j=.ak e ys):∃b,cK K β a w r j=J (gK e b)/\eg w Z e ys b:=by let⟨u,h1,d⟩:=h.cell (iY c (by simp));simp_all [aS.ku]
def aS.VM{e:Nat}{xs:M (M D)}{u:aL}(c:aS K β Z s a w (.ak e xs) u):∃b,eG u=J b:=by by_cases d:cf e=W;grind [aS.ku,lS];let⟨f,cap,h1,_⟩:=(aS.jg (by simpa using d)).1 c;exact⟨abX f,by rw[h1];rfl⟩
end
section
variable{K:de}{β:aD->Option Nat}{ω:Nat->Option cT}{Z:Nat->Prop}{s:St}{a:Act}{w:World}
def lg(K:de)(β:aD->Option Nat)(s:St)(a:Act)(w:World)(b:Nat):Prop:=∀(r:aO)(j e:Nat)(xs:M (M D))(u:aL)(c:Nat),r.isArg=I->(s r).v.cells[j]?=J (.ak e xs)->cK K β a w r j=J u->eG u=J c->c≠b
def lh(K:de)(β:aD->Option Nat)(ω:Nat->Option cT)(Z:Nat->Prop)(s:St)(a:Act)(w:World)(r:aO)(i:Nat)(c:C)(u:aL):Prop:=aS K β Z s a w c u/\∀(e:Nat)(xs:M (M D))(b:Nat),c=.ak e xs->eG u=J b->ω b=J (r,J i)/\mD w e u/\lg K β s a w b
structure dC(K:de)(β:aD->Option Nat)(a:Act)(ω:Nat->Option cT)(Z:Nat->Prop)(s:St)(w:World)(ω':Nat->Option cT)(Z':Nat->Prop)(s':St)(w':World):Prop where
 z:∀b,Z b->Z' b
 heap:∀b,b<w.heap.size->w'.heap[b]?=w.heap[b]?
 size:w.heap.size<=w'.heap.size
 N0:∀r,gL (s r) (s' r)
 cK:∀r j,cK K β a w' r j=cK K β a w r j
 fr:∀b,b<w.heap.size->lg K β s a w b->ω' b=ω b/\lg K β s' a w' b
theorem dC.refl:dC K β a ω Z s w ω Z s w:=⟨λ_ h=>h,λ_ _=>rfl,Nat.le_refl _,λ_=>gL.refl _,λ_ _=>rfl,λ_ _ h=>⟨rfl,h⟩⟩
theorem sA.trans{p q t:Prop}(i:t->p)(m:t->q){c c' c'':C}(h:sA p c c')(k:sA q c' c''):sA t c c'':=by
 rcases h with rfl|⟨e,ys,rfl,rfl⟩|⟨d,e,ys,a,rfl,rfl|rfl⟩
 rcases k with k|k|⟨d,k⟩
 exact .inl k;exact .inr (.inl k);exact .inr (.inr ⟨λb=>d (m b),k⟩);rcases k with rfl|⟨g,a,h1,rfl⟩|⟨d,g,a,j,h1,h2⟩
 exact .inr (.inl ⟨e,ys,rfl,rfl⟩);cases h1;cases h1;rcases k with rfl|⟨g,f,h1,rfl⟩|⟨l,g,f,j,h1,h2⟩
 exact .inr (.inr ⟨λb=>d (i b),e,ys,a,rfl,.inl rfl⟩);cases h1;exact .inr (.inr ⟨λb=>d (i b),e,ys,a,rfl,.inr rfl⟩);cases h1;exact .inr (.inr ⟨λb=>d (i b),e,ys,j,rfl,h2⟩);rcases k with rfl|⟨g,f,h1,rfl⟩|⟨l,g,f,j,h1,h2⟩
 exact .inr (.inr ⟨λb=>d (i b),e,ys,a,rfl,.inr rfl⟩);cases h1;cases h1
theorem sA.alive{p:Prop}{c c':C}(h:sA p c c')(a:c'≠.bN):c≠.bN:=by
 rcases h with rfl|⟨e,ys,rfl,_⟩|⟨_,e,ys,b,rfl,_⟩
 exact a;simp;simp
theorem gL.trans{x y z:RV}(h:gL x y)(k:gL y z):gL x z:=by let⟨h1,h2,h3⟩:=h;let⟨k1,k2,k3⟩:=k;refine⟨by omega,by omega,λe j a=>?_⟩;have hk:=k3 (by omega) j a;exact sA.trans (λ_=>by omega) (λ_=>by omega) (h3 (by omega) j (hk.alive a)) hk
theorem dC.trans{ω' d:Nat->Option cT}{Z' e:Nat->Prop}{s' f:St}{w' w'':World}(h:dC K β a ω Z s w ω' Z' s' w')(k:dC K β a ω' Z' s' w' d e f w''):dC K β a ω Z s w d e f w'':=⟨λb c=>k.z b (h.z b c),λb c=>aav (k.heap b (Nat.lt_of_lt_of_le c h.size)) (h.heap b c),Nat.le_trans h.size k.size,λr=>(h.N0 r).trans (k.N0 r),λr j=>aav (k.cK r j) (h.cK r j),λb c g=>⟨aav ((k.fr b (Nat.lt_of_lt_of_le c h.size) (h.fr b c g).2).1) (h.fr b c g).1,(k.fr b (Nat.lt_of_lt_of_le c h.size) (h.fr b c g).2).2⟩⟩
def dC.li{ω':Nat->Option cT}{Z':Nat->Prop}{s':St}{w':World}(k:dC K β a ω Z s w ω' Z' s' w')(g:∀b,Z b->b<w.heap.size){c:C}{u:aL} (d:∀(e:Nat)(xs:M (M D))(b:Nat),c=.ak e xs->eG u=J b->b<w.heap.size)(h:aS K β Z s a w c u):aS K β Z' s' a w' c u:=aS.step (λ_ _ h=>h) (λb f=>⟨k.heap b (g b f),k.z b f⟩) k.N0 (λr j _ _=>k.cK r j) (λe xs b h1 h2=>k.heap _ (d e xs b h1 h2)) h
def dC.N1{ω':Nat->Option cT}{Z':Nat->Prop}{s':St}{w':World}(k:dC K β a ω Z s w ω' Z' s' w')(g:aZ K β ω Z s a w){r:aO}{i:Nat}{c:C}{u:aL}(h:lh K β ω Z s a w r i c u):lh K β ω' Z' s' a w' r i c u:=by have d:∀(e:Nat)(xs:M (M D))(b:Nat),c=.ak e xs->eG u=J b->b<w.heap.size:=λe xs b h1 h2=>(g.dV _ _ (h.2 e xs b h1 h2).1).2.1;refine⟨k.li g.dp d h.1,λe xs b h1 h2=>?_⟩;let⟨l,m,j⟩:=h.2 e xs b h1 h2;have f:=d e xs b h1 h2;exact⟨by rw[(k.fr _ f j).1];exact l,m.mono h2 (k.heap _ f),(k.fr _ f j).2⟩
def lh.Aq{r:aO}{i:Nat}{c:C}{u:aL}(b:∀e xs,c≠.ak e xs)(h:aS K β Z s a w c u):lh K β ω Z s a w r i c u:=⟨h,λe xs _ h1 _=>cJ h1 (b e xs)⟩
def C2(s:St)(r q:aO)(x:RV):(s.set r x q).v=if q=r then x.v else(s q).v:=by grind [St.set]
theorem H8{b:SV}{j a:Nat}{c d:C}(h:(b.setCell j c).cells[a]?=J d):(a=j/\d=c)\/(a≠j/\b.cells[a]?=J d):=by grind [rm]
def aZ.VN(h:aZ K β ω Z s a w){r:aO}{j e:Nat}{ys:M (M D)}{c':C}(hc:(s r).at j=.ak e ys)(hr:r.isArg=I)(S:c'=.bN\/c'=.d (.sl e ys)) {u0:aL}{b0:Nat}(hh:cK K β a w r j=J u0)(A:eG u0=J b0){ω':Nat->Option cT}{Z':Nat->Prop} (hZ:∀b,Z' b↔Z b\/(c'≠.bN/\b=b0))(H:∀b,b≠b0->ω' b=ω b)(ayH:c'≠.bN->ω' b0=O):aZ K β ω' Z' (s.set r {s r with v:=(s r).v.setCell j c'}) a w/\dC K β a ω Z s w ω' Z' (s.set r {s r with v:=(s r).v.setCell j c'}) w/\lg K β (s.set r {s r with v:=(s r).v.setCell j c'}) a w b0:=by
 have z:=iY hc (by simp);let⟨Im,hwr⟩:=h.ak r j e ys u0 b0 hr z hh A;let⟨hnz,hlt,hE⟩:=h.dV _ _ Im;let⟨u,hu1,P⟩:=h.cell z;rw[hh]at hu1;cases hu1;have hno:∀e xs,c'≠.ak e xs:=by rcases S with rfl|rfl<;>simp
 generalize T:s.set r {s r with v:=(s r).v.setCell j c'}=s';have n:∀q,(s' q).v=if q=r then(s r).v.setCell j c' else(s q).v:=λq=>by rw[<-T];exact C2 ..
 have l:∀(q:aO)(i e:Nat)(xs:M (M D)),(s' q).v.cells[i]?=J (.ak e xs)->(s q).v.cells[i]?=J (.ak e xs)/\¬(q=r/\i=j):=by grind [H8]
 have R:∀q,gL (s q) (s' q):=by
  intro q;by_cases N:q=r;subst N;rw[<-T,lN];refine⟨Nat.le_refl _,Nat.le_refl _,λ_ i V=>?_⟩;have hat:∀i,({s q with v:=(s q).v.setCell j c'}:RV).at i=if i=j/\i<(s q).v.cells.length then c' else(s q).at i:=by grind [RV.at,rm]
  rw[hat]at V ⊢;by_cases hx:i=j/\i<(s q).v.cells.length;rw[aF hx]at V ⊢;obtain⟨rfl,_⟩:=hx;rw[hc];rcases S with rfl|rfl
  exact cJ rfl V;exact .inr (.inl ⟨e,ys,rfl,rfl⟩);rw[aU hx];exact .inl rfl;rw[<-T,lO _ _ N];exact gL.refl _
 have F:∀b,Z b->Z' b:=λb f=>(hZ b).2 (.inl f);have hfr:∀b,b<w.heap.size->lg K β s a w b->ω' b=ω b/\lg K β s' a w b:=by intro b _ hf;have hne:b≠b0:=λf=>hf r j e ys u0 b0 hr z hh A f.symm;exact⟨H b hne,λq i B xs E G N o p y=>hf q i B xs E G N (l q i B xs o).1 p y⟩
 have X:dC K β a ω Z s w ω' Z' s' w:=⟨F,λ_ _=>rfl,Nat.le_refl _,R,λ_ _=>rfl,hfr⟩;have m:∀(c:C)(u:aL),aS K β Z s a w c u->aS K β Z' s' a w c u:=λc u ro=>aS.step (λ_ _ h=>h) (λb f=>⟨rfl,F b f⟩) R (λ_ _ _ _=>rfl) (λ_ _ _ _ _=>rfl) ro;have hnew:aS K β Z' s' a w c' u0:=by
  rcases S with rfl|rfl
  trivial;by_cases he:cf e=W;obtain⟨b,rfl,g⟩:=(aS.ku he).1 P;rw[lS,Option.some.injEq]at A;subst A;exact(bA.nY he).2 ⟨b,rfl,(hZ _).2 (.inr ⟨by simp,rfl⟩),eg.mono (λb f=>⟨rfl,F b f⟩) e ys _ rfl g⟩;have he:cf e=I:=by simpa using he
  obtain⟨ad,cap,rfl,hsp,hle,Y⟩:=(aS.jg he).1 P;simp only[eG,Option.some.injEq]at A;subst A;exact(bA.hY he).2 ⟨ad,cap,rfl,.inr ⟨hsp,(hZ _).2 (.inr ⟨by simp,rfl⟩)⟩,hle,dt.mono (λb f=>⟨rfl,F b f⟩) e ys _ _ rfl Y⟩
 have hne_of:∀(q:aO)(i B:Nat)(xs:M (M D))(E:aL)(G:Nat),q.isArg=I->(s q).v.cells[i]?=J (.ak B xs)->¬(q=r/\i=j)->cK K β a w q i=J E->eG E=J G->G≠b0:=by intro q i B xs E G N o hn p y f;have:=(h.ak q i B xs E G N o p y).1;grind
 have H9:∀(v:aL),bQ (aS K β Z s a w) v (s r).v->(∀u,(ey v)[j]?=J u->u=u0)->bQ (aS K β Z' s' a w) v ((s r).v.setCell j c'):=λv hv hu=>bQ.setCell (bQ.mono (λc u _=>m c u) hv) λu VO=>by grind
 refine⟨⟨h.size,h.defers,h.os,h.tape,h.output,h.base,h.frame,?_,λb f=>F b (h.lV b f),?_,?_,?_,?_,?_,?_,?_,h.n5⟩,X,?_⟩;intro b f;rcases(hZ b).1 f with f|⟨_,rfl⟩
 exact h.dp b f;exact hlt;intro b f;rcases(hZ b).1 f with f|⟨_,rfl⟩
 rcases h.ng b f with g|g|g|⟨i,j',B,ys',E,g1,g2,g3⟩
 exact .inl g;exact .inr (.inl g);grind;grind [aO.isArg];grind;intro t;rw[n];split;rename_i ht;have ht':(s (.tmp t)).v=(s r).v:=by rw[ht]
 refine H9 _ (ht'▸h.tmps t) λu hu=>?_;grind [cK];exact bQ.mono (λc u _=>m c u) (h.tmps t);intro i;rw[n,aU (by grind [aO.isArg])];exact bQ.mono (λc u _=>m c u) (h.args i);intro k;have f:=h.aI k;rw[n];split;rename_i hk;subst hk;cases hv:(s (.box k)).v with
 |agg cs=>let⟨b,ws,el,lo,V,g1,g2,g3,g4,g5⟩:=eh.cell h hv;refine⟨b,ws,el,lo,V,g1,?_,g3,g4,?_⟩;rw[H b];exact g2;grind;refine aR.set (g5.mono λu c=>m c u) λu hu=>?_;grind [nh]
 |one c=>rw[hv]at f;exact aaY f|bw x=>rw[hv]at f;exact aaY f|undef=>simp_all [SV.cells]
 cases hv:(s (.box k)).v with
 |agg cs=>let⟨b,ws,el,lo,V,g1,g2,g3,g4,g5⟩:=eh.cell h hv;refine⟨b,ws,el,lo,V,g1,?_,g3,g4,g5.mono λu c=>m c u⟩;rw[H b];exact g2;grind
 |one c=>rw[hv]at f;exact aaY f|bw x=>rw[hv]at f;exact aaY f|undef=>rw[hv]at f;exact f
 intro q i B xs E G N o p y;let⟨g1,g2⟩:=l q i B xs o;let⟨g3,g4⟩:=h.ak q i B xs E G N g1 p y;grind;intro i j' B xs E G o p y;exact h.iL i j' B xs E G (l _ _ _ _ o).1 p y;intro b g f;by_cases hbb:b=b0;grind;rw[H b hbb]at f;let⟨g1,g2,g3⟩:=h.dV b g f;grind;intro q i B xs E G N o p y;grind
end
section
variable{K:de}{β:aD->Option Nat}{ω:Nat->Option cT}{Z:Nat->Prop}{s:St}{a:Act}{w:World}
def aZ.jW(h:aZ K β ω Z s a w){t:Nat}(ht:t<K.N){u:aL}{v:SV}(hv:bQ (aS K β Z s a w) u v) (ho:∀(j e:Nat)(xs:M (M D))(p:aL)(b:Nat),v.cells[j]?=J (.ak e xs)->(ey u)[j]?=J p->eG p=J b->ω b=J (.tmp t,J j)/\mD w e p):aZ K β ω Z (s.set (.tmp t) {hv:=(s (.tmp t)).hv+1,cv:=(s (.tmp t)).cv,v}) (a.put (J t) u) w:=by
 generalize m:s.set (.tmp t) {hv:=(s (.tmp t)).hv+1,cv:=(s (.tmp t)).cv,v}=s';have d:∀q,(s' q).v=if q=.tmp t then v else(s q).v:=λq=>by rw[<-m];exact C2 ..
 have A:∀n,(a.put (J t) u).tmps.getD n undef=if n=t then u else a.tmps.getD n undef:=by intro n;simp only[Act.put,Array.getD_eq_getD_getElem?,Array.getElem?_setIfInBounds];grind [aZ.size]
 have o:∀r j,r≠.tmp t->cK K β (a.put (J t) u) w r j=cK K β a w r j:=by
  intro r j F;cases r with|tmp n=>simp_all [cK]|box k=>rfl|bP i=>rfl
 have B:∀q,gL (s q) (s' q):=by intro q;by_cases y:q=.tmp t;subst y;rw[<-m,lN];exact gL.bump rfl rfl;rw[<-m,lO _ _ y];exact gL.refl _
 have f:∀(c:C)(x:aL),aS K β Z s a w c x->aS K β Z s' (a.put (J t) u) w c x:=λc x G=>aS.step (λ_ _ h=>h) (λb l=>⟨rfl,l⟩) B (λr j F _=>by by_cases y:r=.tmp t;subst y;rw[<-m,lN]at F;simp at F;exact o r j y) (λ_ _ _ _ _=>rfl) G;refine⟨by simpa[Act.put]using h.size,h.defers,h.os,h.tape,h.output,h.base,h.frame,h.dp,h.lV,?_,?_,?_,?_,?_,?_,h.dV,h.n5⟩;intro b l;rcases h.ng b l with g|g|g|⟨i,j',H,T,u',P,R,S⟩
 exact .inl g;exact .inr (.inl g);grind;grind;intro n;rw[d,A];by_cases e:n=t;grind [bQ.mono];rw[aU e,aU (by simpa using e)];exact bQ.mono (λc x _=>f c x) (h.tmps n);intro i;rw[d,aU (by simp)];exact bQ.mono (λc x _=>f c x) (h.args i);intro k;rw[d,aU (by simp)];have l:=h.aI k;cases hv:(s (.box k)).v with
 |agg cs=>let⟨b,ws,el,V,X,P,R,S,Y,g5⟩:=eh.cell h hv;exact⟨b,ws,el,V,X,P,R,S,Y,g5.mono λu c=>f c u⟩
 |one c=>rw[hv]at l;exact l.elim|bw x=>rw[hv]at l;exact l.elim|undef=>rw[hv]at l;exact l
 intro q i e xs p b y z E l;rw[d]at z;by_cases H:q=.tmp t;grind [cK];rw[aU H]at z;rw[o q i H]at E;exact h.ak q i e xs p b y z E l;intro i j e xs p b z E l;rw[d,aU (by simp)]at z;exact h.iL i j e xs p b z E l
def aZ.ag4(h:aZ K β ω Z s a w){i j e:Nat}{ys:M (M D)}(hc:(s (.bP i)).at j=.ak e ys){u0:aL}{A:Nat}(hh:(ey (K.argv.getD i undef))[j]?=J u0)(F:eG u0=J A):aZ K β ω (λb=>Z b\/(b=A/\Live u0)) (s.set (.bP i) {s (.bP i)with v:=(s (.bP i)).v.setCell j (.d (.sl e ys))}) a w/\dC K β a ω Z s w ω (λb=>Z b\/(b=A/\Live u0)) (s.set (.bP i) {s (.bP i)with v:=(s (.bP i)).v.setCell j (.d (.sl e ys))}) w:=by
 have n:=iY hc (by simp);let⟨u,G,T⟩:=h.cell n;simp only[cK]at G;rw[hh]at G;cases G;let⟨V,hE⟩:=h.iL i j e ys u0 A n hh F;generalize H:s.set (.bP i) {s (.bP i)with v:=(s (.bP i)).v.setCell j (.d (.sl e ys))}=s';have o:∀q,(s' q).v=if q=.bP i then(s (.bP i)).v.setCell j (.d (.sl e ys))else(s q).v:=λq=>by rw[<-H];exact C2 ..
 have ayI:ω A=O:=by
  cases hω:ω A with|none=>rfl|some g=>exact cJ ((h.dV _ _ hω).2.2 V) hE
 have f:∀(q:aO)(l e:Nat)(xs:M (M D)),(s' q).v.cells[l]?=J (.ak e xs)->(s q).v.cells[l]?=J (.ak e xs):=by grind [H8]
 have B:∀q,gL (s q) (s' q):=by intro q;by_cases R:q=.bP i;subst R;rw[<-H,lN];refine⟨Nat.le_refl _,Nat.le_refl _,λ_ l hl=>?_⟩;simp only[RV.at,rm,jH,zO]at hl ⊢;by_cases X:j=l;subst X;have Y:j<(s (.bP i)).v.cells.length:=(ik.1 n).1;simp only[bH,Y,Option.getD_some];exact .inr (.inl ⟨e,ys,by rw[n];rfl,rfl⟩);simp only[X,ca];exact .inl rfl;rw[<-H,lO _ _ R];exact gL.refl _
 have hfr:∀b,b<w.heap.size->lg K β s a w b->ω b=ω b/\lg K β s' a w b:=λb _ hf=>⟨rfl,λq l E xs S b' R r y z=>hf q l E xs S b' R (f q l E xs r) y z⟩;have N:dC K β a ω Z s w ω (λb=>Z b\/(b=A/\Live u0)) s' w:=⟨λb m=>.inl m,λ_ _=>rfl,Nat.le_refl _,B,λ_ _=>rfl,hfr⟩;have p:∀(c:C)(u:aL),aS K β Z s a w c u->aS K β (λb=>Z b\/(b=A/\Live u0)) s' a w c u:=λc u ro=>aS.step (λ_ _ h=>h) (λb m=>⟨rfl,.inl m⟩) B (λ_ _ _ _=>rfl) (λ_ _ _ _ _=>rfl) ro;have hnew:aS K β (λb=>Z b\/(b=A/\Live u0)) s' a w (.d (.sl e ys)) u0:=by
  show bA w (λb=>Z b\/(b=A/\Live u0)) (.sl e ys) u0;by_cases he:cf e=W;grind [aS.ku,lS,bA.nY,VL];have he:cf e=I:=by simpa using he
  obtain⟨ad,cap,rfl,hsp,hle,P⟩:=(aS.jg he).1 T;simp only[eG,Option.some.injEq]at F;subst F;exact(bA.hY he).2 ⟨ad,cap,rfl,(Nat.eq_zero_or_pos cap).imp id λhc=>⟨hsp,.inr ⟨rfl,Nat.ne_of_gt hc⟩⟩,hle,dt.mono (λb m=>⟨rfl,.inl m⟩) e ys _ _ rfl P⟩
 refine⟨⟨h.size,h.defers,h.os,h.tape,h.output,h.base,h.frame,?_,λb m=>.inl (h.lV b m),?_,?_,?_,?_,?_,?_,?_,h.n5⟩,N⟩;rintro b (m|⟨rfl,hcap⟩);exact h.dp b m;exact Nat.lt_of_lt_of_le V h.base;rintro b (m|⟨rfl,hcap⟩);rcases h.ng b m with g|g|g|⟨i',j',E,ys',S,g1,g2,g3⟩
 exact .inl g;exact .inr (.inl g);grind;grind [rm];grind [rm];intro t;rw[o,aU (by simp)];exact bQ.mono (λc u _=>p c u) (h.tmps t);intro i';rw[o];split;rename_i hi;cases hi;refine bQ.setCell (bQ.mono (λc u _=>p c u) (h.args i)) λu hu=>?_;grind;exact bQ.mono (λc u _=>p c u) (h.args i');intro k;have m:=h.aI k;rw[o,aU (by simp)];cases hv:(s (.box k)).v with
 |agg cs=>let⟨b,ws,el,lo,hi,g1,g2,g3,g4,g5⟩:=eh.cell h hv;exact⟨b,ws,el,lo,hi,g1,g2,g3,g4,g5.mono λu c=>p c u⟩
 |one c=>rw[hv]at m;exact aaY m|bw x=>rw[hv]at m;exact aaY m|undef=>rw[hv]at m;exact m
 intro q l E xs S b' R r y z;exact h.ak q l E xs S b' R (f q l E xs r) y z;intro i' j' E xs S b' r y z;exact h.iL i' j' E xs S b' (f _ _ _ _ r) y z;intro b g m;let⟨g1,g2,g3⟩:=h.dV b g m;grind
def aZ.N2(h:aZ K β ω Z s a w){w':World}(e:∀b,b<w.heap.size->w'.heap[b]?=w.heap[b]?)(r:aO)(j:Nat):cK K β a w' r j=cK K β a w r j:=by
 cases r with
 |tmp t=>rfl|bP i=>rfl|box k=>
  have d:=h.aI k;cases hv:(s (.box k)).v with|agg cs=>grind [eh.cell,cK,cell_of_heap]|one c=>rw[hv]at d;exact aaY d|bw x=>rw[hv]at d;exact aaY d|undef=>rw[hv]at d;simp only[eh]at d;simp[cK,d]
theorem aZ.grow(h:aZ K β ω Z s a w){w':World}(d:∀b,b<w.heap.size->w'.heap[b]?=w.heap[b]?)(n:w.heap.size<=w'.heap.size)(S:w'.os=w.os)(D:acL w'=acL w)(F:acB w'=acB w) {ω':Nat->Option cT}(G:∀b,b<w.heap.size->ω' b=ω b)(H:∀b g,w.heap.size<=b->ω' b=J g->b<w'.heap.size):aZ K β ω' Z s a w'/\dC K β a ω Z s w ω' Z s w':=by
 have B:=h.N2 d;have T:∀b,b<w.heap.size->lg K β s a w b->ω' b=ω b/\lg K β s a w' b:=λb f hf=>⟨G b f,λq l e' xs P V X Y hh1 z=>hf q l e' xs P V X Y (by grind) z⟩;have p:dC K β a ω Z s w ω' Z s w':=⟨λb f=>f,d,n,λ_=>gL.refl _,B,T⟩;have m:∀(r:aO)(j:Nat)(c:C)(u:aL),(s r).v.cells[j]?=J c->cK K β a w r j=J u->aS K β Z s a w c u->aS K β Z s a w' c u:=by
  intro r j c u y A ro;refine p.li h.dp (λe xs b h1 h2=>?_) ro;subst h1;by_cases hr:r.isArg=W;cases r with|bP i=>exact Nat.lt_of_lt_of_le (h.iL i j e xs u b y A h2).1 h.base|tmp t=>simp[aO.isArg]at hr|box k=>simp[aO.isArg]at hr
  exact(h.dV _ _ (h.ak r j e xs u b (by simpa using hr) y A h2).1).2.1
 refine⟨⟨h.size,h.defers,aav S h.os,aav D h.tape,aav F h.output,Nat.le_trans h.base n,?_,λb f=>Nat.lt_of_lt_of_le (h.dp b f) n,h.lV,h.ng,?_,?_,?_,?_,h.iL,?_,h.n5⟩,p⟩;intro b f hE;rw[d b (Nat.lt_of_lt_of_le f h.base)];exact h.frame b f hE;intro t;exact bQ.nZ (λj c u y A=>m (.tmp t) j c u y A) (h.tmps t);intro i;exact bQ.nZ (λj c u y A=>m (.bP i) j c u y A) (h.args i);intro k;have f:=h.aI k;cases hv:(s (.box k)).v with
 |agg cs=>let⟨b,ws,el,lo,hi,N,R,g3,g4,g5⟩:=eh.cell h hv;have o:=(h.dV _ _ R).2.1;refine⟨b,ws,el,lo,hi,N,by grind,by grind,g4,aR.dU g5.length λj u c A y=>?_⟩;let⟨P,h1,h2⟩:=g5.aG y;rw[A]at h1;cases h1;exact m (.box k) j c u (by rw[hv];exact y) (by rw[nh N g3];exact A) h2
 |one c=>rw[hv]at f;exact aaY f|bw x=>rw[hv]at f;exact aaY f|undef=>rw[hv]at f;exact f
 intro q i e xs P V X y hh z;rw[B]at hh;let⟨N,R⟩:=h.ak q i e xs P V X y hh z;have o:=(h.dV _ _ N).2.1;exact⟨by grind,R.mono z (d _ o)⟩;intro b g f;by_cases o:b<w.heap.size;rw[G b o]at f;let⟨N,R,g3⟩:=h.dV b g f;grind;exact⟨λhz=>o (h.dp b hz),H b g (by omega) f,λE=>cJ (Nat.lt_of_lt_of_le E h.base) o⟩
def aZ.newObj(h:aZ K β ω Z s a w)(o:Obj)(g:cT):aZ K β (λb=>if b=w.heap.size then J g else ω b) Z s a (abK w o)/\dC K β a ω Z s w (λb=>if b=w.heap.size then J g else ω b) Z s (abK w o)/\lg K β s a (abK w o) w.heap.size/\(abK w o).heap[w.heap.size]?=J o:=by
 have c:∀b,b<w.heap.size->(abK w o).heap[b]?=w.heap[b]? :=λb e=>by show(w.heap.push _)[b]?=_;grind
 let⟨h1,h2⟩:=h.grow (w':=abK w o) (ω':=λb=>if b=w.heap.size then J g else ω b) c (by simp) rfl rfl rfl (λb e=>by simp[Nat.ne_of_lt e]) (λb t e k=>by simp only[World.size_alloc];by_cases f:b=w.heap.size;omega;rw[aU f]at k;have:=(h.dV b _ k).2.1;omega);refine⟨h1,h2,?_,?_⟩;intro q l m xs n p r i d j e;rw[h.N2 c]at d;have:=(h.dV _ _ (h.ak q l m xs n p r i d j).1).2.1;omega;show(w.heap.push _)[w.heap.size]?=_;simp
def aZ.alloc(h:aZ K β ω Z s a w)(cs:bZ aL)(el:bv)(g:cT):aZ K β (λb=>if b=w.heap.size then J g else ω b) Z s a (abK w (.cells cs el))/\dC K β a ω Z s w (λb=>if b=w.heap.size then J g else ω b) Z s (abK w (.cells cs el))/\lg K β s a (abK w (.cells cs el)) w.heap.size/\(abK w (.cells cs el)).heap[w.heap.size]?=J (.cells cs el (0,0)):=h.newObj _ g
def aZ.drew(h:aZ K β ω Z s a w):aZ K β ω Z s a {w with drawn:=acK w+1}/\dC K β a ω Z s w ω Z s {w with drawn:=acK w+1}:=h.grow (w':={w with drawn:=acK w+1}) (ω':=ω) (λ_ _=>rfl) (Nat.le_refl _) rfl rfl rfl (λ_ _=>rfl) (λb g d c=>by have:=(h.dV b g c).2.1;omega)
end
theorem xI(b o n:Nat):Addr.add ⟨b,o,O⟩ n=⟨b,o+n,O⟩:=by simp_all [Addr.add]
theorem rp{a:eu}(h:a.spot=O)(n:Nat):a.add n=⟨abX a,a.off+n,O⟩:=by let⟨b,o,c⟩:=a;simp_all [xI]
def run_loadCellsFrom{P:er}{w:World}{b o:Nat}{ws:bZ aL}{el:bv}{fz:Nat×Nat}(d:w.heap[b]?=J (.cells ws el fz)):∀(n i:Nat)(acc:bZ aL),o+i+n<=ws.size->(loadCellsFrom ⟨b,o,O⟩ i n acc).run P w=.ok (acc++(ws.extract (o+i) (o+i+n))) w:=by
 intro n;induction n with
 |zero=>simp_all [loadCellsFrom]|succ n a=>
  intro i acc h;have c:T w ⟨b,o+i,O⟩=J ws[o+i]:=by grind [World.cell?]
  simp only[loadCellsFrom,dB,xI,load,Sem.run,c,dE];rw[a (i+1) _ (by omega)];congr 1;grind
def N3{P:er}{w:World}{b o n:Nat}{ws:bZ aL}{el:bv}{fz:Nat×Nat}(a:w.heap[b]?=J (.cells ws el fz))(h:o+n<=ws.size):(loadCells ⟨b,o,O⟩ n).run P w=.ok (ws.extract o (o+n)) w:=by have:=run_loadCellsFrom (P:=P) a n 0 #[] (by omega);simpa[loadCells]using this
structure C3(w w':World)(b:Nat)(ws iq:Array Value)(el:TypeId)(fz:Nat×Nat):Prop where
 os:w'.os=w.os
 tape:acL w'=acL w
 output:acB w'=acB w
 size:w'.heap.size=w.heap.size
 other:∀c,c≠b->w'.heap[c]?=w.heap[c]?
 here:w'.heap[b]?=some (.cells iq el fz)
 len:iq.size=ws.size
def mE{w:World}{b o:Nat}{v:aL}{ws:bZ aL}{el:bv}{fz:Nat×Nat}(a:w.heap[b]?=J (.cells ws el fz)):(ab5 w ⟨b,o,O⟩ v).heap[b]?=J (.cells (abW ws o v) el fz)/\∀c,c≠b->(ab5 w ⟨b,o,O⟩ v).heap[c]?=w.heap[c]? :=by simp_all [World.setCell,Array.getElem?_modify,Ne.symm]
theorem VP{l:M aL}{o:Nat}{v:aL}{vs:M aL}(h:o<l.length):eF (l.set o v) (o+1) vs=eF l o (v::vs):=by
 have h1:(l.set o v).take (o+1)=l.take o++[v]:=by rw[List.take_set,List.take_succ_eq_append_getElem h,List.set_append_right _ _ (by simp;omega)];simp[Nat.min_eq_left (Nat.le_of_lt h)]
 grind [eF,List.drop_set_of_lt]
def N4{P:er}{b o:Nat}{el:bv}{lo hi:Nat}:∀(vs:M aL)(i:Nat)(w:World)(ws:bZ aL),w.heap[b]?=J (.cells ws el (lo,hi))->(∀x,x<ws.size->¬(lo<=x/\x<hi))->o+i+Y vs<=ws.size->(∀v∈vs,gU v=W)->∃w' iq,(storeCells ⟨b,o,O⟩ vs i).run P w=.ok () w'/\C3 w w' b ws iq el (lo,hi)/\V iq=eF (V ws) (o+i) vs:=by
 intro vs;induction vs with
 |nil=>intro i w ws e h j hv;exact⟨w,ws,by simp[storeCells],⟨rfl,rfl,rfl,rfl,λ_ _=>rfl,e,rfl⟩,by simp[eF]⟩
 |cons v vs l=>
  intro i w ws e h j hv;simp only[kL]at j;have f:o+i<ws.size:=by omega
  have g:T w ⟨b,o+i,O⟩=J ws[o+i]:=by simp[World.cell?,e,Array.getElem?_eq_getElem f]
  have m:w.frozen? ⟨b,o+i,O⟩=I:=by simp_all [World.frozen?]
  have k:=hv v (kJ ..);have a:(store ⟨b,o+i,O⟩ v).run P w=.ok () (ab5 w ⟨b,o+i,O⟩ v):=by cases v<;>simp_all [store,Sem.run,gU]
  let⟨h1,h2⟩:=mE (w:=w) (v:=v) (o:=o+i) e;let⟨w',iq,n,d,q⟩:=l (i+1) (ab5 w ⟨b,o+i,O⟩ v) (abW ws (o+i) v) h1 (by simpa using h) (by simp;omega) (λx p=>hv x (jr _ p));refine⟨w',iq,?_,⟨d.os,d.tape,d.output,by rw[d.size];simp[World.setCell],λc g=>aav (d.other c g) (h2 c g),d.here,by rw[d.len];simp⟩,?_⟩;simp only[storeCells,dB,xI,a,dE];exact n;grind [VP]
section
variable{K:de}{β:aD->Option Nat}{ω:Nat->Option cT}{Z:Nat->Prop}{s:St}{a:Act}{w:World}
def aZ.ayJ(h:aZ K β ω Z s a w){k k':aD}{b d:Nat}(i:β k=J b)(f:ω b=J (.box k,O))(hk:k'≠k)(g:β k'=J d):d≠b:=by
 intro e;subst e;have:=h.aI k';cases hv:(s (.box k')).v with|agg cs=>grind [eh.cell]|one c=>rw[hv]at this;exact aaY this|bw x=>rw[hv]at this;exact aaY this|undef=>rw[hv]at this;simp only[eh]at this;grind
def aZ.N5(h:aZ K β ω Z s a w){k:aD}{b:Nat}{ws:bZ aL}{el:bv}{lo hi:Nat}{w':World}{cs:M C} (hω:ω b=J (.box k,O))(VQ:β k=O\/β k=J b) (hos:w'.os=w.os)(T:acL w'=acL w)(hout:acB w'=acB w)(z:w'.heap.size=w.heap.size)(d:∀c,c≠b->w'.heap[c]?=w.heap[c]?) (F:w'.heap[b]?=J (.cells ws el (lo,hi)))(hfz:∀o,o<ws.size->¬(lo<=o/\o<hi)) (hcs:aR (λu c=>aS K β Z s a w c u) ws.toList cs) (V:∀(j e:Nat)(xs:M (M D))(E:aL)(m:Nat),cs[j]?=J (.ak e xs)->ws.toList[j]?=J E->eG E=J m->ω m=J (.box k,J j)/\mD w e E):aZ K (λk'=>if k'=k then J b else β k') ω Z (s.set (.box k) {hv:=(s (.box k)).hv+1,cv:=(s (.box k)).cv,v:=.agg cs}) a w'/\
  (∀(c:C)(u:aL),(∀(e:Nat)(xs:M (M D))(m:Nat),c=.ak e xs->eG u=J m->m≠b)->aS K β Z s a w c u->
    aS K (λk'=>if k'=k then J b else β k') Z (s.set (.box k) {hv:=(s (.box k)).hv+1,cv:=(s (.box k)).cv,v:=.agg cs}) a w' c u):=by
 generalize P:s.set (.box k) {hv:=(s (.box k)).hv+1,cv:=(s (.box k)).cv,v:=.agg cs}=s'
 generalize VS:(λk'=>if k'=k then J b else β k')=B
 have R:B k=J b:=by rw[<-VS];simp
 have C4:∀k',k'≠k->B k'=β k':=λk' hk=>by grind
 have f:∀q,(s' q).v=if q=.box k then .agg cs else(s q).v:=λq=>by rw[<-P];exact C2 ..
 let⟨hnz,hlt,hE⟩:=h.dV _ _ hω
 have ayK:∀k' b',k'≠k->β k'=J b'->b'≠b:=by
  intro k' b' hk l e;subst e;have:=h.aI k';cases hv:(s (.box k')).v with|agg cs'=>grind [eh.cell]|one c=>rw[hv]at this;exact aaY this|bw x=>rw[hv]at this;exact aaY this|undef=>rw[hv]at this;simp only[eh]at this;grind
 have S:∀r j,r≠.box k->cK K B a w' r j=cK K β a w r j:=by
  intro r j hr;cases r with
  |tmp t=>rfl|bP i=>rfl|box k'=>
   have hk:k'≠k:=λe=>hr (by rw[e]);simp only[cK,C4 k' hk];cases l:β k' with|none=>rfl|some b'=>grind [cell_of_heap]
 have N6:∀q,gL (s q) (s' q):=by intro q;by_cases X:q=.box k;subst X;rw[<-P,lN];exact gL.bump rfl rfl;rw[<-P,lO _ _ X];exact gL.refl _
 have y:∀k' b',β k'=J b'->B k'=J b':=by grind
 have G:∀(c:C)(u:aL),(∀(e:Nat)(xs:M (M D))(m:Nat),c=.ak e xs->eG u=J m->m≠b)->aS K β Z s a w c u->aS K B Z s' a w' c u:=λc u ro h1=>
  aS.step y (λb' l=>⟨d b' (λe=>hnz (e▸l)),l⟩) N6 (λr j hr _=>by
   by_cases X:r=.box k
   subst X;rw[<-P,lN]at hr;simp at hr
   exact S r j X) (λe xs m h2 h3=>d _ (ro e xs m h2 h3)) h1
 have p:∀(r:aO)(j:Nat)(c:C)(u:aL),r≠.box k->(s r).v.cells[j]?=J c->cK K β a w r j=J u->aS K β Z s a w c u->aS K B Z s' a w' c u:=by
  intro r j c u hr n N;refine G c u λe xs m h1 h2 Y=>?_;subst h1;by_cases qe:r.isArg=W;cases r with
  |bP i=>let⟨g1,g2⟩:=h.iL i j e xs u m n N h2;grind
  |tmp t=>simp[aO.isArg]at qe|box k=>simp[aO.isArg]at qe
  have:=(h.ak r j e xs u m (by simpa using qe) n N h2).1;grind
 have H:∀(j e:Nat)(xs:M (M D))(E:aL)(m:Nat),cs[j]?=J (.ak e xs)->ws.toList[j]?=J E->eG E=J m->m≠b:=by grind
 refine⟨⟨h.size,h.defers,aav hos h.os,aav T h.tape,aav hout h.output,by rw[z];exact h.base,?_,λb' l=>by rw[z];exact h.dp b' l,h.lV,?_,?_,?_,?_,?_,?_,?_,λk' b' l=>y k' b' (h.n5 k' b' l)⟩,G⟩
 intro b' l N7
 rw[d b' (λe=>by grind)]
 exact h.frame b' l N7
 intro b' l
 rcases h.ng b' l with g|g|g|⟨i,j',e',ys',u',g1,g2,g3⟩
 exact .inl g
 exact .inr (.inl g)
 grind
 grind
 intro t
 rw[f,aU (by simp)]
 exact bQ.nZ (λj c u n N=>p (.tmp t) j c u (by simp) n N) (h.tmps t)
 intro i
 rw[f,aU (by simp)]
 exact bQ.nZ (λj c u n N=>p (.bP i) j c u (by simp) n N) (h.args i)
 intro k'
 rw[f]
 by_cases hk:k'=k
 subst hk
 rw[aF rfl]
 refine⟨b,ws,el,lo,hi,R,hω,F,hfz,aR.dU hcs.length λj u c N n=>?_⟩
 let⟨u',h1,h2⟩:=hcs.aG n
 grind
 rw[aU (by simpa using hk)]
 have Y:=h.aI k'
 cases hv:(s (.box k')).v with
 |agg cs'=>let⟨b2,Ar,C5,C6,hi2,g1,g2,g3,g4,g5⟩:=eh.cell h hv;refine⟨b2,Ar,C5,C6,hi2,by grind,g2,by grind,g4,aR.dU g5.length λj u c N n=>?_⟩;let⟨u',h1,h2⟩:=g5.aG n;rw[N]at h1;cases h1;exact p (.box k') j c u (by simpa using hk) (by rw[hv];exact n) (by rw[nh g1 g3];exact N) h2
 |one c=>rw[hv]at Y;exact aaY Y|bw x=>rw[hv]at Y;exact aaY Y|undef=>rw[hv]at Y;simp only[eh]at Y ⊢;grind
 intro q i e xs E m X n hh A
 rw[f]at n
 by_cases hqk:q=.box k
 subst hqk
 rw[aF rfl]at n
 rw[nh R F]at hh
 let⟨g1,g2⟩:=V i e xs E m n hh A
 exact⟨g1,g2.mono A (d _ (H i e xs E m n hh A))⟩
 rw[aU hqk]at n
 rw[S q i hqk]at hh
 let⟨g1,g2⟩:=h.ak q i e xs E m X n hh A
 exact⟨g1,g2.mono A (d _ (λe=>by grind))⟩
 intro i j e xs E m n hh A
 rw[f,aU (by simp)]at n
 exact h.iL i j e xs E m n hh A
 intro b' g l
 rw[z]
 exact h.dV b' g l
structure Ia(w w':World)(b:Nat):Prop where
 os:w'.os=w.os
 tape:acL w'=acL w
 output:acB w'=acB w
 size:w'.heap.size=w.heap.size
 other:∀c,c≠b->w'.heap[c]?=w.heap[c]?
def C3.chg{w w':World}{b:Nat}{ws iq:bZ aL}{el:bv}{fz:Nat×Nat}(h:C3 w w' b ws iq el fz):Ia w w' b:=⟨h.os,h.tape,h.output,h.size,h.other⟩
def aZ.VU(h:aZ K β ω Z s a w){r:aO}{j e:Nat}{ys ys':M (M D)}(hc:(s r).at j=.ak e ys)(hr:r.isArg=I){u0:aL}{b0:Nat}(hh:cK K β a w r j=J u0)(hb0:eG u0=J b0) {w':World}(B:Ia w w' b0)(ayL:mD w' e u0) (hnew:∀(s':St),aS K β Z s' a w' (.ak e ys') u0):aZ K β ω Z (s.set r {s r with cv:=(s r).cv+1,v:=(s r).v.setCell j (.ak e ys')}) a w':=by
 have p:=iY hc (by simp);let⟨Im,hwr⟩:=h.ak r j e ys u0 b0 hr p hh hb0;let⟨hnz,hlt,hE⟩:=h.dV _ _ Im;generalize X:s.set r {s r with cv:=(s r).cv+1,v:=(s r).v.setCell j (.ak e ys')}=s';have d:∀q,(s' q).v=if q=r then(s r).v.setCell j (.ak e ys')else(s q).v:=λq=>by rw[<-X];exact C2 ..
 have l:∀(q:aO)(i F:Nat)(xs:M (M D)),(s' q).v.cells[i]?=J (.ak F xs)->(q=r/\i=j/\F=e/\xs=ys')\/((s q).v.cells[i]?=J (.ak F xs)/\¬(q=r/\i=j)):=by grind [H8]
 have N6:∀q,gL (s q) (s' q):=by intro q;by_cases y:q=r;subst y;rw[<-X,lN];refine⟨Nat.le_refl _,by simp,λ_ i hi=>?_⟩;simp only[RV.at,rm,jH,zO]at hi ⊢;by_cases hij:j=i;subst hij;have hl:j<(s q).v.cells.length:=(ik.1 p).1;simp only[bH,hl,Option.getD_some];exact .inr (.inr ⟨by omega,e,ys,ys',by rw[p];rfl,.inl rfl⟩);simp only[hij,ca];exact .inl rfl;rw[<-X,lO _ _ y];exact gL.refl _
 have m:∀k' f,β k'=J f->f≠b0:=by
  intro k' f b e;subst e;have:=h.aI k';cases hv:(s (.box k')).v with|agg G=>grind [eh.cell]|one c=>rw[hv]at this;exact aaY this|bw x=>rw[hv]at this;exact aaY this|undef=>rw[hv]at this;simp only[eh]at this;grind
 have V:∀q i,cK K β a w' q i=cK K β a w q i:=by
  intro q i;cases q with
  |tmp t=>rfl|bP i=>rfl|box k'=>
   simp only[cK];cases b:β k' with|none=>rfl|some f=>simp only[Option.bind_some];exact cell_of_heap (B.other f (m k' f b)) _ _
 have VV:∀(c:C)(u:aL),(∀(e:Nat)(xs:M (M D))(H:Nat),c=.ak e xs->eG u=J H->H≠b0)->aS K β Z s a w c u->aS K β Z s' a w' c u:=λc u ro h1=>aS.step (λ_ _ h=>h) (λf b=>⟨B.other f (λe=>hnz (e▸b)),b⟩) N6 (λq i _ _=>V q i) (λe xs H h2 h3=>B.other _ (ro e xs H h2 h3)) h1;have N:∀(q:aO)(i e':Nat)(xs:M (M D))(u':aL)(f:Nat),(s q).v.cells[i]?=J (.ak e' xs)->¬(q=r/\i=j)->cK K β a w q i=J u'->eG u'=J f->f≠b0:=by
  intro q i e' xs u' f A hn n o Y;by_cases y:q.isArg=W;cases q with
  |bP i'=>let⟨E,g2⟩:=h.iL i' i e' xs u' f A n o;grind
  |tmp t=>simp[aO.isArg]at y|box k=>simp[aO.isArg]at y
  have:=(h.ak q i e' xs u' f (by simpa using y) A n o).1;grind
 have Ib:∀(q:aO)(i:Nat)(c:C)(u:aL),¬(q=r/\i=j)->(s q).v.cells[i]?=J c->cK K β a w q i=J u->aS K β Z s a w c u->aS K β Z s' a w' c u:=by grind
 have z:∀(q:aO)(i:Nat)(c:C)(u:aL),(s' q).v.cells[i]?=J c->cK K β a w q i=J u->(∀c0,(s q).v.cells[i]?=J c0->aS K β Z s a w c0 u)->aS K β Z s' a w' c u:=by grind [H8]
 have P:∀(q:aO)(v:aL),bQ lU v (s q).v->bQ lU v (s' q).v:=by intro q v hv;rw[d];split;rename_i y;subst y;exact bQ.setCell hv λ_ _=>trivial;exact hv
 have hlenc:∀q,(s' q).v.cells.length=(s q).v.cells.length:=by grind [rm]
 have R:∀q,(s' q).v≠.undef->(s q).v≠.undef:=by intro q y e;apply y;rw[d];split;rename_i N8;subst N8;rw[e];rfl;exact e
 have H9:∀(q:aO)(v:aL),(∀i,cK K β a w q i=(ey v)[i]?)->bQ (aS K β Z s a w) v (s q).v->bQ (aS K β Z s' a w') v (s' q).v:=by intro q v y hv;refine bQ.of_flat (P q v hv.shape) λhu=>?_;have hf:=hv.ey (R q hu);refine aR.dU (by rw[hf.length,hlenc]) λi u c OG hc'=>?_;refine z q i c u hc' (by rw[y];exact OG) λc0 S=>?_;let⟨u2,h1,h2⟩:=hf.aG S;grind
 refine⟨h.size,h.defers,aav B.os h.os,aav B.tape h.tape,aav B.output h.output,by rw[B.size];exact h.base,?_,λf b=>by rw[B.size];exact h.dp f b,h.lV,?_,?_,?_,?_,?_,?_,?_,h.n5⟩;intro f b N7;rw[B.other f (λe=>by grind)];exact h.frame f b N7;intro f b;rcases h.ng f b with g|g|g|⟨i,j',e',ys',u',E,g2,g3⟩
 exact .inl g;exact .inr (.inl g);grind;grind [aO.isArg];intro t;exact H9 (.tmp t) _ (λ_=>rfl) (h.tmps t);intro i;exact H9 (.bP i) _ (λ_=>rfl) (h.args i);intro k;have Y:=h.aI k;cases hv:(s (.box k)).v with
 |agg cs=>
  let⟨b2,Ar,C5,C6,hi2,E,g2,g3,g4,g5⟩:=eh.cell h hv;have T:∃G,(s' (.box k)).v=.agg G/\G.length=cs.length:=by rw[d];split;rename_i hk;rw[<-hk,hv];exact⟨_,rfl,by simp⟩;grind
  let⟨G,T,hl'⟩:=T;rw[T];refine⟨b2,Ar,C5,C6,hi2,E,g2,by rw[B.other b2 (m k b2 E)];exact g3,g4,aR.dU (by rw[g5.length,hl']) λi u c OG hc'=>?_⟩;refine z (.box k) i c u (by rw[T];exact hc') (by rw[nh E g3];exact OG) λc0 S=>?_;rw[hv]at S;let⟨u2,h1,h2⟩:=g5.aG S;grind
 |one c=>rw[hv]at Y;exact aaY Y|bw x=>rw[hv]at Y;exact aaY Y|undef=>rw[hv]at Y;rw[d];split;grind [SV.cells];rw[hv];exact Y
 intro q i F xs u1 H y A n o;rw[V]at n;rcases l q i F xs A with⟨rfl,rfl,rfl,rfl⟩|⟨E,g2⟩
 grind;let⟨f1,f2⟩:=h.ak q i F xs u1 H y E n o;exact⟨f1,f2.mono o (B.other _ (N q i F xs u1 H E g2 n o))⟩;intro i j' F xs u1 H A n o;rcases l _ _ _ _ A with⟨rfl,_⟩|⟨E,g2⟩
 simp[aO.isArg]at hr;exact h.iL i j' F xs u1 H E n o;intro f g b;rw[B.size];exact h.dV f g b
def aZ.setRow(h:aZ K β ω Z s a w){r:aO}{j e:Nat}{ys ys':M (M D)}(hm:cf e=I)(x:(s r).at j=.ak e ys)(y:r.isArg=I){d:eu}{len cap:Nat}(l:cK K β a w r j=J (.slice (J d) len cap)) {iq ws:bZ aL}{el:bv}{fz:Nat×Nat}{w':World}(i:C3 w w' d.block ws iq el fz)(hold:w.heap[abX d]?=J (.cells ws el fz))(c:Y ys'=Y ys) (f:dt w' Z e ys' d.block d.off):aZ K β ω Z (s.set r {s r with cv:=(s r).cv+1,v:=(s r).v.setCell j (.ak e ys')}) a w':=by have b:=iY x (by simp);let⟨z,m⟩:=h.ak r j e ys _ d.block y b l rfl;let⟨u,g,n⟩:=h.cell b;let⟨B,A,p,q,t,k⟩:=(aS.jg hm).1 n;rw[l]at g;cases g;cases p;refine h.VU x y l rfl i.chg ?_ λs'=>(aS.jg hm).2 ⟨d,cap,by rw[c],q,by rw[c];exact t,f⟩;let⟨cs,C,E,F,f1,f2,f3⟩:=m;rw[hold]at f1;cases f1;exact⟨iq,_,E,F,i.here,by rw[i.len];exact f2,λo G=>f3 o (by rw[<-i.len];exact G)⟩
def aZ.N9(h:aZ K β ω Z s a w){r:aO}{j e:Nat}{ys ys':M (M D)}(hm:cf e=W)(d:(s r).at j=.ak e ys)(f:r.isArg=I){b:Nat}(g:cK K β a w r j=J (gK e b)) {w':World}(i:Ia w w' b)(c:eg w' Z e ys' b):aZ K β ω Z (s.set r {s r with cv:=(s r).cv+1,v:=(s r).v.setCell j (.ak e ys')}) a w':=by exact h.VU d f g (lS ..) i (ag3 _ c) λs'=>(aS.ku hm).2 ⟨b,rfl,c⟩
def aZ.ag6(h:aZ K β ω Z s a w){b:Nat}{r0:aO}{i0:Nat}(T:ω b=J (r0,J i0))(E:lg K β s a w b){iq ws:bZ aL}{el:bv}{fz:Nat×Nat}{w':World}(r:C3 w w' b ws iq el fz):aZ K β ω Z s a w'/\lg K β s a w' b/\(∀(c:C)(u:aL),(∀(e:Nat)(xs:M (M D))(y:Nat),c=.ak e xs->eG u=J y->y≠b)->aS K β Z s a w c u->aS K β Z s a w' c u)/\(∀q i,cK K β a w' q i=cK K β a w q i):=by
 let⟨V,hlt,hE⟩:=h.dV _ _ T;have m:∀k' f,β k'=J f->f≠b:=by
  intro k' f d e;subst e;have:=h.aI k';cases hv:(s (.box k')).v with|agg cs'=>grind [eh.cell]|one c=>rw[hv]at this;exact aaY this|bw x=>rw[hv]at this;exact aaY this|undef=>rw[hv]at this;simp only[eh]at this;grind
 have z:∀q i,cK K β a w' q i=cK K β a w q i:=by
  intro q i;cases q with
  |tmp t=>rfl|bP i=>rfl|box k'=>
   simp only[cK];cases d:β k' with|none=>rfl|some f=>simp only[Option.bind_some];exact cell_of_heap (r.other f (m k' f d)) _ _
 have F:∀(c:C)(u:aL),(∀(e:Nat)(xs:M (M D))(y:Nat),c=.ak e xs->eG u=J y->y≠b)->aS K β Z s a w c u->aS K β Z s a w' c u:=λc u X h1=>aS.step (λ_ _ h=>h) (λf d=>⟨r.other f (λe=>V (e▸d)),d⟩) (λ_=>gL.refl _) (λq i _ _=>z q i) (λe xs y h2 h3=>r.other _ (X e xs y h2 h3)) h1;have A:∀(q:aO)(i R:Nat)(xs:M (M D))(G:aL)(f:Nat),(s q).v.cells[i]?=J (.ak R xs)->cK K β a w q i=J G->eG G=J f->f≠b:=by
  intro q i R xs G f p n o B;by_cases H:q.isArg=W;cases q with
  |bP i'=>let⟨S,g2⟩:=h.iL i' i R xs G f p n o;grind
  |tmp t=>simp[aO.isArg]at H|box k=>simp[aO.isArg]at H
  exact E q i R xs G f (by simpa using H) p n o B
 have l:∀(q:aO)(i:Nat)(c:C)(u:aL),(s q).v.cells[i]?=J c->cK K β a w q i=J u->aS K β Z s a w c u->aS K β Z s a w' c u:=by grind
 refine⟨⟨h.size,h.defers,aav r.os h.os,aav r.tape h.tape,aav r.output h.output,by rw[r.size];exact h.base,?_,λf d=>by rw[r.size];exact h.dp f d,h.lV,h.ng,?_,?_,?_,?_,h.iL,?_,h.n5⟩,?_,F,z⟩;intro f d Y;rw[r.other f (λe=>by grind)];exact h.frame f d Y;intro t;exact bQ.nZ (λj c u N P=>l (.tmp t) j c u N P) (h.tmps t);intro i;exact bQ.nZ (λj c u N P=>l (.bP i) j c u N P) (h.args i);intro k;have B:=h.aI k;cases hv:(s (.box k)).v with
 |agg cs=>let⟨b2,Ar,C5,C6,hi2,S,g2,g3,g4,g5⟩:=eh.cell h hv;refine⟨b2,Ar,C5,C6,hi2,S,g2,by rw[r.other b2 (m k b2 S)];exact g3,g4,aR.dU g5.length λj u c P N=>?_⟩;let⟨G,h1,h2⟩:=g5.aG N;rw[P]at h1;cases h1;exact l (.box k) j c u (by rw[hv];exact N) (by rw[nh S g3];exact P) h2
 |one c=>rw[hv]at B;exact aaY B|bw x=>rw[hv]at B;exact aaY B|undef=>rw[hv]at B;exact B
 intro q i e1 xs u1 y H p n o;rw[z]at n;let⟨f1,f2⟩:=h.ak q i e1 xs u1 y H p n o;exact⟨f1,f2.mono o (r.other _ (A q i e1 xs u1 y p n o))⟩;intro f g d;rw[r.size];exact h.dV f g d;intro q i e1 xs u1 y H p n o;grind
end
def cP(c:C):Prop:=∀e xs,c≠.ak e xs
section
variable{K:de}{β:aD->Option Nat}{ω:Nat->Option cT}{Z:Nat->Prop}{s:St}{a:Act}{w:World}
theorem Oa(r:aO)(x:RV)(j:Nat)(c:C):cP (nU r x j c):=by intro e xs h;cases c<;>simp[nU]at h
def aZ.nU(h:aZ K β ω Z s a w){r:aO}{j:Nat}{c:C}{u:aL}(d:(s r).v.cells[j]?=J c)(f:cK K β a w r j=J u)(b:aS K β Z s a w c u):aS K β Z s a w (Vs.nU r (s r) j c) u:=by
 cases c with|ak e xs=>simp only[Vs.nU];by_cases g:cf e=W;grind [aS.ku,aS.rl,uO];grind [aS.jg,aS.pb,uO]|_=>exact b
def C7(r:aO)(x:RV):∀(cs:M C)(j:Nat),Y (iW r x j cs)=Y cs|[],_=>rfl|c::cs,j=>by simp[iW,C7 r x cs (j+1)]
theorem xJ(r:aO)(x:RV):∀(cs:M C)(j i:Nat),(iW r x j cs)[i]?=(cs[i]?).map (nU r x (j+i))|[],_,_=>by simp[iW]|c::cs,j,0=>by simp[iW]|c::cs,j,i+1=>by simp only[iW,qN];rw[xJ r x cs (j+1) i,show j+1+i=j+(i+1) by omega]
theorem VW(r:aO)(x:RV):∀(vs:M (ay×M C))(j:Nat),(uC r x j vs).flatMap (·.2)=iW r x j (vs.flatMap (·.2))
 |[],_=>by simp[uC,iW]|(b,cs)::vs,j=>by
  simp only[uC,kK,VW r x vs];have:∀(l m:M C)(j:Nat),iW r x j (l++m)=iW r x j l++iW r x (j+Y l) m:=by
   intro l;induction l with
   |nil=>intro m j;simp[iW]
   |cons c l a=>grind [iW]
  rw[this]
theorem Ic(x:RV)(r:aO):(x.gq r).cells=iW r x 0 x.v.cells:=by grind [RV.gq,SV.cells,iW,VW]
def VX(r:aO)(x:RV):∀{vs:M aL}{xs:M (ay×M C)}(j:Nat),aR (eB lU) vs xs->aR (eB lU) vs (uC r x j xs)
 |[],[],_,_=>trivial|v::vs,(b,cs)::xs,j,h=>by
  refine⟨?_,VX r x _ h.2⟩;have h1:=h.1;unfold eB at h1 ⊢;cases b with
  |true=>simp only[bH]at h1 ⊢;obtain⟨ws,rfl,g⟩:=h1;exact⟨ws,rfl,aR.dU (by rw[g.length,C7]) λ_ _ _ _ _=>trivial⟩
  |false=>simp only[bM,ca]at h1 ⊢;obtain⟨c,rfl,g,_⟩:=h1;exact⟨nU r x j c,by simp[iW],g,trivial⟩
def ag7{x:RV}{r:aO}{v:aL}(h:bQ lU v x.v):bQ lU v (x.gq r):=by
 unfold RV.gq;cases a:x.v with
 |one c=>rw[a]at h;exact⟨h.1,trivial⟩|agg cs=>rw[a]at h;let⟨ws,h1,h2⟩:=h;exact⟨ws,h1,aR.dU (by rw[h2.length,C7]) λ_ _ _ _ _=>trivial⟩
 |bw vs=>rw[a]at h;let⟨ws,h1,h2⟩:=h;exact⟨ws,h1,VX r x 0 h2⟩
 |undef=>trivial
theorem aZ.gq(h:aZ K β ω Z s a w){r:aO}{v:aL}(hv:bQ (aS K β Z s a w) v (s r).v)(k:∀j,cK K β a w r j=(ey v)[j]?):bQ (aS K β Z s a w) v ((s r).gq r)/\(∀c∈((s r).gq r).cells,cP c):=by
 constructor;refine bQ.of_flat (ag7 hv.shape) λl=>?_;have g:(s r).v≠.undef:=λe=>l (by simp[RV.gq,e]);have i:=hv.ey g;rw[Ic];refine aR.dU (by rw[i.length,C7]) λj u c d f=>?_;rw[xJ]at f;cases b:(s r).v.cells[j]? with|none=>grind|some c0=>rw[b]at f;simp only[Option.map_some,Nat.zero_add,Option.some.injEq]at f;subst f;let⟨m,h1,h2⟩:=i.aG b;rw[d]at h1;cases h1;exact h.nU b (by rw[k];exact d) h2
 grind [Ic,nL,xJ,Oa]
def Ob{v:aL}{d:D}(h:uB v=J d):gU v=W/\bA w Z d v:=by unfold uB at h;split at h<;>first|(cases h;exact⟨rfl,rfl⟩)|(cases h;done)|skip;all_goals (cases h;exact⟨rfl,by simp[bA,NU]⟩)
def Ie:∀{vs:M aL}{ds:M D},lQ vs=J ds->aR (λu c=>aS K β Z s a w c u) vs (ds.map .d)|[],ds,h=>by simp[lQ]at h;subst h;trivial|v::vs,ds,h=>by unfold lQ at h;split at h;rename_i d b h1 h2;cases h;exact⟨(Ob h1).2,Ie h2⟩;cases h
def iM(h:aZ K β ω Z s a w){x:cD}{v:SV}{s':St}(b:(ev x).aE s=J (v,s')):s'=s/\bQ (aS K β Z s a w) (ab3 a x) v/\(∀c∈v.cells,cP c)/\v≠.undef:=by
 cases x with
 |tmp t=>
  simp only[ev,aw.aE]at b;have e:=h.gq (r:=.tmp t) (h.tmps t) (λ_=>rfl);have key:∀q:SV,(s (.tmp t)).v≠.undef->(aw.ret ((s (.tmp t)).gq (.tmp t))).aE s=J (v,s')->s'=s/\bQ (aS K β Z s a w) (ab3 a (.tmp t)) v/\(∀c∈v.cells,cP c)/\v≠.undef:=by intro _ j b;simp only[aw.aE,Option.some.injEq,gH]at b;obtain⟨rfl,rfl⟩:=b;refine⟨rfl,e.1,e.2,?_⟩;grind [RV.gq]
  cases k:(s (.tmp t)).v with|undef=>simp_all [aw.aE]|one c=>simp_all|agg c=>simp_all|bw c=>simp_all
 |const v0=>
  have one:∀d,uB v0=J d->(aw.ret (SV.one (.d d))).aE s=J (v,s')->s'=s/\bQ (aS K β Z s a w) (ab3 a (.const v0)) v/\(∀c∈v.cells,cP c)/\v≠.undef:=by intro d hd b;simp only[aw.aE,Option.some.injEq,gH]at b;obtain⟨rfl,rfl⟩:=b;let⟨h1,h2⟩:=Ob (w:=w) (Z:=Z) hd;exact⟨rfl,⟨h1,h2⟩,by simp[SV.cells,cP],by simp⟩
  cases v0 with
  |agg cs=>
   simp only[ev]at b;cases i:lQ (V cs) with|none=>simp_all [aw.aE]|some ds=>rw[i]at b;simp only[aw.aE,Option.some.injEq,gH]at b;obtain⟨rfl,rfl⟩:=b;exact⟨rfl,⟨cs,rfl,Ie i⟩,by simp[SV.cells,cP],by simp⟩
  |_=>simp only[ev]at b;split at b;rename_i d hd;exact one d hd b;simp[aw.aE]at b
 |func f=>simp only[ev,aw.aE,Option.some.injEq,gH]at b;obtain⟨rfl,rfl⟩:=b;exact⟨rfl,⟨rfl, #[],rfl,trivial⟩,by simp[SV.cells,cP],by simp⟩
 |global g=>simp[ev,aw.aE]at b
def Da{α c:Type}(p:aw α)(f:α->aw c):∀(s:St),(p.bind f).aE s=(p.aE s).bind λx=>(f x.1).aE x.2:=by
 induction p with
 |ret a=>intro s;simp[aw.bind,aw.aE]
 |ai=>intro s;simp[aw.bind,aw.aE]
 |aG r k b=>intro s;simp[aw.bind,aw.aE,b]
 |put r x k b=>intro s;simp[aw.bind,aw.aE,b]
def aT{α a:Type}{p:aw α}{f:α->aw a}{s s':St}{y:a}(h:(p >>= f).aE s=J (y,s')):∃x b,p.aE s=J (x,b)/\(f x).aE b=J (y,s'):=by
 change (p.bind f).aE s=_ at h;rw[Da]at h;cases c:p.aE s with
 |none=>rw[c]at h;cases h
 |some x=>grind
theorem bh{α:Type}{x y:α}{s s':St}(h:(aw.ret x).aE s=J (y,s')):y=x/\s'=s:=by simp_all [aw.aE]
theorem cN{p:Prop}[Decidable p]{y:bY}{s s':St}(h:(bU p).aE s=J (y,s')):p/\s'=s:=by grind [bU,aw.aE]
def gs(h:aZ K β ω Z s a w){x:cD}{c:C}{s':St}(b:(dZ x).aE s=J (c,s')):s'=s/\gU (ab3 a x)=W/\aS K β Z s a w c (ab3 a x)/\cP c:=by
 let⟨v,e,h1,h2⟩:=aT b;obtain⟨rfl,hv,d,_⟩:=iM h h1;cases v with
 |one f=>obtain⟨rfl,rfl⟩:=bh h2;exact⟨rfl,hv.1,hv.2,d _ (by simp[SV.cells])⟩
 |_=>simp[Ae,aw.aE]at h2
def VY(h:aZ K β ω Z s a w){r:aO}{j:Nat}{y:bY}{s':St}(f:(oZ r j (s r)).aE s=J (y,s')):∃ω' Z',aZ K β ω' Z' s' a w/\dC K β a ω Z s w ω' Z' s' w/\(∃e ys,(s' r).at j=.d (.sl e ys)/\((s r).at j=.ak e ys\/(s r).at j=.d (.sl e ys))):=by
 unfold oZ at f;split at f;rename_i e ys g;simp only[eo,aw.aE,Option.some.injEq,gH]at f;obtain⟨_,rfl⟩:=f;have c:=iY g (by simp);have p:(s.set r {s r with v:=(s r).v.setCell j (.d (.sl e ys))} r).at j=.d (.sl e ys):=by grind [lN,uO,rm]
 let⟨x,m,q⟩:=h.cell c;let⟨n,o⟩:=aS.VM q;by_cases l:r.isArg=W;cases r with
 |bP i=>let⟨f1,f2⟩:=h.ag4 g m o;grind
 |tmp t=>simp[aO.isArg]at l|box k=>simp[aO.isArg]at l
 let⟨f1,f2,f3⟩:=h.VN (c':=.d (.sl e ys)) g (by simpa using l) (.inr rfl) m o (ω':=λb=>if b=n then O else ω b) (Z':=λb=>Z b\/b=n) (λb=>by simp) (λb u=>by simp[u]) (λ_=>by simp);grind;grind [bh,dC.refl];simp[aw.aE]at f
def pc(w:World)(Z:Nat->Prop)(e:Nat)(xs:M (M D))(u:aL):Prop:=(cf e=I/\∃(a:eu)(cap:Nat),u=.slice (J a) (Y xs) cap/\a.spot=O/\Y xs<=cap/\dt w Z e xs a.block a.off)\/(cf e=W/\∃b,u=gK e b/\eg w Z e xs b)
def pc.iff{e:Nat}{xs:M (M D)}{u:aL}:aS K β Z s a w (.ak e xs) u↔pc w Z e xs u:=by
 by_cases b:cf e=W;rw[aS.ku b];simp[pc,b];have b:cf e=I:=by simpa using b
 rw[aS.jg b];simp[pc,b]
theorem pc.mono{Z':Nat->Prop}(hZ:∀b,Z b->Z' b){e:Nat}{xs:M (M D)}{u:aL}(h:pc w Z e xs u):pc w Z' e xs u:=by
 rcases h with⟨a,d,cap,h1,h2,h3,f⟩|⟨a,b,h1,h2⟩
 exact .inl ⟨a,d,cap,h1,h2,h3,dt.mono (λb c=>⟨rfl,hZ b c⟩) _ _ _ _ rfl f⟩;exact .inr ⟨a,b,h1,eg.mono (λb c=>⟨rfl,hZ b c⟩) _ _ _ rfl h2⟩
def VZ(h:aZ K β ω Z s a w){r:aO}{j:Nat}(l:r.isArg=I){y:bY}{s':St}(d:(pX r j (s r)).aE s=J (y,s'))(g:cT):
  ∃e ys u b ω',(s r).at j=.ak e ys/\cK K β a w r j=J u/\eG u=J b/\pc w Z e ys u/\
   aZ K β ω' Z s' a w/\dC K β a ω Z s w ω' Z s' w/\ω' b=J g/\mD w e u/\lg K β s' a w b:=by
 unfold pX at d
 split at d
 rename_i e ys f
 simp only[eo,aw.aE,Option.some.injEq,gH]at d
 obtain⟨_,rfl⟩:=d
 have c:=iY f (by simp)
 let⟨u,i,m⟩:=h.cell c
 let⟨b,k⟩:=aS.VM m
 let⟨f1,f2,f3⟩:=h.VN (c':=.bN) f l (.inl rfl) i k (ω':=λn=>if n=b then J g else ω n) (Z':=Z) (λb=>by simp) (λb o=>by simp[o]) (λp=>cJ rfl p)
 exact⟨e,ys,u,b,_,f,i,k,pc.iff.1 m,f1,f2,by simp,(h.ak r j e ys u b l c i k).2,f3⟩
 simp[aw.aE]at d
def Oc(h:aZ K β ω Z s a w){r:aO}{j hv cv e k:Nat}(hm:cf e=I){xs:M (M D)}{u:aL}(x:aS K β Z s a w (.bm r j hv cv e k xs) u)(h1:(s r).hv=hv)(h2:(s r).cv=cv)(q:(s r).at j≠.bN):
  ∃b cap,u=.slice (J b) (Y xs) cap/\b.spot=O/\Y xs<=cap/\(cap≠0->dt w Z e xs b.block b.off)/\
   ∃f l c ys,cK K β a w r j=J (.slice (J f) l c)/\abX b=abX f/\(b.off=f.off+k*e\/cap=0)/\b.off+cap*e<=f.off+c*e/\cap+k=c/\((s r).at j=.ak e ys\/(s r).at j=.d (.sl e ys))/\xs=(ys.drop k).take (Y xs):=by
 let⟨m,n,y,z,A,_,_,B⟩:=(aS.pb hm).1 x
 let⟨b,len,cap,f1,f2,f3,f4,C,f5,f6,f7,f8⟩:=B h1 q
 let⟨ys,f9,o⟩:=f8
 have f10:=o h2
 refine⟨m,n,y,z,A,λt=>?_,b,len,cap,ys,f1,f3,f4,?_,f5,f9,f10⟩
 rotate_left
 grind [Nat.add_mul]
 have p:m.off=b.off+k*e:=f4.resolve_right t
 have i:dt w Z e ys b.block b.off:=by
  rcases f9 with f9|f9
  let⟨u2,E,g⟩:=h.cell (iY f9 (by simp));grind [aS.jg];let⟨u2,E,g⟩:=h.cell (iY f9 (by simp));let⟨F,v,G,_,_,H⟩:=(bA.hY hm).1 g;grind
 rw[f10,f3,p]
 exact(i.drop k).take _
theorem Od(h:aZ K β ω Z s a w){r:aO}{j hv cv e k:Nat}(hm:cf e=I){xs:M (M D)}{u:aL}(f:aS K β Z s a w (.bm r j hv cv e k xs) u)(h1:(s r).hv=hv)(h2:(s r).cv=cv)(d:(s r).at j≠.bN):∃c cap,u=.slice (J c) (Y xs) cap/\c.spot=O/\Y xs<=cap/\dt w Z e xs c.block c.off:=by let⟨c,cap,g,i,l,m,_⟩:=Oc h hm f h1 h2 d;refine⟨c,cap,g,i,l,?_⟩;by_cases b:cap=0;subst b;have:xs=[]:=List.length_eq_zero_iff.1 (by omega);subst this;trivial;exact m b
def ag8(h:aZ K β ω Z s a w){r:aO}{j hv cv e k:Nat}(hm:cf e=W){xs:M (M D)}{u:aL}(g:aS K β Z s a w (.bm r j hv cv e k xs) u)(h1:(s r).hv=hv)(h2:(s r).cv=cv)(f:(s r).at j≠.bN):∃b,u=gK e b/\cK K β a w r j=J (gK e b)/\((s r).at j=.ak e xs\/(s r).at j=.d (.sl e xs))/\eg w Z e xs b:=by
 let⟨b,i,_,_,l⟩:=(aS.rl hm).1 g;let⟨f1,ys,f2,f3⟩:=l h1 f;have:=f3 h2;subst this;refine⟨b,i,f1,f2,?_⟩;rcases f2 with f2|f2
 let⟨u2,m,c⟩:=h.cell (iY f2 (by simp));grind [aS.ku,CZ];let⟨u2,m,c⟩:=h.cell (iY f2 (by simp));let⟨n,o,_,p⟩:=(bA.nY hm).1 c;grind [CZ]
def Ig(h:aZ K β ω Z s a w){r:aO}{j hv cv e k:Nat}{xs:M (M D)}{u:aL}(q:aS K β Z s a w (.bm r j hv cv e k xs) u)(h1:(s r).hv=hv)(h2:(s r).cv=cv)(f:(s r).at j≠.bN):
  ∃ys m t,((s r).at j=.ak e ys\/(s r).at j=.d (.sl e ys))/\cK K β a w r j=J m/\eG m=J t/\eG u=J t/\pc w Z e xs u/\(mD w e m->mD w e u)/\
   ∀Z':Nat->Prop,(∀b,Z b->Z' b)->(Live m->Z' t)->bA w Z' (.sl e xs) u:=by
 by_cases c:cf e=W
 obtain⟨b,rfl,n,o,g⟩:=ag8 h c q h1 h2 f
 exact⟨xs,_,b,o,n,lS ..,lS ..,.inr ⟨c,b,rfl,g⟩,id,λZ' hZ v=>(bA.nY c).2 ⟨b,rfl,v (VL ..),eg.mono (λb x=>⟨rfl,hZ b x⟩) _ _ _ rfl g⟩⟩
 have c:cf e=I:=by simpa using c
 obtain⟨p,cap,rfl,n,o,g⟩:=Od h c q h1 h2 f
 let⟨B,z,f1,_,_,_,y,A,i,ys,f2,f3,f4,f5,f6,f7,f8⟩:=Oc h c q h1 h2 f
 cases f1
 refine⟨ys,_,abX y,f7,f2,rfl,by rw[<-f3];rfl,.inl ⟨c,p,cap,rfl,n,o,g⟩,λC=>?_,λZ' hZ v=>(bA.hY c).2 ⟨p,cap,rfl,?_,o,dt.mono (λb x=>⟨rfl,hZ b x⟩) _ _ _ _ rfl g⟩⟩
 show Wr w p.block (p.off+cap*e)
 rw[f3]
 exact Wr.mono C rfl f5
 by_cases l:cap=0
 exact .inl l
 exact .inr ⟨n,by rw[f3];exact v (show i≠0 by omega)⟩
end
section
variable{K:de}{β:aD->Option Nat}{ω:Nat->Option cT}{Z:Nat->Prop}{s:St}{a:Act}{w:World}
def xK{x:RV}{j e:Nat}{ys:M (M D)}(h:x.at j=.ak e ys):x.at j≠.bN:=by rw[h];simp
def ag9{x:RV}{j:Nat}{d:D}(h:x.at j=.d d):x.at j≠.bN:=by rw[h];simp
def aZ.frozen(h:aZ K β ω Z s a w){r:aO}{j e:Nat}{ys:M (M D)}(l:(s r).at j=.d (.sl e ys)){f:aL}{b0:Nat}(m:cK K β a w r j=J f)(g:eG f=J b0):Live f->Z b0:=by let⟨u,h1,c⟩:=h.cell (iY l (by simp));rw[m]at h1;cases h1;by_cases i:cf e=W;obtain⟨b,rfl,h2,_⟩:=(bA.nY i).1 c;simp_all [lS];obtain⟨n,k,rfl,h3,_⟩:=(bA.hY (by simpa using i)).1 c;simp only[eG,Option.some.injEq]at g;subst g;exact λo=>(acH h3 o).2
theorem Oe(h:aZ K β ω Z s a w){self:aO×Nat}{take:aO->ay}{c c':C}{u:aL}{s':St}(g:aS K β Z s a w c u)(i:cP c) (d:(nV (J self) take c).aE s=J (c',s')):∃ω' Z',aZ K β ω' Z' s' a w/\dC K β a ω Z s w ω' Z' s' w/\lh K β ω' Z' s' a w self.1 self.2 c' u:=by
 have t:c'=c->s'=s->∃ω' Z',aZ K β ω' Z' s' a w/\dC K β a ω Z s w ω' Z' s' w/\lh K β ω' Z' s' a w self.1 self.2 c' u:=by rintro rfl rfl;exact⟨ω,Z,h,dC.refl,lh.Aq i g⟩
 cases c with
 |bm r j hv cv e k xs=>
  simp only[nV]at d;split at d;grind [bh];rename_i x;have o:r.isArg=I:=by simpa using x
  simp only[aw.aE]at d;let⟨_,G,h1,d⟩:=aT d;obtain⟨⟨l,m⟩,rfl⟩:=cN h1;split at d;rename_i v n f;let⟨ys,y,A,f7,f2,f3,f4,f5,f6,f8⟩:=Ig h g l m (xK f);have p:v=e/\n=ys:=by grind
  obtain⟨rfl,rfl⟩:=p;split at d;let⟨_,B,h2,d⟩:=aT d;obtain⟨rfl,rfl⟩:=bh d;let⟨H,D,N,P,ω',t1,t2,t3,t4,t6,t7,t8,t9,t10⟩:=VZ h o h2 (self.1,J self.2);rw[f]at t1;cases t1;rw[t2]at f2;cases f2;rw[t3]at f3;cases f3;refine⟨ω',Z,t6,t7,pc.iff.2 f5,λe E b R S=>?_⟩;grind;let⟨_,B,h2,d⟩:=aT d;obtain⟨rfl,rfl⟩:=bh d;let⟨ω',Z',t1,t2,T,F,t3,t4⟩:=VY h h2;refine⟨ω',Z',t1,t2,lh.Aq (by simp[cP]) ?_⟩;exact f8 Z' (λb q=>t2.z b q) (t1.frozen t3 (by rw[t2.cK];exact f2) f3);rename_i v n f;obtain⟨rfl,rfl⟩:=bh d;let⟨ys,y,A,f7,f2,f3,f4,f5,f6,f8⟩:=Ig h g l m (ag9 f);refine⟨ω,Z,h,dC.refl,lh.Aq (by simp[cP]) ?_⟩;exact f8 Z (λb q=>q) (h.frozen f f2 f3);simp[aw.aE]at d
 |ak e xs=>exact cJ rfl (i e xs)|bN=>simp[nV,aw.aE]at d|_=>grind [nV,bh]
def aha{self:Option (aO×Nat)}{take:aO->ay}{c c':C}{s s':St}(a:(nV self take c).aE s=J (c',s')):c≠.bN:=by rintro rfl;simp[nV,aw.aE]at a
def V0{mk:Nat->aO×Nat}{take:aO->ay}:∀{cs cs':M C}{i:Nat}{s s':St},(o0 mk take i cs).aE s=J (cs',s')->∀c∈cs,c≠.bN
 |[],_,_,_,_,_,_,h=>by simp at h|c::cs,cs',i,s,s',a,x,b=>by
  simp only[o0]at a;let⟨c1,e,h1,a⟩:=aT a;let⟨d,f,h2,a⟩:=aT a;rcases iG.1 b with rfl|b
  exact aha h1;exact V0 h2 x b
def ia(K:de)(β:aD->Option Nat)(ω:Nat->Option cT)(Z:Nat->Prop)(s:St)(a:Act)(w:World)(mk:Nat->aO×Nat):Nat->M aL->M C->Prop|_,[],[]=>dL|i,u::us,c::cs=>lh K β ω Z s a w (mk i).1 (mk i).2 c u/\ia K β ω Z s a w mk (i+1) us cs|_,_,_=>jc
theorem ia.lift{ω':Nat->Option cT}{Z':Nat->Prop}{s':St}{w':World}(b:aZ K β ω Z s a w)(k:dC K β a ω Z s w ω' Z' s' w'){mk:Nat->aO×Nat}:∀{i:Nat}{us:M aL}{cs:M C},ia K β ω Z s a w mk i us cs->ia K β ω' Z' s' a w' mk i us cs|_,[],[],_=>trivial|_,_::_,_::_,h=>⟨k.N1 b h.1,ia.lift b k h.2⟩
def ia.all{mk:Nat->aO×Nat}:∀{i:Nat}{us:M aL}{cs:M C},ia K β ω Z s a w mk i us cs->aR (λu c=>aS K β Z s a w c u) us cs|_,[],[],_=>trivial|_,_::_,_::_,h=>⟨h.1.1,ia.all h.2⟩
theorem ia.aG{mk:Nat->aO×Nat}:∀{i j:Nat}{us:M aL}{cs:M C}{c:C}{u:aL},ia K β ω Z s a w mk i us cs->cs[j]?=J c->us[j]?=J u->lh K β ω Z s a w (mk (i+j)).1 (mk (i+j)).2 c u|_,_,[],[],_,_,_,h,_=>by simp at h|i,0,u::us,c::cs,e,f,h,b,d=>by simp only[ij,Option.some.injEq]at b d;subst b;subst d;exact h.1|i,j+1,u::us,c::cs,e,f,h,b,d=>by have:=ia.aG (j:=j) h.2 (by simpa using b) (by simpa using d);grind
theorem ia.append{mk:Nat->aO×Nat}:∀{i:Nat}{us b:M aL}{cs cs':M C},ia K β ω Z s a w mk i us cs->ia K β ω Z s a w mk (i+Y us) b cs'->ia K β ω Z s a w mk i (us++b) (cs++cs')|_,[],_,[],_,_,h=>by simpa using h|i,u::us,b,c::cs,cs',h,k=>⟨h.1,ia.append h.2 (by grind)⟩
def Ih{mk:Nat->aO×Nat}{take:aO->ay}:∀(cs:M C)(i:Nat)(us:M aL)(ω:Nat->Option cT)(Z:Nat->Prop)(s s':St)(cs':M C),aZ K β ω Z s a w->aR (λu c=>aS K β Z s a w c u) us cs->(∀c∈cs,cP c)->(o0 mk take i cs).aE s=J (cs',s')->∃ω' Z',aZ K β ω' Z' s' a w/\dC K β a ω Z s w ω' Z' s' w/\ia K β ω' Z' s' a w mk i us cs':=by
 intro cs;induction cs with
 |nil=>
  intro i us ω Z s s' cs' h b _ d;obtain⟨rfl,rfl⟩:=bh d;cases us with|nil=>exact⟨ω,Z,h,dC.refl,trivial⟩|cons u us=>exact aaY b
 |cons c cs o=>
  intro i us ω Z s s' cs' h b g d;cases us with|nil=>exact aaY b|cons u us=>simp only[o0]at d;let⟨c1,p,h1,d⟩:=aT d;let⟨j,B,h2,d⟩:=aT d;obtain⟨rfl,rfl⟩:=bh d;let⟨k,q,n,k1,r⟩:=Oe h b.1 (g c (kJ ..)) h1;have f:∀x∈cs,cP x:=λx l=>g x (jr _ l);let⟨m,t,v,k2,y⟩:=o (i+1) us k q p _ j n (b.2.kO λu c z A=>k1.li h.dp (λe xs _ l _=>cJ l (f c z e xs)) A) f h2;exact⟨m,t,v,k1.trans k2,k2.N1 n r,y⟩
def jh(K:de)(β:aD->Option Nat)(ω:Nat->Option cT)(Z:Nat->Prop)(s:St)(a:Act)(w:World)(r:aO)(u:aL)(v:SV):Prop:=bQ (aS K β Z s a w) u v/\∀(j:Nat)(c:C)(x:aL),v.cells[j]?=J c->(ey u)[j]?=J x->lh K β ω Z s a w r j c x
def jh.Db{r:aO}{u:aL}{v:SV}(h:bQ (aS K β Z s a w) u v)(b:∀c∈v.cells,cP c):jh K β ω Z s a w r u v:=⟨h,λj c x d e=>lh.Aq (b c (fG d)) (by let⟨f,h1,h2⟩:=h.cell d;grind)⟩
def jh.As{r:aO}{u:aL}{v:SV}(b:bQ lU u v)(h:ia K β ω Z s a w (λi=>(r,i)) 0 (ey u) v.cells):jh K β ω Z s a w r u v:=⟨bQ.of_flat b λ_=>h.all,λj c x d e=>by have:=h.aG d e;simpa using this⟩
def aZ.ahb(h:aZ K β ω Z s a w){t:Nat}(c:t<K.N){u:aL}{v:SV}(hv:jh K β ω Z s a w (.tmp t) u v):aZ K β ω Z (s.set (.tmp t) {hv:=(s (.tmp t)).hv+1,cv:=(s (.tmp t)).cv,v}) (a.put (J t) u) w:=h.jW c hv.1 λj e xs i b d f g=>by have:=(hv.2 j _ _ d f).2 e xs b rfl g;grind
def ahc{r:aO}{take:aO->ay}:∀(xs:M (ay×M C))(i:Nat)(vs:M aL)(ω:Nat->Option cT)(Z:Nat->Prop)(s s':St)(xs':M (ay×M C)),aZ K β ω Z s a w->aR (eB (aS K β Z s a w)) vs xs->(∀c∈xs.flatMap (·.2),cP c)->(xu (λi=>(r,i)) take i xs).aE s=J (xs',s')->∃ω' Z',aZ K β ω' Z' s' a w/\dC K β a ω Z s w ω' Z' s' w/\ia K β ω' Z' s' a w (λi=>(r,i)) i (vs.flatMap λv=>v.cells.toList) (xs'.flatMap (·.2))/\aR (eB lU) vs xs':=by
 intro xs;induction xs with
 |nil=>
  intro i vs ω Z s s' t h f _ g;obtain⟨rfl,rfl⟩:=bh g;cases vs with|nil=>exact⟨ω,Z,h,dC.refl,trivial,trivial⟩|cons u us=>exact aaY f
 |cons x xs H=>
  intro i vs ω Z s s' t h f l g;cases vs with
  |nil=>exact aaY f|cons v vs=>
   let⟨b,cs⟩:=x;simp only[xu]at g;let⟨c1,D,h1,g⟩:=aT g;let⟨y,Y,h2,g⟩:=aT g;obtain⟨rfl,rfl⟩:=bh g;have N:=eB.ey f.1;simp only[kK,mm]at l;let⟨z,P,R,k1,E⟩:=Ih (mk:=λi=>(r,i)) (take:=take) cs i v.cells.toList ω Z s D c1 h N (λc m=>l c (.inl m)) h1;have j:∀c∈xs.flatMap (·.2),cP c:=λc m=>l c (.inr m);let⟨A,S,T,k2,p2,V⟩:=H (i+cs.length) vs z P D _ y R (f.2.kO λv x X n=>by have q:∀c∈x.2,cP c:=λc m=>j c (Hr.2 ⟨x,X,m⟩);unfold eB at n ⊢;split;rename_i B;simp only[B,bH]at n;let⟨ws,k,o⟩:=n;exact⟨ws,k,o.kO λu c m n=>k1.li h.dp (λe xs _ p _=>cJ p (q c m e xs)) n⟩;rename_i B;simp only[B]at n;let⟨c,k,o,F⟩:=n;exact⟨c,k,o,k1.li h.dp (λe xs _ p _=>cJ p (q c (by simp[k]) e xs)) F⟩) j h2;refine⟨A,S,T,k1.trans k2,?_,?_,V⟩;grind [ia.append,ia.lift,aR.length];have h3:=f.1;unfold eB at h3 ⊢;cases b with
   |true=>simp only[bH]at h3 ⊢;let⟨ws,k,o⟩:=h3;refine⟨ws,k,aR.dU ?_ λ_ _ _ _ _=>trivial⟩;have:=E.all.length;rw[k]at this;exact this
   |false=>
    simp only[bM,ca]at h3 ⊢;let⟨c,k,o,F⟩:=h3;have G:=E.all.length;rw[lT o]at G;match c1,G with|[d],_=>exact⟨d,rfl,o,trivial⟩
def V1(h:aZ K β ω Z s a w){r:aO}{take:aO->ay}{v v':SV}{u:aL}{s':St}(hv:bQ (aS K β Z s a w) u v)(f:∀c∈v.cells,cP c) (b:(m9 r take v).aE s=J (v',s')):∃ω' Z',aZ K β ω' Z' s' a w/\dC K β a ω Z s w ω' Z' s' w/\jh K β ω' Z' s' a w r u v':=by
 cases v with
 |one c=>simp only[m9]at b;let⟨c1,m,h1,b⟩:=aT b;obtain⟨rfl,rfl⟩:=bh b;let⟨d,j,k,k1,g⟩:=Oe h hv.2 (f c (by simp[SV.cells])) h1;exact⟨d,j,k,k1,jh.As ⟨hv.1,trivial⟩ (by rw[Ap hv.1];exact⟨g,trivial⟩)⟩
 |agg cs=>simp only[m9]at b;let⟨c1,m,h1,b⟩:=aT b;obtain⟨rfl,rfl⟩:=bh b;obtain⟨ws,rfl,e⟩:=hv;let⟨d,j,k,k1,g⟩:=Ih (mk:=λi=>(r,i)) (take:=take) cs 0 (V ws) ω Z s _ _ h e (λc l=>f c l) h1;exact⟨d,j,k,k1,jh.As ⟨ws,rfl,aR.dU g.all.length λ_ _ _ _ _=>trivial⟩ g⟩
 |bw xs=>simp only[m9]at b;let⟨c1,m,h1,b⟩:=aT b;obtain⟨rfl,rfl⟩:=bh b;obtain⟨vs,rfl,e⟩:=hv;let⟨d,j,k,k1,g,n⟩:=ahc (r:=r) (take:=take) xs 0 (V vs) ω Z s _ _ h e (λc l=>f c l) h1;exact⟨d,j,k,k1,jh.As ⟨vs,rfl,n⟩ g⟩
 |undef=>simp[m9,aw.aE]at b
def V2(h:aZ K β ω Z s a w){self:aO×Nat}{o:cD}{c c':C}{u:aL}{s':St}(d:aS K β Z s a w c u)(b:cP c) (g:(uH self o c).aE s=J (c',s')):∃ω' Z',aZ K β ω' Z' s' a w/\dC K β a ω Z s w ω' Z' s' w/\lh K β ω' Z' s' a w self.1 self.2 c' u:=by
 have f:c'=c->s'=s->∃ω' Z',aZ K β ω' Z' s' a w/\dC K β a ω Z s w ω' Z' s' w/\lh K β ω' Z' s' a w self.1 self.2 c' u:=by rintro rfl rfl;exact⟨ω,Z,h,dC.refl,lh.Aq b d⟩
 cases c with|bm r j hv cv e k xs=>grind [uH,Oe,bh]|ak e xs=>exact cJ rfl (b e xs)|_=>grind [uH,bh]
def V3{r:aO}{o:cD}:∀(cs:M C)(i:Nat)(us:M aL)(ω:Nat->Option cT)(Z:Nat->Prop)(s s':St)(cs':M C),aZ K β ω Z s a w->aR (λu c=>aS K β Z s a w c u) us cs->(∀c∈cs,cP c)->(uI r o i cs).aE s=J (cs',s')->∃ω' Z',aZ K β ω' Z' s' a w/\dC K β a ω Z s w ω' Z' s' w/\ia K β ω' Z' s' a w (λi=>(r,i)) i us cs':=by
 intro cs;induction cs with
 |nil=>
  intro i us ω Z s s' cs' h b _ d;obtain⟨rfl,rfl⟩:=bh d;cases us with|nil=>exact⟨ω,Z,h,dC.refl,trivial⟩|cons u us=>exact aaY b
 |cons c cs p=>
  intro i us ω Z s s' cs' h b g d;cases us with|nil=>exact aaY b|cons u us=>simp only[uI]at d;let⟨c1,q,h1,d⟩:=aT d;let⟨j,E,h2,d⟩:=aT d;obtain⟨rfl,rfl⟩:=bh d;let⟨k,t,n,k1,v⟩:=V2 h b.1 (g c (kJ ..)) h1;have f:∀x∈cs,cP x:=λx l=>g x (jr _ l);let⟨m,y,z,k2,A⟩:=p (i+1) us k t q _ j n (b.2.kO λu c B D=>k1.li h.dp (λe xs _ l _=>cJ l (f c B e xs)) D) f h2;exact⟨m,y,z,k1.trans k2,k2.N1 n v,A⟩
def ahd{r:aO}{o:cD}:∀(xs:M (ay×M C))(i:Nat)(vs:M aL)(ω:Nat->Option cT)(Z:Nat->Prop)(s s':St)(xs':M (ay×M C)),aZ K β ω Z s a w->aR (eB (aS K β Z s a w)) vs xs->(∀c∈xs.flatMap (·.2),cP c)->(xE r o i xs).aE s=J (xs',s')->∃ω' Z',aZ K β ω' Z' s' a w/\dC K β a ω Z s w ω' Z' s' w/\ia K β ω' Z' s' a w (λi=>(r,i)) i (vs.flatMap λv=>v.cells.toList) (xs'.flatMap (·.2))/\aR (eB lU) vs xs':=by
 intro xs;induction xs with
 |nil=>
  intro i vs ω Z s s' y h f _ g;obtain⟨rfl,rfl⟩:=bh g;cases vs with|nil=>exact⟨ω,Z,h,dC.refl,trivial,trivial⟩|cons u us=>exact aaY f
 |cons x xs N=>
  intro i vs ω Z s s' y h f l g;cases vs with
  |nil=>exact aaY f|cons v vs=>
   let⟨b,cs⟩:=x;simp only[xE]at g;let⟨c1,E,h1,g⟩:=aT g;let⟨z,s2,h2,g⟩:=aT g;obtain⟨rfl,rfl⟩:=bh g;have P:=eB.ey f.1;simp only[kK,mm]at l;let⟨A,R,S,k1,F⟩:=V3 (r:=r) (o:=o) cs i v.cells.toList ω Z s E c1 h P (λc m=>l c (.inl m)) h1;have j:∀c∈xs.flatMap (·.2),cP c:=λc m=>l c (.inr m);let⟨B,T,V,k2,p2,X⟩:=N (i+cs.length) vs A R E _ z S (f.2.kO λv x Y n=>by have t:∀c∈x.2,cP c:=λc m=>j c (Hr.2 ⟨x,Y,m⟩);unfold eB at n ⊢;split;rename_i D;simp only[D,bH]at n;let⟨ws,k,p⟩:=n;exact⟨ws,k,p.kO λu c m n=>k1.li h.dp (λe xs _ q _=>cJ q (t c m e xs)) n⟩;rename_i D;simp only[D]at n;let⟨c,k,p,G⟩:=n;exact⟨c,k,p,k1.li h.dp (λe xs _ q _=>cJ q (t c (by simp[k]) e xs)) G⟩) j h2;refine⟨B,T,V,k1.trans k2,?_,?_,X⟩;grind [ia.append,ia.lift,aR.length];have h3:=f.1;unfold eB at h3 ⊢;cases b with
   |true=>simp only[bH]at h3 ⊢;let⟨ws,k,p⟩:=h3;refine⟨ws,k,aR.dU ?_ λ_ _ _ _ _=>trivial⟩;have:=F.all.length;rw[k]at this;exact this
   |false=>
    simp only[bM,ca]at h3 ⊢;let⟨c,k,p,G⟩:=h3;have H:=F.all.length;rw[lT p]at H;match c1,H with|[d],_=>exact⟨d,rfl,p,trivial⟩
def V4(h:aZ K β ω Z s a w){r:aO}{o:cD}{v v':SV}{u:aL}{s':St}(hv:bQ (aS K β Z s a w) u v)(f:∀c∈v.cells,cP c) (b:(lR r o v).aE s=J (v',s')):∃ω' Z',aZ K β ω' Z' s' a w/\dC K β a ω Z s w ω' Z' s' w/\jh K β ω' Z' s' a w r u v':=by
 cases v with
 |one c=>simp only[lR]at b;let⟨c1,l,h1,b⟩:=aT b;obtain⟨rfl,rfl⟩:=bh b;let⟨d,i,j,k1,g⟩:=V2 h hv.2 (f c (by simp[SV.cells])) h1;exact⟨d,i,j,k1,jh.As ⟨hv.1,trivial⟩ (by rw[Ap hv.1];exact⟨g,trivial⟩)⟩
 |agg cs=>simp only[lR]at b;let⟨c1,l,h1,b⟩:=aT b;obtain⟨rfl,rfl⟩:=bh b;obtain⟨ws,rfl,e⟩:=hv;let⟨d,i,j,k1,g⟩:=V3 (r:=r) (o:=o) cs 0 (V ws) ω Z s _ _ h e (λc k=>f c k) h1;exact⟨d,i,j,k1,jh.As ⟨ws,rfl,aR.dU g.all.length λ_ _ _ _ _=>trivial⟩ g⟩
 |bw xs=>simp only[lR]at b;let⟨c1,l,h1,b⟩:=aT b;obtain⟨rfl,rfl⟩:=bh b;obtain⟨vs,rfl,e⟩:=hv;let⟨d,i,j,k1,g,m⟩:=ahd (r:=r) (o:=o) xs 0 (V vs) ω Z s _ _ h e (λc k=>f c k) h1;exact⟨d,i,j,k1,jh.As ⟨vs,rfl,m⟩ g⟩
 |undef=>simp[lR,aw.aE]at b
def Dd(h:aZ K β ω Z s a w){c:C}{d:D}{u:aL}{s':St}(g:aS K β Z s a w c u)(f:(mv c).aE s=J (d,s')):∃ω' Z',aZ K β ω' Z' s' a w/\dC K β a ω Z s w ω' Z' s' w/\bA w Z' d u:=by
 cases c with
 |d x=>obtain⟨rfl,rfl⟩:=bh f;exact⟨ω,Z,h,dC.refl,g⟩
 |bm r j hv cv e k xs=>
  simp only[mv,aw.aE]at f;let⟨_,n,h1,f⟩:=aT f;obtain⟨⟨i,l⟩,rfl⟩:=cN h1;let⟨_,q,h2,f⟩:=aT f;obtain⟨rfl,rfl⟩:=bh f;let⟨ω',Z',t1,t2,t,o,t3,t4⟩:=VY h h2;have m:(n r).at j≠.bN:=by rcases t4 with t4|t4<;>(rw[t4];simp)
  let⟨ys,v,y,f7,f2,f3,f4,f5,f6,f8⟩:=Ig h g i l m;exact⟨ω',Z',t1,t2,f8 Z' (λb p=>t2.z b p) (t1.frozen t3 (by rw[t2.cK];exact f2) f3)⟩
 |_=>simp[mv,aw.aE]at f
def DL(w:World)(Z:Nat->Prop):M aL->M D->Prop:=λus ds=>aR (λu d=>bA w Z d u) us ds
def Ii:∀(cs:M C)(us:M aL)(ω:Nat->Option cT)(Z:Nat->Prop)(s s':St)(ds:M D),aZ K β ω Z s a w->aR (λu c=>aS K β Z s a w c u) us cs->(∀c∈cs,cP c)->(o4 cs).aE s=J (ds,s')->∃ω' Z',aZ K β ω' Z' s' a w/\dC K β a ω Z s w ω' Z' s' w/\DL w Z' us ds:=by
 intro cs;induction cs with
 |nil=>
  intro us ω Z s s' ds h d _ f;obtain⟨rfl,rfl⟩:=bh f;cases us with|nil=>exact⟨ω,Z,h,dC.refl,trivial⟩|cons u us=>exact aaY d
 |cons c cs n=>
  intro us ω Z s s' ds h d i f;cases us with|nil=>exact aaY d|cons u us=>simp only[o4]at f;let⟨c1,o,h1,f⟩:=aT f;let⟨j,F,h2,f⟩:=aT f;obtain⟨rfl,rfl⟩:=bh f;let⟨k,p,q,k1,r⟩:=Dd h d.1 h1;have g:∀x∈cs,cP x:=λx l=>i x (jr _ l);let⟨m,t,v,k2,y⟩:=n us k p o _ j q (d.2.kO λu c A B=>k1.li h.dp (λe xs _ l _=>cJ l (g c A e xs)) B) g h2;exact⟨m,t,v,k1.trans k2,bA.mono (λb E=>⟨rfl,k2.z b E⟩) _ _ r,y⟩
def V5(h:aZ K β ω Z s a w){e:Nat}{c:C}{xs:M (M D)}{u:aL}{s':St}(d:aS K β Z s a w c u)(b:(mx e c).aE s=J (xs,s')):s'=s/\((u=.slice O 0 0/\xs=[])\/∃f cap,u=.slice (J f) (Y xs) cap/\(cap=0\/f.spot=O)/\Y xs<=cap/\dt w Z e xs f.block f.off):=by unfold mx at b;split at b;obtain⟨rfl,rfl⟩:=bh b;exact⟨rfl,.inl ⟨d,rfl⟩⟩;rename_i n ys;let⟨_,o,h1,g⟩:=aT b;let⟨⟨i,p⟩,l⟩:=cN h1;let⟨q,m⟩:=bh g;subst l;subst q;subst m;subst i;let⟨f,cap,t,v,x,y⟩:=(bA.hY p).1 d;grind;rename_i r j hv cv n k ys;simp only[aw.aE]at b;let⟨_,o,h1,g⟩:=aT b;grind [cN,bh,alive,Od];simp[aw.aE]at b
end
section types
variable{P:Program}{w:World}{t:TypeId}{i:TI}
def sB(h:kN P t=J i):∃info d,P.info? t=J info/\aa9 P t=J d/\i.size=info.size/\i.bytes=info.bytes/\i.kind=tk d/\i.zero=info.zero.bind (HQ i.kind.agg):=by grind [kN]
def xL(h:kN P t=J i):∃info,(typeInfo t).run P w=.ok info w/\info.size=i.size/\info.bytes=i.bytes/\i.zero=info.zero.bind (HQ i.kind.agg):=by
 let⟨info,d,h1,h2,h3,a,c,b⟩:=sB h;refine⟨info,?_,h3.symm,a.symm,b⟩;show(match P.info? t with|some i=>(pure i:Sem TypeInfo)|none=>stuck "no such type").run P w=_
 rw[h1];rfl
def lj(h:kN P t=J i):(sizeOf t).run P w=.ok i.size w:=by let⟨info,h1,h2,_⟩:=xL (w:=w) h;simp[sizeOf,h1,h2]
def fe(h:kN P t=J i):∃d,aa9 P t=J d/\tk d=i.kind/\(underlying t).run P w=.ok d w:=by
 let⟨info,d,h1,h2,h3,b,a,c⟩:=sB h;refine⟨d,h2,a.symm,?_⟩;show(match aa9 P t with|some d=>(pure d:Sem oU)|none=>stuck "no such type").run P w=_
 rw[h2];rfl
def Ij(h:kN P t=J i):(isAgg t).run P w=.ok i.kind.agg w:=by let⟨d,_,h1,h2⟩:=fe (w:=w) h;simp only[isAgg,dB,h2,dE,<-h1];cases d<;>rfl
def Og(h:kN P t=J i){z:M D}(b:i.zero=J z):∃v,(zeroValue t).run P w=.ok v w/\lQ (V v.cells)=J z/\HP v=i.kind.agg:=by
 let⟨info,h1,h2,h3,a⟩:=xL (w:=w) h;rw[b]at a;cases hv:info.zero with
 |none=>rw[hv]at a;cases a
 |some v=>rw[hv]at a;simp only[Option.bind_some,HQ]at a;split at a;rename_i c;exact⟨v,by simp[zeroValue,h1,hv],a.symm,c⟩;cases a
def xM(h:kN P t=J i){z:M D}(a:i.zero=J z):∃v,(zeroValue t).run P w=.ok v w/\lQ (V v.cells)=J z:=by let⟨v,h1,h2,_⟩:=Og (w:=w) h a;exact⟨v,h1,h2⟩
def n6{d:oU}{e:TypeId}(h:tk d=.slice e):d=.slice e:=by cases d<;>simp[tk]at h;rw[h]
def De{d:oU}{fs:M (Nat×TypeId)}(h:tk d=.struct fs):∃fields:bZ Field,d=.struct fields/\fs=(V fields).map λf=>(acJ f,f.type):=by cases d<;>simp[tk]at h;grind
def Ik{d:oU}{n:Nat}{e:TypeId}(h:tk d=.array n e):d=.array n e:=by cases d<;>simp[tk]at h;rw[h.1,h.2]
def sC{d:oU}(h:tk d=.bj):d=.string:=by cases d<;>simp[tk]at h;rfl
def xN{d:oU}{k:mW}(h:tk d=.int k):d=.int k:=by cases d<;>simp[tk]at h;rw[h]
def Oh{d:oU}(h:tk d=.bool):d=.bool:=by cases d<;>simp[tk]at h;rfl
end types
section
variable{K:de}{β:aD->Option Nat}{ω:Nat->Option cT}{Z:Nat->Prop}{s:St}{a:Act}{w:World}
def qc:∀{vs:M aL}{ds:M D},lQ vs=J ds->DL w Z vs ds|[],ds,h=>by simp[lQ]at h;subst h;trivial|v::vs,ds,h=>by unfold lQ at h;split at h;rename_i d a h1 h2;cases h;exact⟨(Ob h1).2,qc h2⟩;cases h
theorem xO{d:D}{u:aL}(h:bA w Z d u):gU u=W:=by
 cases d<;>simp only[bA]at h;subst h;rfl;subst h;rfl;subst h;rfl;subst h;rfl;split at h;obtain⟨a,cap,rfl,_⟩:=h;rfl;grind [NV];rename_i k;cases k<;>simp only[NU]at h<;>(subst h;rfl);rename_i ps;cases ps with|nil=>exact(show u=.nilIface from h)▸rfl|cons p ps=>obtain⟨b,rfl,_⟩:=h;rfl
theorem Df{c:C}{u:aL}(h:aS K β Z s a w c u)(g:c≠.bN):gU u=W:=by
 cases c with
 |d x=>exact xO h|ak e xs=>simp only[aS]at h;split at h;obtain⟨l,cap,rfl,_⟩:=h;rfl;grind [NV]
 |bm r j hv cv e k xs=>simp only[aS]at h;split at h;grind [NV];obtain⟨l,cap,rfl,_⟩:=h;rfl
 |ea r j hv e i off=>obtain⟨b,o,rfl,_⟩:=h;rfl
 |da xs=>obtain⟨b,o,rfl,_⟩:=h;rfl
 |aX k off=>obtain⟨b,_,rfl⟩:=h;rfl
 |dj f caps=>obtain⟨vs,rfl,_⟩:=h;rfl
 |bN=>exact cJ rfl g
theorem V6{e:Nat}{xs:M (M D)}{b:eu}{len cap:Nat}(h:aS K β Z s a w (.ak e xs) (.slice (J b) len cap)):cf e=I:=by grind [aS.ku,VE]
def ahe{e:Nat}{xs:M (M D)}{f:eu}{len cap:Nat}(h:aS K β Z s a w (.d (.sl e xs)) (.slice (J f) len cap)):cf e=I:=by by_cases c:cf e=W;let⟨b,h1,_⟩:=(bA.nY c).1 h;exact(VE h1).elim;simpa using c
def Dg{i:TI}{cs:M C}{off:Nat}{v:SV}{s':St}(a:(my i cs off).aE s=J (v,s')):s'=s/\0<i.size/\off+i.size<=Y cs/\((i.kind.agg=W/\v=.agg ((cs.drop off).take i.size))\/(i.kind.agg=I/\∃c,cs[off]?=J c/\c≠.bN/\v=.one c)):=by simp only[my]at a;let⟨_,d,h1,b⟩:=aT a;grind [cN,aw.aE]
def cells_of_cell?{b o:Nat}{v:aL}(h:T w ⟨b,o,O⟩=J v):∃ws el fz,w.heap[b]?=J (.cells ws el fz)/\ws[o]?=J v:=by grind [World.cell?]
def Oi{P:Program}{t:TypeId}{i:TI}(n:kN P t=J i){b o off:Nat}{cs:M C}{us:M aL}(f:aR (λu c=>aS K β Z s a w c u) us cs)(p:∀c∈cs,cP c) {v:SV}{s':St}(z:(my i cs off).aE s=J (v,s'))(d:∀j,j<Y us->T w ⟨b,o+j,O⟩=us[j]?):∃u,(loadVar t ⟨b,o+off,O⟩).run P w=.ok u w/\bQ (aS K β Z s a w) u v/\(∀c∈v.cells,cP c):=by
 obtain⟨rfl,r,A,h⟩:=Dg z;have F:=f.length;have e:=d (off+i.size-1) (by omega);rw[eD (by omega)]at e;let⟨ws,el,fz,B,D⟩:=cells_of_cell? e;have E:∀j,j<Y us->ws[o+j]?=us[j]? :=by simp_all [World.cell?]
 rcases h with⟨hk,rfl⟩|⟨hk,c,m,q,rfl⟩
 simp only[loadVar,dB,Ij n,dE,hk,bH,lj n];have g:o+off+i.size<=ws.size:=by grind
 rw[N3 B g];refine⟨.agg (ws.extract (o+off) (o+off+i.size)),by simp,⟨_,rfl,?_⟩,λc m=>p c (List.mem_of_mem_drop (List.mem_of_mem_take m))⟩;have:V (ws.extract (o+off) (o+off+i.size))=(us.drop off).take i.size:=by apply ud;grind
 rw[this];exact(f.drop off).take _;let⟨u,x,k⟩:=f.aG m;have g:off<Y us:=(ik.1 x).1;have l:=d off g;rw[x]at l;have y:=fG m;refine⟨u,?_,⟨Df k q,k⟩,by simp_all [SV.cells]⟩;simp[loadVar,Ij n,hk,l]
theorem fC.us:∀{ds:M D}{b o:Nat},fC w Z ds b o->∃us,DL w Z us ds/\∀j,j<Y us->T w ⟨b,o+j,O⟩=us[j]?|[],_,_,_=>⟨[],trivial,by simp⟩|d::ds,b,o,h=>by let⟨⟨v,h1,h2⟩,h3⟩:=h;let⟨us,a,c⟩:=fC.us h3;refine⟨v::us,⟨h2,a⟩,λj e=>?_⟩;grind
theorem DL.map:∀{us:M aL}{ds:M D},DL w Z us ds->aR (λu c=>aS K β Z s a w c u) us (ds.map .d)|[],[],_=>trivial|_::_,_::_,h=>⟨h.1,DL.map h.2⟩
def cQ(K:de)(s':St)(a:Act)(dst:Nat)(r:Result Next)(v:SV):Prop:=∃u w' b ω' Z',r=.ok (.value u) w'/\aZ K b ω' Z' s' a w'/\jh K b ω' Z' s' a w' (.tmp dst) u v
theorem cQ.same(h:aZ K β ω Z s a w){dst:Nat}{r:Result Next}{u:aL}{v:SV}(d:r=.ok (.value u) w)(hv:bQ (aS K β Z s a w) u v)(b:∀c∈v.cells,cP c):cQ K s a dst r v:=⟨u,w,β,ω,Z,d,h,jh.Db hv b⟩
theorem cQ.d(h:aZ K β ω Z s a w){dst:Nat}{r:Result Next}{u:aL}{d:D}(b:r=.ok (.value u) w)(hv:bA w Z d u):cQ K s a dst r (.one (.d d)):=cQ.same h b ⟨Df (K:=K) (β:=β) (s:=s) (a:=a) (c:=.d d) hv (by simp),hv⟩ (by simp[SV.cells,cP])
def V7(h:aZ K β ω Z s a w){t:TypeId}{i:TI}(T:kN K.P t=J i){c:C}{u:aL}{v:SV}{s':St}(A:aS K β Z s a w c u)(m:(sw i c).aE s=J (v,s')):s'=s/\∃x,(Cz t u).run K.P w=.ok x w/\bQ (aS K β Z s a w) x v/\(∀c∈v.cells,cP c):=by
 unfold sw at m;split at m;rename_i k off;simp only[aw.aE]at m;split at m;rename_i cs z;obtain⟨b,ws,el,lo,hi,g1,g2,g3,g4,g5⟩:=eh.cell h z;obtain⟨b',f1,rfl⟩:=A;rw[f1]at g1;cases g1;have N:aR (λu c=>aS K β Z s a w c u) ws.toList (iW (.box k) (s (.box k)) 0 cs):=by
  refine aR.dU (by rw[g5.length,C7]) λj u c hu R=>?_;rw[xJ]at R;cases B:cs[j]? with|none=>grind|some c0=>rw[B]at R;simp only[Option.map_some,Nat.zero_add,Option.some.injEq]at R;subst R;obtain⟨u',h1,h2⟩:=g5.aG B;rw[hu]at h1;cases h1;exact h.nU (by rw[z];exact B) (by rw[nh f1 g3];exact hu) h2
 have V:∀c∈iW (.box k) (s (.box k)) 0 cs,cP c:=by grind [nL,xJ,Oa]
 obtain⟨x,h1,h2,h3⟩:=Oi (P:=K.P) T (b:=b) (o:=0) N V m (λj hj=>by simp[World.cell?,g3]);refine⟨(Dg m).1,x,?_,h2,h3⟩;simpa[Cz,xb]using h1;simp[aw.aE]at m;rename_i r j hv e n off;simp only[aw.aE]at m;obtain⟨_,G,h1,qd⟩:=aT m;obtain⟨X,Y⟩:=cN h1;subst Y;obtain⟨b,o,rfl,_,g⟩:=A;have key:∀(H:Nat)(ys:M (M D)),((G r).at j=.ak H ys\/(G r).at j=.d (.sl H ys))->(match ys[n]? with|some ds=>my i (ds.map .d) off|none=>aw.ai).aE G=J (v,s')->s'=G/\∃x,(Cz t (.pointer (J ⟨b,o,O⟩))).run K.P w=.ok x w/\bQ (aS K β Z G a w) x v/\(∀c∈v.cells,cP c):=by
  intro H ys f y;split at y;rename_i ds hds;have hal:(G r).at j≠.bN:=by rcases f with f|f<;>(rw[f];simp)
  obtain⟨S,len,cap,f1,f2,f3,f4,ys',f5⟩:=g X hal;have hee:H=e/\ys=ys':=by rcases f with f|f<;>rw[f]at f5<;>rcases f5 with f5|f5<;>cases f5<;>exact⟨rfl,rfl⟩
  obtain⟨rfl,rfl⟩:=hee;have E:dt w Z H ys S.block S.off:=by
   rcases f with f|f
   obtain⟨u2,e1,p⟩:=h.cell (iY f (by simp));grind [aS.jg,V6];obtain⟨u2,e1,p⟩:=h.cell (iY f (by simp));rw[f1]at e1;cases e1;obtain⟨ad2,ahg,e2,_,_,e3⟩:=(bA.hY (ahe p)).1 p;cases e2;exact e3
  obtain⟨_,q⟩:=E.aG hds;obtain⟨us,F,l⟩:=q.us;obtain⟨x,h2,h3,h4⟩:=Oi (P:=K.P) T (b:=abX S) (o:=S.off+n*H) F.map (by simp[cP]) y l;refine⟨(Dg y).1,x,?_,h3,h4⟩;simp_all [Cz,xb];simp[aw.aE]at y
 grind [aw.aE];rename_i ds;obtain⟨b,o,rfl,hz,q⟩:=A;obtain⟨us,F,l⟩:=q.us;obtain⟨x,h2,h3,h4⟩:=Oi (P:=K.P) T (b:=b) (o:=o) F.map (by simp[cP]) m l;refine⟨(Dg m).1,x,?_,h3,h4⟩;simpa[Cz,xb]using h2;simp[aw.aE]at m
end
theorem aR.eF{α β:Type}{R:α->β->Prop}{as us:M α}{a cs:M β}{off:Nat}(h:aR R as a)(k:aR R us cs):aR R (Vs.eF as off us) (Vs.eF a off cs):=by unfold Vs.eF;rw[k.length];exact((h.take off).append k).append (h.drop _)
theorem Wa{α:Type}{l m:M α}{off:Nat}(h:off+m.length<=l.length):(eF l off m).length=l.length:=by simp only[eF,mo,List.length_take,List.length_drop];omega
theorem At{α:Type}{l m:M α}{off:Nat}(h:off+m.length<=l.length)(j:Nat):(eF l off m)[j]?=if off<=j/\j<off+m.length then m[j-off]? else l[j]? :=by grind [eF,List.length_take]
section
variable{K:de}{β:aD->Option Nat}{ω:Nat->Option cT}{Z:Nat->Prop}{s:St}{a:Act}{w:World}
def xP{R:C->aL->Prop}{u:aL}{v:SV}{cs:M C}(hv:bQ R u v)(a:v.fK=J cs):v.cells=cs/\aR (λu c=>R c u) (V u.cells) cs:=by
 cases v with
 |one c=>simp only[SV.fK,Option.some.injEq]at a;subst a;exact⟨rfl,by rw[lT hv.1];exact⟨hv.2,trivial⟩⟩|agg ds=>simp only[SV.fK,Option.some.injEq]at a;subst a;obtain⟨ws,rfl,h⟩:=hv;exact⟨rfl,h⟩
 |bw x=>simp[SV.fK]at a|undef=>simp[SV.fK]at a
def Wb:∀{cs:M C}{ds:M D}{s s':St},(o4 cs).aE s=J (ds,s')->∀c∈cs,c≠.bN
 |[],_,_,_,_,_,h=>by simp at h|c::cs,ds,s,s',a,x,b=>by
  simp only[o4]at a;let⟨c1,e,h1,a⟩:=aT a;let⟨d,f,h2,a⟩:=aT a;rcases iG.1 b with rfl|b
  rintro rfl;simp[mv,aw.aE]at h1;exact Wb h2 x b
theorem Wc{P:er}{t:bv}{i:TI}(d:kN P t=J i){b o:Nat}{u:aL}(a:u.cells.size=i.size){w':World}(c:(storeCells ⟨b,o,O⟩ (V u.cells)).run P w=.ok () w'):(storeVar t ⟨b,o,O⟩ u).run P w=.ok () w':=by simp[storeVar,lj d,a,c]
def ahh(h:aZ K β ω Z s a w){t:bv}{i:TI}(ht:kN K.P t=J i){take:aO->ay}{c:C}{ua u:aL}{v:SV}{y:bY}{s':St}(hca:aS K β Z s a w c ua)(hv:bQ (aS K β Z s a w) u v)(hno:∀c∈v.cells,cP c) (X:(CP take i c v).aE s=J (y,s')):∃w' β' ω' Z',(agz t ua u).run K.P w=.ok () w'/\aZ K β' ω' Z' s' a w':=by
 unfold CP at X;split at X;rename_i k off cs Y;let⟨hcc,f⟩:=xP hv Y;let⟨_,s1,h1,qd⟩:=aT X;let⟨z,hs1⟩:=cN h1;subst hs1;clear X;let⟨G,s2,h2,l⟩:=aT qd;have hal:=V0 h2;let⟨Il,Z1,H,k1,p1⟩:=Ih (mk:=λn=>(.box k,off+n)) (take:=take) cs 0 _ ω Z s1 s2 G h f (λc hc=>hno c (by rw[hcc];exact hc)) h2;simp only[aw.aE]at l;split at l;rename_i old S;let⟨_,s3,h3,p⟩:=aT l;let⟨hle,hs3⟩:=cN h3;subst hs3;simp only[eo,aw.aE,Option.some.injEq,gH]at p;obtain⟨_,rfl⟩:=p;let⟨b,ws,el,lo,hi,g1,g2,g3,g4,g5⟩:=eh.cell H S;obtain⟨b',f1,rfl⟩:=hca;rw[f1]at g1;cases g1;have q:u.cells.toList.length=i.size:=by rw[f.length,z]
 have ahi:u.cells.size=i.size:=by simpa using q
 have Wd:ws.size=old.length:=by simpa using g5.length
 let⟨w',iq,e1,A,e3⟩:=N4 (P:=K.P) (o:=off) u.cells.toList 0 w ws g3 g4 (by omega) (λx hx=>by
  let⟨j,hj⟩:=nL hx
  have N:j<cs.length:=by grind
  have Xw:=eD N
  let⟨u2,R,q2⟩:=f.aG Xw
  grind [Df])
 have B:iq.toList=eF ws.toList off u.cells.toList:=by simpa using e3
 have hcl:G.length=i.size:=by rw[<-p1.all.length,q]
 have hall':aR (λu c=>aS K β Z1 s3 a w c u) iq.toList (eF old off G):=by rw[B];exact g5.eF p1.all
 let⟨R,_⟩:=H.N5 (k:=k) (cs:=eF old off G) (w':=w') g2 (.inr f1) A.os A.tape A.output A.size A.other A.here (λo ho=>g4 o (by rw[<-A.len];exact ho)) hall' (by intro j e xs u1 b1 hj hu sD;rw[B,At (by simp;omega)]at hu;rw[At (by omega)]at hj;rw[hcl]at hj;rw[q]at hu;split at hj;rename_i hr;rw[aF hr]at hu;have:=(p1.aG hj hu).2 e xs b1 rfl sD;grind;rename_i hr;rw[aU hr]at hu;exact H.ak (.box k) j e xs u1 b1 rfl (by rw[S];exact hj) (by rw[nh f1 g3];exact hu) sD);grind [agz,xb,Wc];simp[aw.aE]at l;rename_i r j lm e n off cs Y;let⟨hcc,f⟩:=xP hv Y;let⟨_,s1,h1,qd⟩:=aT X;let⟨z,hs1⟩:=cN h1;subst hs1;clear X;let⟨ds,s2,h2,l⟩:=aT qd;have hal:=Wb h2;let⟨Il,Z1,H,k1,p1⟩:=Ii cs _ ω Z s1 s2 ds h f (λc hc=>hno c (by rw[hcc];exact hc)) h2;have ahj:=k1.li h.dp (c:=.ea r j lm e n off) (by simp) hca;simp only[aw.aE]at l;let⟨_,s3,h3,p⟩:=aT l;let⟨⟨uP,qe⟩,hs3⟩:=cN h3;subst hs3;clear l;split at p;rename_i e0 ys D;split at p;rename_i bG T;let⟨_,s4,h4,Wg⟩:=aT p;let⟨hle,hs4⟩:=cN h4;subst hs4;simp only[eo,aw.aE,Option.some.injEq,gH]at Wg;obtain⟨_,rfl⟩:=Wg;obtain⟨b,o,rfl,_,g⟩:=ahj;let⟨E,len,cap,f1,f2,f3,f4,ys',f5⟩:=g uP (xK D);have hee:e0=e/\ys=ys':=by grind
 obtain⟨rfl,rfl⟩:=hee;have V:cf e0=I:=by let⟨u2,e1,ayM⟩:=H.cell (iY D (by simp));grind [V6]
 let⟨ad2,ahg,R,q2,q3,q4⟩:=H.ownRow V D;rw[f1]at R;cases R;let⟨Im,ws,el,lo,hi,g3,g4,g5⟩:=H.ak r j e0 ys _ _ qe (iY D (by simp)) f1 rfl;let⟨hrl,hrr⟩:=q4.aG T;have hnl:n<ys.length:=(ik.1 T).1;have q:u.cells.toList.length=i.size:=by rw[f.length,z]
 have ahi:u.cells.size=i.size:=by simpa using q
 have hdl:ds.length=i.size:=by rw[<-p1.length,q]
 have hbound:E.off+n*e0+e0<=ws.size:=by
  have:n*e0+e0<=cap*e0:=by rw[<-Nat.succ_mul];exact Nat.mul_le_mul_right _ (by omega)
  omega
 subst f3;subst f4;let⟨w',iq,e1,A,e3⟩:=N4 (P:=K.P) (o:=E.off+n*e0+off) u.cells.toList 0 w ws g3 g5 (by omega) (λx hx=>by
  let⟨j,hj⟩:=nL hx
  have N:j<cs.length:=by grind
  have Xw:=eD N
  let⟨u2,R,q2⟩:=f.aG Xw
  grind [Df])
 have B:iq.toList=eF ws.toList (E.off+n*e0+off) u.cells.toList:=by simpa using e3
 have hnz:=(H.dV _ _ Im).1;have hZ:∀b,Z1 b->w'.heap[b]?=w.heap[b]? /\Z1 b:=λb hb=>⟨A.other b (λe=>hnz (e▸hb)),hb⟩;have F:∀x,w'.cell? ⟨abX E,x,O⟩=if E.off+n*e0+off<=x/\x<E.off+n*e0+off+i.size then(u.cells.toList)[x-(E.off+n*e0+off)]? else w.cell? ⟨abX E,x,O⟩:=by
  intro x;have:w'.cell? ⟨abX E,x,O⟩=iq.toList[x]? :=by simp[World.cell?,A.here]
  grind [At,World.cell?]
 have hrows:dt w' Z1 e0 (ys.set n (eF bG off ds)) E.block E.off:=by
  refine dt.dU λm x V=>?_;rw[zO]at V;by_cases hmn:n=m;subst hmn;simp only[bH,hnl]at V;cases V;refine⟨by simp_all [Wa],fC.dU λjj d hd=>?_⟩;rw[At (by omega)]at hd;rw[F];split at hd;rename_i hr;rw[aF (by omega)];let⟨u2,R,q2⟩:=p1.aG hd;grind [bA.mono];rename_i hr;rw[aU (by omega)];let⟨u2,R,q2⟩:=hrr.aG hd;grind [bA.mono];rw[aU hmn]at V;let⟨R,q2⟩:=q4.aG V;refine⟨R,fC.dU λjj d hd=>?_⟩;let⟨u2,q3,q4⟩:=q2.aG hd;have N:jj<e0:=by grind
  refine⟨u2,?_,bA.mono hZ _ _ q4⟩;rw[F,aU,q3];rintro ⟨h5,h6⟩;rcases Nat.lt_or_gt_of_ne hmn with hlt|hlt
  have:n*e0+e0<=m*e0:=by rw[<-Nat.succ_mul];exact Nat.mul_le_mul_right _ hlt
  omega;have:m*e0+e0<=n*e0:=by rw[<-Nat.succ_mul];exact Nat.mul_le_mul_right _ hlt
  omega
 have:=H.setRow V D qe f1 A g3 (by simp) hrows;grind [agz,xb,Wc];simp[aw.aE]at p;simp[aw.aE]at p;simp[aw.aE]at X
end
def iz:D->aL|.int k n=>.int k n|.bool b=>.bool b|.bj s=>.string ⟨ve s⟩|_=>.nilFunc
def sE(ds:M D):aL:=.agg (ve (ds.map iz))
def uQ{w:World}{Z:Nat->Prop}:∀{sh:M Sc}{ds:M D},cz sh ds=W->DL w Z (ds.map iz) ds
 |[],[],_=>trivial|k::sh,d::ds,h=>by cases k<;>cases d<;>simp only[cz,cr,eW,bM]at h;exact⟨rfl,uQ h.2⟩;exact⟨rfl,uQ h⟩;exact⟨rfl,uQ h⟩
 |[],_::_,h=>by cases h
 |k::_,[],h=>by cases k<;>cases h
def Dh{w:World}{Z:Nat->Prop}:∀{sh:M Sc}{ds:M D}{us:M aL},cz sh ds=W->DL w Z us ds->us=ds.map iz
 |[],[],[],_,_=>rfl|[],[],_::_,_,h=>aaY h|k::sh,d::ds,u::us,h,a=>by cases k<;>cases d<;>simp only[cz,cr,eW,bM]at h;have:=Dh h.2 a.2;have e:u=_:=a.1;rw[this,e];rfl;have:=Dh h a.2;have e:u=_:=a.1;rw[this,e];rfl;have:=Dh h a.2;have e:u=_:=a.1;rw[this,e];rfl
 |_::_,_::_,[],_,h=>aaY h|[],_::_,_,h,_=>by cases h
 |k::_,[],_,h,_=>by cases k<;>cases h
structure Di(P:Program)(t:TypeId)(sh:List Sc):Prop where
 eq:∀(w:World)(Z:Nat->Prop)(xs ys:Array Value)(ds es:List D)(x y:Operand),DL w Z (V xs) ds->DL w Z (V ys) es->cz sh ds=true->cz sh es=true->∀op,op=.eql\/op=.neq->
  (do eqGuard op t x y (.agg xs) (.agg ys);binOp op t (.agg xs) (.agg ys)).run P w=.ok (.bool (if op=.eql then dF ds es else !dF ds es)) w
 equal:∀(w:World)(ds es:List D),cz sh ds=true->cz sh es=true->(Op.equal t (sE ds) (sE es)).run P w=.ok (dF ds es) w
 check:∀(w:World)(ds:List D)(em:Bool),cz sh ds=true->(Instr.checkKey em 10000 t (sE ds)).run P w=.ok () w
 struct:∃fs,aa9 P t=some (.struct fs)
structure ib(P:Program)(af:bO):Prop where
 T:∀t i,af.ti t=some i->kN P t=some i
 E:∀t sh,lk t af.eqs=some sh->Di P t sh
 G:∀g l,lk g af.ss=some l->(g,l.map λn=>Value.int .u64 n)∈uN P
section
variable{K:de}{β:aD->Option Nat}{ω:Nat->Option cT}{Z:Nat->Prop}{s:St}{a:Act}{w:World}{af:bO}(hT:ib K.P af)
include hT
def ahl{t:bv}{c c':C}{f:Nat}{u:aL}{s':St}(p:aS K β Z s a w c u)(h:(CQ af t c f).aE s=J (c',s')):s'=s/\∃v,(agA t u f).run K.P w=.ok v w/\aS K β Z s a w c' v/\cP c'/\gU v=W:=by
 unfold CQ at h;split at h;rename_i size bytes fs zero x;split at h;rename_i o R l;split at h;rename_i i y;let⟨_,S,h1,m⟩:=aT h;let⟨z,A⟩:=cN h1;subst A;clear h;let⟨d,hd,hk,B⟩:=fe (w:=w) (hT.T _ _ x);obtain⟨fields,rfl,rfl⟩:=De hk;rw[iH]at l;cases G:fields.toList[f]? with
 |none=>grind|some fd=>
  rw[G]at l;simp only[Option.map_some,Option.some.injEq,gH]at l;obtain⟨rfl,rfl⟩:=l;have D:fields[f]?=J fd:=by simpa using G
  have g:∀b o,(agA t (.pointer (J ⟨b,o,O⟩)) f).run K.P w=.ok (.pointer (J ⟨b,o+acJ fd,O⟩)) w:=by intro b o;simp only[agA,dB,B,dE,D,xb,fF,fieldPlace,lj (hT.T _ _ y),z,ca,xI]
  cases c with
  |aX k off=>obtain⟨rfl,rfl⟩:=bh m;obtain⟨b,q,rfl⟩:=p;exact⟨rfl,_,g _ _,⟨b,q,rfl⟩,by simp[cP],rfl⟩
  |ea r j hv e n off=>obtain⟨rfl,rfl⟩:=bh m;obtain⟨b,o,rfl,q,H⟩:=p;refine⟨rfl,_,g _ _,⟨b,o+acJ fd,rfl,q,λh1 h2=>?_⟩,by simp[cP],rfl⟩;grind
  |da ds=>let⟨_,V,h2,E⟩:=aT m;let⟨N,F⟩:=cN h2;subst F;obtain⟨rfl,rfl⟩:=bh E;obtain⟨b,o,rfl,q,H⟩:=p;exact⟨rfl,_,g _ _,⟨b,o+acJ fd,rfl,q,H.drop _⟩,by simp[cP],rfl⟩
  |_=>simp[aw.aE]at m
 simp[aw.aE]at h;simp[aw.aE]at h;simp[aw.aE]at h
def ahm{t:bv}{c c':C}{k:mW}{n:L}{u:aL}{s':St}(o:aS K β Z s a w c u)(f:(CR af t c n).aE s=J (c',s')):s'=s/\∃G,(Nx t u (.int k n)).run K.P w=.ok G w/\aS K β Z s a w c' G/\cP c'/\gU G=W:=by
 unfold CR at f;split at f;rename_i size bytes et zero p;let⟨d,hd,hk,q⟩:=fe (w:=w) (hT.T _ _ p);have v:=n6 hk;subst v;split at f;rename_i i x;have m:∀(y:eu)(len cap:Nat),y.spot=O->0<=n/\n<len->(Nx t (.slice (J y) len cap) (.int k n)).run K.P w=.ok (.pointer (J ⟨abX y,y.off+n.toNat*i.size,O⟩)) w:=by intro y len cap H z;simp[Nx,asIntOf,q,lj (hT.T _ _ x),z,rp H]
 split at f;rename_i r j hv cv e k' xs;let⟨_,Y,h1,g⟩:=aT f;let⟨z,h⟩:=cN h1;subst h;let⟨_,s2,h2,l⟩:=aT g;let⟨⟨B,N⟩,A⟩:=cN h2;subst A;obtain⟨rfl,rfl⟩:=bh l;obtain⟨R,D,rfl,S,g3,V,g5,g6⟩:=(aS.pb N).1 o;refine⟨rfl,_,m R _ D S z,⟨_,_,rfl,V,λq1 q2=>?_⟩,by simp[cP],rfl⟩;grind;rename_i e xs;let⟨_,Y,h1,g⟩:=aT f;let⟨z,h⟩:=cN h1;subst h;let⟨_,s2,h2,l⟩:=aT g;let⟨⟨B,N⟩,A⟩:=cN h2;subst A;split at l;rename_i ds E;obtain⟨rfl,rfl⟩:=bh l;obtain⟨y,cap,rfl,X,g3,g5⟩:=(bA.hY N).1 o;let⟨_,F⟩:=g5.aG E;have hlt:=(ik.1 E).1;let⟨S,V⟩:=acH X (by omega);exact⟨rfl,_,m y _ cap S z,⟨_,_,rfl,V,by rw[B];exact F⟩,by simp[cP],rfl⟩;grind;simp[aw.aE]at f;simp[aw.aE]at f;rename_i size bytes len et zero p;let⟨d,hd,hk,q⟩:=fe (w:=w) (hT.T _ _ p);have v:=Ik hk;subst v;split at f;rename_i i x;split at f;rename_i key off;let⟨_,Y,h1,g⟩:=aT f;let⟨z,h⟩:=cN h1;subst h;obtain⟨rfl,rfl⟩:=bh g;obtain⟨b,g1,rfl⟩:=o;refine⟨rfl,_,?_,⟨b,g1,rfl⟩,by simp[cP],rfl⟩;simp[Nx,asIntOf,q,lj (hT.T _ _ x),z,xb,xI];simp[aw.aE]at f;simp[aw.aE]at f;simp[aw.aE]at f
end
def ahn(l:M ao):(lK (ve l)).toList=l:=by rw[Lib.toList_data]
def Dj(l:M ao):(lK (ve l)).size=Y l:=by simp[CA]
def aho(l m:M ao):lK (ve l)++lK (ve m)=lK (ve (l++m)):=by apply agB;simp_all
def ahp(l:M ao)(n:Nat):(lK (ve l))[n]?=l[n]? :=by by_cases h:n<Y l;rw[eD h,getElem?_pos (lK (ve l)) n (by simpa[CA]using h)];rfl;grind [CA]
def Wh(l:M ao)(a b:Nat):(lK (ve l)).extract a b=lK (ve ((l.take b).drop a)):=by apply agB;simp[ByteArray.data_extract];rw[List.drop_take]
section
variable{K:de}{β:aD->Option Nat}{ω:Nat->Option cT}{Z:Nat->Prop}{s:St}{a:Act}{w:World}{af:bO}(hT:ib K.P af)
def ahq{op:jR}{k:mW}{x y:L}{v:SV}{s':St}{t:bv}(a:op≠.shl/\op≠.shr)(b:(uD op k x y).aE s=J (v,s')):
  s'=s/\∃d u,v=.one (.d d)/\(binOp op t (.int k x) (.int k y)).run K.P w=.ok u w/\bA w Z d u:=by
 cases op<;>simp only[uD,gJ,jK]at b<;>first
  |exact cJ rfl a.1
  |exact cJ rfl a.2
  |(obtain⟨rfl,rfl⟩:=bh b;exact⟨rfl,_,_,rfl,by simp[binOp,Op.intArith,Op.intBits,Op.intCmp],rfl⟩)
  |(obtain⟨_,g,h1,c⟩:=aT b
    obtain⟨f,e⟩:=cN h1
    subst e
    obtain⟨rfl,rfl⟩:=bh c
    exact⟨rfl,_,_,rfl,by simp[binOp,Op.intDiv,f],rfl⟩)
  |(simp[aw.aE]at b)
def ahr{op:jR}{x y:M ao}{v:SV}{s':St}{t:bv}(b:(CO op x y).aE s=J (v,s')):s'=s/\∃d u,v=.one (.d d)/\(binOp op t (.string ⟨ve x⟩) (.string ⟨ve y⟩)).run K.P w=.ok u w/\bA w Z d u:=by
 have a:(x==y)=decide (x=y):=by by_cases h:x=y<;>simp[h]
 cases op<;>simp only[CO,jK]at b<;>first
  |(obtain⟨rfl,rfl⟩:=bh b
    refine⟨rfl,_,_,rfl,?_,rfl⟩
    simp only[binOp,Op.stringOp,ahn,a,fF])
  |(let⟨_,f,h1,c⟩:=aT b
    let⟨g,e⟩:=cN h1
    subst e
    obtain⟨rfl,rfl⟩:=bh c
    refine⟨rfl,_,_,rfl,?_,rfl⟩
    simp only[binOp,Op.stringOp,Dj,aho]
    rw[aU]
    simp
    simp only[IntKind.max,Ht,IntKind.bits]
    simp
    omega)
  |(simp[aw.aE]at b)
theorem ahs(op:jR)(t:bv)(x y:cD){u v:aL}(a:gU u=W)(b:u≠.nilIface):(eqGuard op t x y u v).run K.P w=.ok () w:=by unfold eqGuard;cases op<;>simp<;>cases u<;>simp_all [gU]
def aht{P:er}{t:bv}(a:(underlying t).run P w=.ok .bool w)(d:Nat)(x y:ay):(Hu (d+1) t (.bool x) (.bool y)).run P w=.ok (x==y) w:=by rw[Hu];simp[a]
def Wi{P:er}{t:bv}(a:(underlying t).run P w=.ok .bool w)(x y:ay):(Op.equal t (.bool x) (.bool y)).run P w=.ok (x==y) w:=aht a 9999 x y
def ahu{P:er}{t e:bv}(a:(underlying t).run P w=.ok (.slice e) w)(d:Nat)(b:Option eu)(l c:Nat):(Hu (d+1) t (.slice b l c) (.slice O 0 0)).run P w=.ok b.isNone w:=by rw[Hu];simp only[dB,a,dE];cases b<;>simp
def eq_nil{P:er}{t e:bv}(a:(underlying t).run P w=.ok (.slice e) w)(b:Option eu)(l c:Nat):(Op.equal t (.slice b l c) (.slice O 0 0)).run P w=.ok b.isNone w:=ahu a 9999 b l c
def Wj{K:de}{β:aD->Option Nat}{Z:Nat->Prop}{s:St}{a:Act}{w:World}{c:C}{b:ay}{v:aL}(h:xv c=J b)(i:aS K β Z s a w c v):∃f l cap,v=.slice f l cap/\f.isNone=b/\gU v=W:=by
 cases c with
 |d x=>cases x<;>simp only[xv,Option.some.injEq,reduceCtorEq]at h;have e:v=.slice O 0 0:=i;subst h e;exact⟨_,_,_,rfl,rfl,rfl⟩;split at h;cases h;rename_i g;let⟨f,cap,e,_⟩:=(bA.hY (by simpa using g)).1 i;cases h;subst e;exact⟨_,_,_,rfl,rfl,rfl⟩
 |ak e xs=>simp only[xv]at h;split at h;cases h;rename_i g;let⟨f,cap,e,_⟩:=(aS.jg (by simpa using g)).1 i;cases h;subst e;exact⟨_,_,_,rfl,rfl,rfl⟩
 |bm=>simp only[xv]at h;split at h;cases h;rename_i g;let⟨f,cap,e,_⟩:=(aS.pb (by simpa using g)).1 i;cases h;subst e;exact⟨_,_,_,rfl,rfl,rfl⟩
 |_=>simp[xv]at h
def Io{cs:M C}:∀{us:M aL}{ds:M D},jV cs=J ds->aR (λu c=>aS K β Z s a w c u) us cs->DL w Z us ds:=by
 induction cs with
 |nil=>intro us ds h b;simp[jV]at h;subst h;cases us with|nil=>trivial|cons _ _=>exact aaY b
 |cons c cs e=>
  intro us ds h b;cases us with
  |nil=>exact aaY b|cons u us=>
   cases c with
   |d x=>simp only[jV]at h;split at h;rename_i f h1;cases h;exact⟨b.1,e h1 b.2⟩;cases h
   |_=>simp[jV]at h
include hT in
def ahv(h:aZ K β ω Z s a w){op:jR}{t yt:bv}{x y:cD}{dst:Nat}{o:cR}(ho:o.op=.binOp op t x y yt){v:SV}{s':St}(S:(cq af o.op dst).aE s=J (v,s')):cQ K s' a dst ((execOp a.eval o).run K.P w) v:=by
 rw[ho]at S;simp only[cq]at S;let⟨v1,s1,h1,D⟩:=aT S;let⟨n,F,xV,_⟩:=iM h h1;subst n;clear S;let⟨v2,s2,h2,b⟩:=aT D;let⟨p,G,hn2,_⟩:=iM h h2;subst p;clear D;have i:(execOp a.eval o).run K.P w=((do eqGuard op t x y (ab3 a x) (ab3 a y);binOp op t (ab3 a x) (ab3 a y):Sem aL).run K.P w).andThen λu w'=>.ok (.value u) w':=by simp only[execOp,ho,dB,fF]
 split at b;rename_i c1 c2;let⟨o1,m⟩:=F;let⟨o2,q⟩:=G;have key:s'=s2/\ab3 a x≠.nilIface/\∃d u,v=.one (.d d)/\(binOp op t (ab3 a x) (ab3 a y)).run K.P w=.ok u w/\bA w Z d u:=by
  unfold su at b;split at b;rename_i k i1 k' i2;have g:ab3 a x=.int k i1:=m;have j:ab3 a y=.int k' i2:=q;rw[g,j];split at b;let⟨_,s3,h3,r⟩:=aT b;let⟨H,z⟩:=cN h3;subst z;obtain⟨rfl,rfl⟩:=bh r;refine⟨rfl,by simp,_,_,rfl,?_,rfl⟩;simp_all [binOp,Op.shift,aU];let⟨_,s3,h3,r⟩:=aT b;let⟨H,z⟩:=cN h3;subst z;obtain⟨rfl,rfl⟩:=bh r;refine⟨rfl,by simp,_,_,rfl,?_,rfl⟩;simp_all [binOp,Op.shift,aU];rename_i n p;split at b;rename_i hk;subst hk;let⟨g1,g2⟩:=ahq (K:=K) (w:=w) (Z:=Z) (t:=t) ⟨n,p⟩ b;grind;simp[aw.aE]at b;rename_i l1 l2;have g:ab3 a x=.string ⟨ve l1⟩:=m;have j:ab3 a y=.string ⟨ve l2⟩:=q;rw[g,j];let⟨g1,g2⟩:=ahr (K:=K) (w:=w) (Z:=Z) (t:=t) b;grind;rename_i b1 b2;have g:ab3 a x=.bool b1:=m;have j:ab3 a y=.bool b2:=q;rw[g,j];split at b;rename_i c;let⟨d,hd,hk,f⟩:=fe (w:=w) (hT.T _ _ c);have A:d=.bool:=by cases d<;>simp[tk]at hk;rfl
  subst A;obtain⟨rfl,rfl⟩:=bh b;refine⟨rfl,by simp,_,_,rfl,?_,rfl⟩;simp only[binOp,dB,Wi f,dE,fF];rename_i c;let⟨d,hd,hk,f⟩:=fe (w:=w) (hT.T _ _ c);have A:d=.bool:=by cases d<;>simp[tk]at hk;rfl
  subst A;obtain⟨rfl,rfl⟩:=bh b;refine⟨rfl,by simp,_,_,rfl,?_,rfl⟩;simp only[binOp,dB,Wi f,dE,fF];simp[aw.aE]at b;have j:ab3 a y=.slice O 0 0:=q;rw[j];unfold HR at b;split at b;rename_i c H;let⟨d,hd,hk,f⟩:=fe (w:=w) (hT.T _ _ c);obtain⟨e,rfl⟩:∃e,d=.slice e:=by cases d<;>simp[tk]at hk;exact⟨_,rfl⟩
  let⟨ad,l,cap,g,B,_⟩:=Wj H m;rw[g];obtain⟨rfl,rfl⟩:=bh b;refine⟨rfl,by simp,_,_,rfl,?_,rfl⟩;simp only[binOp,dB,eq_nil f,dE,fF,B];rename_i c H;let⟨d,hd,hk,f⟩:=fe (w:=w) (hT.T _ _ c);obtain⟨e,rfl⟩:∃e,d=.slice e:=by cases d<;>simp[tk]at hk;exact⟨_,rfl⟩
  let⟨ad,l,cap,g,B,_⟩:=Wj H m;rw[g];obtain⟨rfl,rfl⟩:=bh b;refine⟨rfl,by simp,_,_,rfl,?_,rfl⟩;simp only[binOp,dB,eq_nil f,dE,fF,B];simp[aw.aE]at b;simp[aw.aE]at b
 grind [cQ.d,dB,dE,ahs];rename_i xQ cs2;unfold HS at b;let⟨N,g,m⟩:=F;let⟨R,j,q⟩:=G;split at b;rename_i sh ds es V X Y;have hE:=(hT.E t sh V).eq;split at b;rename_i C;simp only[cr]at C;obtain⟨rfl,rfl⟩:=bh b;refine cQ.d (d:=.bool (dF ds es)) h (u:=.bool (dF ds es)) ?_ rfl;rw[i,g,j,hE w Z N R ds es x y (Io X m) (Io Y q) C.1 C.2 .eql (.inl rfl)];rfl;simp[aw.aE]at b;rename_i sh ds es V X Y;have hE:=(hT.E t sh V).eq;split at b;rename_i C;simp only[cr]at C;obtain⟨rfl,rfl⟩:=bh b;refine cQ.d (d:=.bool (!dF ds es)) h (u:=.bool (!dF ds es)) ?_ rfl;rw[i,g,j,hE w Z N R ds es x y (Io X m) (Io Y q) C.1 C.2 .neq (.inr rfl)];rfl;simp[aw.aE]at b;simp[aw.aE]at b;simp[aw.aE]at b
end
section
variable{K:de}{β:aD->Option Nat}{ω:Nat->Option cT}{Z:Nat->Prop}{s:St}{a:Act}{w:World}{af:bO}(hT:ib K.P af)
def uR{c:C}{n:L}{s':St}(a:(oY c).aE s=J (n,s')):s'=s/\∃k,c=.d (.int k n):=by unfold oY at a;grind [aw.aE]
def ahx{c:C}{b:ay}{s':St}(a:(Af c).aE s=J (b,s')):s'=s/\c=.d (.bool b):=by unfold Af at a;grind [aw.aE]
def ayN(h:aZ K β ω Z s a w){x:cD}{n:L}{s':St}(f:(do let c <-dZ x;oY c:aw L).aE s=J (n,s')):s'=s/\∃k,ab3 a x=.int k n:=by let⟨c,i,h1,b⟩:=aT f;let⟨d,j,g,_⟩:=gs h h1;subst d;obtain⟨e,k,rfl⟩:=uR b;exact⟨e,k,g⟩
def ahy(h:aZ K β ω Z s a w){op:UnOp}{t:bv}{x:cD}{dst:Nat}{o:cR}(m:o.op=.unOp op t x){v:SV}{s':St}(i:(cq af o.op dst).aE s=J (v,s')):cQ K s' a dst ((execOp a.eval o).run K.P w) v:=by
 rw[m]at i;simp only[cq]at i;let⟨c,p,h1,f⟩:=aT i;let⟨j,q,l,_⟩:=gs h h1;subst j;clear i;have e:(execOp a.eval o).run K.P w=((Op.unary op (ab3 a x)).run K.P w).andThen λu w'=>.ok (.value u) w':=by simp only[execOp,m,dB,fF]
 split at f;rename_i k n _;obtain⟨rfl,rfl⟩:=bh f;have g:ab3 a x=.int k n:=l;exact cQ.d (d:=.int k (aaX k (0-n))) h (u:=.int k (aaX k (0-n))) (by rw[e,g];simp[Op.unary,Op.intArith]) rfl;rename_i k n _;have g:ab3 a x=.int k n:=l;simp only[uD,gJ]at f;obtain⟨rfl,rfl⟩:=bh f;exact cQ.d (d:=.int k _) h (u:=.int k _) (by rw[e,g];simp[Op.unary,Op.intBits]) rfl;rename_i b _;obtain⟨rfl,rfl⟩:=bh f;have g:ab3 a x=.bool b:=l;exact cQ.d (d:=.bool (!b)) h (u:=.bool (!b)) (by rw[e,g];simp[Op.unary]) rfl;simp[aw.aE]at f
def ahz{b:ay}{v x:SV}{u:aL}{s':St}(hv:bQ (aS K β Z s a w) u v)(c:(rb b v).aE s=J (x,s')):s'=s/\∃n:Nat,x=gJ .i64 n/\((b=W/\∃l:M ao,u=.string ⟨ve l⟩/\n=Y l)\/(b=I/\∃h cap,u=.slice h n cap)):=by unfold rb at c;split at c;rename_i l;obtain⟨rfl,rfl⟩:=bh c;exact⟨rfl,Y l,rfl,.inl ⟨rfl,l,hv.2,rfl⟩⟩;obtain⟨rfl,rfl⟩:=bh c;exact⟨rfl,0,rfl,.inr ⟨rfl,O,0,hv.2⟩⟩;rename_i e xs;let⟨_,m,h1,d⟩:=aT c;let⟨i,f⟩:=cN h1;subst f;obtain⟨rfl,rfl⟩:=bh d;let⟨h,cap,g,_⟩:=(bA.hY i).1 hv.2;grind;rename_i r j o cv e k xs;let⟨_,m,h1,d⟩:=aT c;let⟨i,f⟩:=cN h1;subst f;obtain⟨rfl,rfl⟩:=bh d;let⟨h,cap,g,_⟩:=(aS.pb i).1 hv.2;grind;simp[aw.aE]at c
def Oj(x:Option L)(y:Option aL):Prop:=(x=O/\y=O)\/∃n k,x=J n/\y=J (.int k n)
def Ip(h:aZ K β ω Z s a w){o:Option cD}{x:Option L}{s':St}(b:(uJ o).aE s=J (x,s')):s'=s/\Oj x (o.map a.eval):=by
 cases o with
 |none=>obtain⟨rfl,rfl⟩:=bh b;exact⟨rfl,.inl ⟨rfl,rfl⟩⟩
 |some y=>simp only[uJ]at b;let⟨c,p,h1,d⟩:=aT b;let⟨n,q,h2,e⟩:=aT d;let⟨j,f⟩:=bh e;let⟨g,r,l,_⟩:=gs h h1;subst g;let⟨i,k,m⟩:=uR h2;subst i;subst f;subst j;subst m;exact⟨rfl,.inr ⟨n,k,rfl,by rw[Option.map_some];exact congrArg J l⟩⟩
def Wk{P:er}(a:ay)(len cap:Nat){lo hi:Option L}{b c:Option aL}(d:Oj lo b)(e:Oj hi c)(f:0<=X lo 0/\X lo 0<=X hi len/\X hi len<=len)(g:len<=cap):(Ny a len cap b c O).run P w=.ok (G (X lo 0),G (X hi len),cap) w:=by
 rcases d with⟨rfl,rfl⟩|⟨n,k,rfl,rfl⟩<;>rcases e with⟨rfl,rfl⟩|⟨m,k',rfl,rfl⟩<;>simp only[Option.getD_none,Option.getD_some]at f ⊢;simp[Ny];have h1:0<=m/\m<=(cap:L):=by omega
 simp[Ny,agC,asIntOf,h1];simp_all [Ny,agC,asIntOf];have h1:0<=m/\m<=(cap:L):=by omega
 have h2:0<=n/\n<=m:=by omega
 have h3:0<=n/\n<=((G m:Nat):L):=by omega
 simp_all [Ny,agC,asIntOf]
include hT in
def ahA(h:aZ K β ω Z s a w){t:bv}{x:cD}{lo hi:Option cD}{dst:Nat}{o:cR}(ho:o.op=.slice t x lo hi O){v:SV}{s':St}(E:(cq af o.op dst).aE s=J (v,s')):cQ K s' a dst ((execOp a.eval o).run K.P w) v:=by
 rw[ho]at E;simp only[cq]at E;have z:(execOp a.eval o).run K.P w=((agD t (ab3 a x) (lo.map a.eval) (hi.map a.eval) O).run K.P w).andThen λu w'=>.ok (.value u) w':=by simp only[execOp,ho,dB,fF];rfl
 split at E;rename_i N;let⟨d,hd,hk,R⟩:=fe (w:=w) (hT.T _ _ N);have S:=sC hk;subst S;let⟨v1,s1,h1,A⟩:=aT E;let⟨V,hv,Iz,hnu1⟩:=iM h h1;subst V;clear E;let⟨l,s2,h2,B⟩:=aT A;let⟨X,hl⟩:=Ip h h2;subst X;clear A;let⟨m,s3,h3,f⟩:=aT B;let⟨Y,hm⟩:=Ip h h3;subst Y;clear B;unfold HZ at f;split at f;rename_i bj;let⟨_,s4,h4,q⟩:=aT f;let⟨G,y⟩:=cN h4;subst y;obtain⟨rfl,rfl⟩:=bh q;have e1:ab3 a x=.string ⟨ve bj⟩:=hv.2;refine cQ.d h (u:=.string ⟨ve ((bj.take (m.getD bj.length).toNat).drop (l.getD 0).toNat)⟩) ?_ rfl;rw[z,e1];have hbd:=Wk (P:=K.P) (w:=w) I bj.length bj.length hl hm G (Nat.le_refl _);simp only[agD,Instr.slice,dB,R,dE,Dj,Option.isSome_none,bM,ca];simp only[fF,dE,hbd,Wh];simp[aw.aE]at f;rename_i et N;split at E;rename_i i hft;let⟨d,hd,hk,R⟩:=fe (w:=w) (hT.T _ _ N);have S:=n6 hk;subst S;let⟨v1,s1,h1,A⟩:=aT E;let⟨V,hv,Iz,hnu1⟩:=iM h h1;subst V;clear E;let⟨l,s2,h2,B⟩:=aT A;let⟨X,hl⟩:=Ip h h2;subst X;clear A;let⟨m,s3,h3,f⟩:=aT B;let⟨Y,hm⟩:=Ip h h3;subst Y;clear B;have C:∀(F:Option eu)(len cap:Nat),0<=l.getD 0/\l.getD 0<=m.getD len/\m.getD len<=len->len<=cap->ab3 a x=.slice F len cap->(execOp a.eval o).run K.P w=.ok (.value (.slice (if cap=(l.getD 0).toNat then F else F.map (·.add ((l.getD 0).toNat*i.size))) ((m.getD len).toNat-(l.getD 0).toNat) (cap-(l.getD 0).toNat))) w:=by intro F len cap G hc hx;have hbd:=Wk (P:=K.P) (w:=w) W len cap hl hm G hc;rw[z,hx];simp only[agD,Instr.slice,dB,R,dE,hbd,lj (hT.T _ _ hft),fF]
 unfold rc at f;split at f;let⟨_,s4,h4,q⟩:=aT f;let⟨G,y⟩:=cN h4;subst y;obtain⟨rfl,rfl⟩:=bh q;have e1:ab3 a x=.slice O 0 0:=hv.2;have:=C O 0 0 (by grind) (Nat.le_refl _) e1;refine cQ.d h (u:=.slice O 0 0) ?_ rfl;grind;rename_i e xs;let⟨_,s4,h4,q⟩:=aT f;let⟨G,y⟩:=cN h4;subst y;let⟨_,s5,h5,he6⟩:=aT q;let⟨⟨hsz,D⟩,hs5⟩:=cN h5;subst hs5;obtain⟨rfl,rfl⟩:=bh he6;let⟨F,cap,e1,g24,g3,g5⟩:=(bA.hY D).1 hv.2;have hr:=C (J F) xs.length cap G g3 e1;refine cQ.d h hr ?_;have b:((xs.take (m.getD xs.length).toNat).drop (l.getD 0).toNat).length=(m.getD xs.length).toNat-(l.getD 0).toNat:=by simp_all
 have hrows:=(g5.take (m.getD xs.length).toNat).drop (l.getD 0).toNat;refine(bA.hY D).2 ?_;by_cases g:cap=(l.getD 0).toNat;rw[aF g];refine⟨F,cap-(l.getD 0).toNat,by rw[b],.inl (by omega),by rw[b];omega,?_⟩;have:((xs.take (m.getD xs.length).toNat).drop (l.getD 0).toNat)=[]:=List.length_eq_zero_iff.1 (by omega);rw[this];trivial;rw[aU g];have hc0:cap≠0:=by omega
 let⟨H,g4⟩:=acH g24 hc0;refine⟨F.add ((l.getD 0).toNat*i.size),cap-(l.getD 0).toNat,by rw[b];rfl,.inr ⟨?_,?_⟩,by rw[b];omega,?_⟩;rw[rp H];rw[rp H];exact g4;simp_all [rp];rename_i r j lm cv e k xs;let⟨_,s4,h4,q⟩:=aT f;let⟨G,y⟩:=cN h4;subst y;let⟨_,s5,h5,he6⟩:=aT q;let⟨⟨hsz,D⟩,hs5⟩:=cN h5;subst hs5;obtain⟨rfl,rfl⟩:=bh he6;let⟨p,c,e1,H,g3,g4,g5,g6⟩:=(aS.pb D).1 hv.2;have hr:=C (J p) xs.length c G g3 e1;have b:((xs.take (m.getD xs.length).toNat).drop (l.getD 0).toNat).length=(m.getD xs.length).toNat-(l.getD 0).toNat:=by simp_all
 refine cQ.same h hr ⟨rfl,(aS.pb D).2 ?_⟩ (by simp[SV.cells,cP]);have hsp:(if c=(l.getD 0).toNat then p else p.add ((l.getD 0).toNat*i.size)).spot=O:=by split;exact H;rw[rp H]
 have hblk:abX (if c=(l.getD 0).toNat then p else p.add ((l.getD 0).toNat*i.size))=abX p:=by split;rfl;rw[rp H]
 refine⟨if c=(l.getD 0).toNat then p else p.add ((l.getD 0).toNat*i.size),c-(l.getD 0).toNat,by rw[b];split<;>rfl,hsp,by rw[b];omega,g4,g5,λq1 q2=>?_⟩;let⟨F,len,cap,f1,f2,f3,f4,f4b,f5,f6,f7,ys,f8,f9⟩:=g6 q1 q2;refine⟨F,len,cap,f1,f2,by rw[hblk];exact f3,?_,?_,by omega,by rw[b];omega,f7,ys,f8,λsF=>?_⟩;by_cases g:c=(l.getD 0).toNat;exact .inr (by omega);rw[aU g,rp H];rcases f4 with f4|f4
 grind;right;omega;by_cases g:c=(l.getD 0).toNat;grind;rw[aU g,rp H];rcases f4 with f4|f4
 simp only;rw[f4,<-hsz,<-f5,Nat.add_mul];have:(l.getD 0).toNat*e<=c*e:=Nat.mul_le_mul_right _ (by omega);omega;omega;rw[b];have hx:=f9 sF;rw[hx];apply ud;intro n;simp only[List.getElem?_drop,List.getElem?_take];by_cases hn:n<(m.getD xs.length).toNat-(l.getD 0).toNat;have h1:(l.getD 0).toNat+n<(m.getD ((List.take xs.length (List.drop k ys)).length:L)).toNat:=by rw[<-hx];omega
 have h2:(l.getD 0).toNat+n<xs.length:=by omega
 grind;have h1:¬((l.getD 0).toNat+n<(m.getD ((List.take xs.length (List.drop k ys)).length:L)).toNat):=by rw[<-hx];omega
 grind;simp[aw.aE]at f;simp[aw.aE]at E;simp[aw.aE]at E
end
open Go.MapKept
def Wl{ki ei:TI}(h1:ki.size<32768)(h2:ei.size<32768):uA (dn ki ei)=ki.size:=by grind [uA,dn,pW,agE]
def ahC{ki ei:TI}(h2:ei.size<32768):HO (dn ki ei)=ei.size:=by grind [HO,dn,pW,agE]
def Wm{ki ei:TI}(h2:ei.size<32768):xq (dn ki ei)=ki.kind.agg:=by unfold xq dn pW;cases ki.kind.agg<;>cases ei.kind.agg<;>simp<;>omega
def ahD{ki ei:TI}:xt (dn ki ei)=ei.kind.agg:=by grind [xt,dn,pW]
def xR{ki ei:TI}(h1:ki.size<32768)(h2:ei.size<32768){en:dT}:qa (dn ki ei) en↔iy ki.kind.agg ki.size en.key/\iy ei.kind.agg ei.size en.val:=by have a:=Wm (ki:=ki) h2;have b:=Wl h1 h2;have c:xt (dn ki ei)=ei.kind.agg:=ahD;have d:=ahC (ki:=ki) h2;unfold qa;rw[a,b,c,d]
def Iq{ki ei:TI}:cf (dn ki ei)=W:=by unfold cf dn pW;simp
theorem xS{ki ei:TI}(h1:ki.size<32768)(h2:ei.size<32768):fN (dn ki ei)=I:=by
 have a:ki.kind.agg.toNat<=1:=by cases ki.kind.agg<;>decide
 have b:ei.kind.agg.toNat<=1:=by cases ei.kind.agg<;>decide
 have:dn ki ei<1099511627776:=by unfold dn pW;omega
 unfold fN;cases h:Nat.ble 1099511627776 (dn ki ei);rfl;have:=Nat.le_of_ble_eq_true h;omega
def Ol{ki ei:TI}(h1:ki.size<32768)(h2:ei.size<32768):dn ki ei<549755813888:=by grind [agE,dn,pW]
theorem uS{ki ei:TI}(h1:ki.size<32768)(h2:ei.size<32768):hV (dn ki ei)=I:=by have:=Ol h1 h2;unfold hV;cases h:Nat.ble 549755813888 (dn ki ei);rfl;have:=Nat.le_of_ble_eq_true h;omega
structure Wn(ki ei:TI)(e:Nat):Prop where
 mp:cf e=true
 it:fN e=false
 oe:oE e=dn ki ei
def Wo{e:Nat}(h:e<1099511627776):fN e=I:=by unfold fN;cases h2:Nat.ble 1099511627776 e;rfl;have:=Nat.le_of_ble_eq_true h2;omega
def ahE(e:Nat):549755813888<=jU e/\jU e=e+549755813888:=by unfold jU;omega
def ahF{e n:Nat}(h1:549755813888<=e)(h2:e<1099511627776)(h3:e=n+549755813888):oE e=n:=by simp_all [hV,Wo,Nat.ble_eq_true_of_le,oE]
def sG{ki ei:TI}(h1:ki.size<32768)(h2:ei.size<32768){e:Nat}(h:e=dn ki ei\/e=jU (dn ki ei)):Wn ki ei e:=by
 rcases h with rfl|h
 exact⟨Iq,xS h1 h2,VG (uS h1 h2)⟩;have f:=Ol h1 h2;let⟨a,b⟩:=ahE (dn ki ei);rw[<-h]at a b;have c:e<1099511627776:=by omega
 have d:4294967296<=e:=by omega
 exact⟨Nat.ble_eq_true_of_le d,Wo c,ahF a c b⟩
section
variable{K:de}{β:aD->Option Nat}{ω:Nat->Option cT}{Z:Nat->Prop}{s:St}{a:Act}{w:World}{af:bO}
def uT{P:er}(hT:ib P af){t kt:bv}{ki ei:TI}(h:jt af t=J (kt,ki,ei)):∃a,aa9 P t=J (.map kt a)/\af.ti kt=J ki/\af.ti a=J ei/\ki.size<32768/\ei.size<32768:=by unfold jt at h;split at h;rename_i size bytes e a zero c;split at h;rename_i f g h1 h2;split at h;rename_i i;cases h;let⟨info,d,k,j,l,m,b,n⟩:=sB (hT.T _ _ c);refine⟨a,?_,h1,h2,i⟩;simp only at b;cases d<;>simp[tk]at b;rw[j,b.1,b.2];cases h;cases h;cases h
def eH(agg:ay)(ds:M D):aL:=if agg then sE ds else iz (ds.headD .nil)
structure Om(P:Program)(kt:TypeId)(sh:List Sc)(agg:Bool):Prop where
 check:∀(w:World)(ds:List D)(em:Bool),cz sh ds=true->(Instr.checkKey em 10000 kt (eH agg ds)).run P w=.ok () w
 find:∀(w:World)(kd:List D)(es:List MapEntry)(jw:List (List D)),cz sh kd=true->aR (λen ks=>en.key=eH agg ks/\cz sh ks=true) es jw->
  ∃r,(Instr.findKey kt (eH agg kd) es).run P w=.ok r w/\((r=none/\∀ks∈jw,dF kd ks=false)\/∃(i:Nat)(en:MapEntry)(ks:List D),r=some (i,en.val)/\es[i]?=some en/\jw[i]?=some ks/\dF kd ks=true/\∀(j:Nat)ks',j<i->jw[j]?=some ks'->dF kd ks'=false)
def ahG{k:Sc}{a b:D}(c:cz [k] [a]=W)(d:cz [k] [b]=W):jL a b=W↔a=b:=by cases k<;>cases a<;>simp only[cz,cr,eW,bM,zQ]at c<;> cases b<;>simp only[cz,cr,eW,bM,zQ]at d<;>simp[jL];rw[c,d];simp
def xT{k:Sc}{sh:M Sc}{d:D}{ds:M D}(h:cz (k::sh) (d::ds)=W):cz [k] [d]=W/\cz sh ds=W:=by cases k<;>cases d<;>simp only[cz,cr,eW,bM,zQ]at h ⊢ <;>simp_all
theorem Ir:∀{sh:M Sc}{xs ys:M D},cz sh xs=W->cz sh ys=W->(dF xs ys=W↔xs=ys)
 |[],[],[],_,_=>by simp[dF]|k::sh,x::xs,y::ys,h1,h2=>by let⟨a,b⟩:=xT h1;let⟨c,d⟩:=xT h2;simp only[dF,cr,ahG a c,Ir b d,zR]
 |[],_::_,_,h,_=>by cases h
 |[],[],_::_,_,h=>by cases h
 |k::_,[],_,h,_=>by cases k<;>cases h
 |k::_,_::_,[],_,h=>by cases k<;>cases h
def Wp{P:er}{kt:bv}{sh:M Sc}(c:Di P kt sh)(kd:M D)(hk:cz sh kd=W):∀(es:M dT)(jw:M (M D))(i:Nat),aR (λen ks=>en.key=eH W ks/\cz sh ks=W) es jw->∃r,(ayg kt (eH W kd) es i).run P w=.ok r w/\((r=O/\∀ks∈jw,dF kd ks=I)\/∃(n:Nat)(en:dT)(ks:M D),r=J (i+n,en.val)/\es[n]?=J en/\jw[n]?=J ks/\dF kd ks=W/\∀(j:Nat)ks',j<n->jw[j]?=J ks'->dF kd ks'=I)
 |[],[],i,_=>⟨O,rfl,.inl ⟨rfl,by simp⟩⟩|en::es,ks::jw,i,h=>by
  have d:=c.equal w kd ks hk h.1.2;have a:en.key=sE ks:=h.1.1;simp only[ayg,dB,a,eH,bH,d,dE];cases e:dF kd ks with
  |true=>exact⟨J (i,en.val),rfl,.inr ⟨0,en,ks,rfl,rfl,rfl,e,by simp⟩⟩|false=>
   let⟨r,h1,h2⟩:=Wp c kd hk es jw (i+1) h.2;simp only[eH,bH]at h1;refine⟨r,h1,?_⟩;rcases h2 with⟨h2,h3⟩|⟨n,b,ks',f,g,k,l,o⟩
   grind;refine .inr ⟨n+1,b,ks',by rw[f];congr 2;omega,by simpa using g,by simpa using k,l,λj k' p m=>?_⟩;grind
def Wq{d:oU}{sh:M Sc}(hd:∀(a b:M D),cz sh a=W->cz sh b=W->Nz d (eH I a) (eH I b)=J (dF a b))(kd:M D)(hk:cz sh kd=W):∀(es:M dT)(jw:M (M D))(i:Nat),aR (λen ks=>en.key=eH I ks/\cz sh ks=W) es jw->∃r,Instr.findNow d (eH I kd) es i=J r/\((r=O/\∀ks∈jw,dF kd ks=I)\/∃(n:Nat)(en:dT)(ks:M D),r=J (i+n,en.val)/\es[n]?=J en/\jw[n]?=J ks/\dF kd ks=W/\∀(j:Nat)ks',j<n->jw[j]?=J ks'->dF kd ks'=I)
 |[],[],i,_=>⟨O,rfl,.inl ⟨rfl,by simp⟩⟩|en::es,ks::jw,i,h=>by
  have f:=hd kd ks hk h.1.2;have c:en.key=eH I ks:=h.1.1;simp only[Instr.findNow,c,f];cases g:dF kd ks with
  |true=>exact⟨J (i,en.val),rfl,.inr ⟨0,en,ks,rfl,rfl,rfl,g,by simp⟩⟩|false=>
   let⟨r,h1,h2⟩:=Wq hd kd hk es jw (i+1) h.2;refine⟨r,h1,?_⟩;rcases h2 with⟨h2,h3⟩|⟨n,e,ks',k,l,m,o,q⟩
   grind;refine .inr ⟨n+1,e,ks',by rw[k];congr 2;omega,by simpa using l,by simpa using m,o,λj k' s p=>?_⟩;grind
def Is{P:er}(hT:ib P af){kt:bv}{ki:TI}(hi:af.ti kt=J ki){sh:M Sc}(c:rf af kt=J sh):Om P kt sh ki.kind.agg:=by
 have e:∀(d:oU)(k:Sc),aa9 P kt=J d->(∀x y:D,cz [k] [x]=W->cz [k] [y]=W->Nz d (iz x) (iz y)=J (jL x y))->(∀(w:World)(x:D)(em:ay),cz [k] [x]=W->(mY em 10000 kt (iz x)).run P w=.ok () w)->Om P kt [k] I:=by
  intro d k m c l;have one:∀{ds:M D},cz [k] ds=W->∃x,ds=[x]:=by
   intro ds h;match ds,h with
   |[x],_=>exact⟨x,rfl⟩|[],h=>cases k<;>cases h
   |x::y::r,h=>have:=(xT h).2;cases this
  refine⟨λw ds em h=>?_,λw kd es jw hk b=>?_⟩;obtain⟨x,rfl⟩:=one h;exact l w x em h;let⟨r,h1,h2⟩:=Wq (d:=d) (sh:=[k]) (λx y a hy=>by grind [eH,dF]) kd hk es jw 0 b;simp_all [MapKept.run_findKey]
 unfold rf at c;rw[hi]at c;let⟨info,d,n,g,o,p,i,q⟩:=sB (hT.T _ _ hi);split at c;rename_i hk;cases c;cases hk;have hd:=xN i.symm;subst hd;refine e _ _ g (λx y a hy=>?_) (λw x em a=>?_);cases x<;>simp only[cz,cr,eW,bM,zQ]at a;cases y<;>simp only[cz,cr,eW,bM,zQ]at hy;subst a;simp[iz,Nz,jL,hy];cases x<;>simp only[cz,cr,eW,bM,zQ]at a;rw[show(10000:Nat)=9999+1 from rfl];unfold mY;simp[kZ g,iz];rename_i hk;cases c;cases hk;have hd:=sC i.symm;subst hd;refine e _ _ g (λx y a hy=>?_) (λw x em a=>?_);cases x<;>simp only[cz,bM]at a;cases y<;>simp only[cz,bM]at hy;grind [iz,Nz,jL,ayh];cases x<;>simp only[cz,bM]at a;rw[show(10000:Nat)=9999+1 from rfl];unfold mY;simp[kZ g,iz];rename_i hk;cases c;cases hk;have hd:=Oh i.symm;subst hd;refine e _ _ g (λx y a hy=>?_) (λw x em a=>?_);cases x<;>simp only[cz,bM]at a;cases y<;>simp only[cz,bM]at hy;simp[iz,Nz,jL];cases x<;>simp only[cz,bM]at a;rw[show(10000:Nat)=9999+1 from rfl];unfold mY;simp[kZ g,iz];rename_i fs _ _ _ hk;cases hk;have j:=hT.E _ _ c;refine⟨λw ds em h=>j.check w ds em h,λw kd es jw hk b=>?_⟩;have f:(match aa9 P kt with|some (.array _ _)|some (.struct _)=>W|_=>I)=W:=by grind [Di.struct]
 rw[run_findKey_eq w f];let⟨r,h1,h2⟩:=Wp (w:=w) j kd hk es jw 0 b;refine⟨r,h1,?_⟩;grind;cases c
def On:∀{ds:M D}{vs:M aL},jZ w Z ds vs↔DL w Z vs ds|[],[]=>uf|d::ds,v::vs=>and_congr uf On|[],_::_=>uf|_::_,[]=>uf
def ahH{agg:ay}{n:Nat}{v:aL}(h:iy agg n v):Y (V v.cells)=n:=by unfold iy at h;split at h;obtain⟨cs,rfl,rfl⟩:=h;rfl;rw[lT h.1,h.2];rfl
def qf:∀{xs:M (M D)}{es:M dT},fO w Z xs es->Y xs=Y es|[],[],_=>rfl|_::_,_::_,h=>by simp[qf h.2]
theorem rq:∀{xs:M (M D)}{es:M dT}{i:Nat}{en:dT},fO w Z xs es->es[i]?=J en->∃x,xs[i]?=J x/\jZ w Z x (pa en)
 |x::xs,en::es,0,b,h,a=>by simp only[ij,Option.some.injEq]at a;subst a;exact⟨x,rfl,h.1⟩|x::xs,en::es,i+1,b,h,a=>by obtain⟨y,h1,h2⟩:=rq (i:=i) h.2 (by simpa using a);grind
 |[],[],_,_,_,a=>by simp at a
def Iu:∀{xs:M (M D)}{es:M dT},Y xs=Y es->(∀(i:Nat)x en,xs[i]?=J x->es[i]?=J en->jZ w Z x (pa en))->fO w Z xs es|[],[],_,_=>trivial|x::xs,en::es,a,h=>⟨h 0 x en rfl rfl,Iu (by simpa using a) λi y e hy b=>h (i+1) y e (by simpa using hy) (by simpa using b)⟩|[],_::_,a,_=>by simp at a|_::_,[],a,_=>by simp at a
def Au{agg:ay}{n:Nat}{en:dT}{x:M D}(hk:iy agg n en.key)(h:jZ w Z x (pa en)):DL w Z en.key.cells.toList (x.take n)/\DL w Z en.val.cells.toList (x.drop n):=by have h1:=On.1 h;unfold pa at h1;have a:=ahH hk;have b:x.length=(en.key.cells.toList++en.val.cells.toList).length:=h1.length.symm;rw[<-List.take_append_drop n x]at h1;exact aR.split (by grind) h1
def Oo{agg:ay}{n:Nat}{sh:M Sc}{v:aL}{ds:M D}(a:iy agg n v)(hd:DL w Z (V v.cells) ds)(c:cz sh ds=W):v=eH agg ds:=by
 have b:=Dh c hd;unfold iy at a;split at a;obtain⟨cs,rfl,_⟩:=a;simp only[eH,bH,sE];congr 1;apply Array.toList_inj.1;exact b;obtain⟨h1,rfl⟩:=a;rw[lT h1]at b;match ds,b with|[d],b=>grind [eH]
theorem Iv{agg:ay}{n:Nat}{sh:M Sc}{ds:M D}(a:cz sh ds=W)(b:Y ds=n)(h1:agg=I->n=1):iy agg n (eH agg ds):=by
 cases agg with
 |true=>exact⟨_,rfl,by simpa using b⟩|false=>
  have:=h1 rfl;subst this;match ds,b with
  |[d],_=>
   refine⟨?_,rfl⟩;match sh with
   |[]=>cases a
   |k::sh=>cases k<;>cases d<;>first|rfl|(simp[cz]at a)
theorem Ws:∀{sh:M Sc}{xs ys:M D},cz sh xs=W->cz sh ys=W->xs.map iz=ys.map iz->xs=ys
 |[],[],[],_,_,_=>rfl|k::sh,x::xs,y::ys,h1,h2,h=>by let⟨a,b⟩:=xT h1;let⟨c,d⟩:=xT h2;simp only[fc,zR]at h;rw[Ws b d h.2];congr 1;have h:=h.1;cases k<;>cases x<;>simp only[cz,cr,eW,bM,zQ]at a<;> cases y<;>simp only[cz,cr,eW,bM,zQ]at c<;>simp_all [iz]
 |[],_::_,_,h,_,_=>by cases h
 |[],[],_::_,_,h,_=>by cases h
 |k::_,[],_,h,_,_=>by cases k<;>cases h
 |k::_,_::_,[],_,h,_=>by cases k<;>cases h
def Wt(agg:ay)(sh:M Sc)(en:dT)(ks:M D):Prop:=en.key=eH agg ks/\cz sh ks=W/\V en.key.cells=ks.map iz
def Wu{e:Nat}{sh:M Sc}{n:Nat}(b:uA e=n):∀{xs:M (M D)}{es:M dT},fO w Z xs es->(∀en∈es,qa e en)->lc sh n xs=W->aR (Wt (xq e) sh) es (xs.map λx=>x.take n)|[],[],_,_,_=>trivial|x::xs,en::es,h,c,a=>by simp only[lc,nM,cr]at a;have hk:=(c en (kJ ..)).1;rw[b]at hk;have d:=(Au hk h.1).1;exact⟨⟨Oo hk d a.1,a.1,Dh a.1 d⟩,Wu b h.2 (λen f=>c en (jr _ f)) a.2⟩
def aR.perm{α β:Type}{R:α->β->Prop}{as d:M α}(g:as.Perm d):∀{a:M β},aR R as a->∃bs',a.Perm bs'/\aR R d bs':=by
 induction g with
 |nil=>intro a h;cases a with|nil=>simp_all|cons _ _=>exact aaY h
 |cons x _ i=>
  intro a h;cases a with|nil=>exact aaY h|cons b a=>let⟨bs',h1,h2⟩:=i h.2;exact⟨b::bs',h1.cons b,h.1,h2⟩
 |swap x y l=>
  intro a h;cases a with
  |nil=>exact aaY h|cons b a=>
   cases a with|nil=>exact aaY h.2|cons c a=>exact⟨c::b::a,.swap ..,h.2.1,h.1,h.2.2⟩
 |trans _ _ e f=>intro a h;let⟨m,h1,h2⟩:=e h;let⟨j,h3,k⟩:=f h2;exact⟨j,h1.trans h3,k⟩
def aR.Oq{α β:Type}{R:α->β->Prop}:∀{as:M α}{c:M β}{j:Nat}{a:α},aR R as c->as[j]?=J a->∃b,c[j]?=J b/\R a b|[],[],_,_,_,h=>by simp at h|x::as,y::c,0,a,h,d=>by simp only[ij,Option.some.injEq]at d;subst d;exact⟨y,rfl,h.1⟩|x::as,y::c,j+1,a,h,d=>by obtain⟨b,h1,h2⟩:=aR.Oq (j:=j) h.2 (by simpa using d);grind
theorem Ot{es:M dT}(h:es.Pairwise λa b=>a.key≠b.key){i j:Nat}{a b:dT}(hi:es[i]?=J a)(c:es[j]?=J b)(hk:a.key=b.key):i=j:=by grind [List.pairwise_iff_getElem]
theorem Ou(n:Nat)(kd:M D):∀(xs:M (M D)),(ew n kd xs=O/\∀ks∈xs.map (λx=>x.take n),dF kd ks=I)\/∃(i:Nat)(ks:M D),ew n kd xs=J i/\(xs.map λx=>x.take n)[i]?=J ks/\dF kd ks=W/\∀(j:Nat)ks',j<i->(xs.map λx=>x.take n)[j]?=J ks'->dF kd ks'=I
 |[]=>.inl ⟨rfl,by simp⟩|x::xs=>by
  simp only[ew,fc];cases a:dF kd (x.take n)with
  |true=>grind|false=>
   simp only[bM,ca];rcases Ou n kd xs with⟨h1,h2⟩|⟨i,ks,h1,h2,h3,b⟩
   grind;grind
def Iw{P:er}{kt:bv}{ki ei:TI}{sh:M Sc}(E:Om P kt sh ki.kind.agg)(h1:ki.size<32768)(h2:ei.size<32768){xs:M (M D)}{es es':M dT}{cu:Nat}(F:fO w Z xs es')(p:es'.Perm es)(z:jY (dn ki ei) cu es) (G:lc sh ki.size xs=W){kd:M D}(j:cz sh kd=W)(q:ki.kind.agg=I->kd.length=1):
  (ew ki.size kd xs=O/\(NA kt (eH ki.kind.agg kd) es).run P w=.ok O w/\∀en∈es,en.key≠eH ki.kind.agg kd)\/
    ∃i m x en,ew ki.size kd xs=J m/\(NA kt (eH ki.kind.agg kd) es).run P w=.ok (J (i,en.val)) w/\xs[m]?=J x/\es'[m]?=J en/\es[i]?=J en/\kd=x.take ki.size/\en.key=eH ki.kind.agg kd:=by
 have k:=Wu (Wl h1 h2) F (λen s=>z.ok en (p.mem_iff.1 s)) G
 rw[Wm h2]at k
 let⟨ks',t,e⟩:=aR.perm p k
 have u:(eH ki.kind.agg kd).cells.toList=kd.map iz:=by
  cases v:ki.kind.agg with
  |true=>simp[eH,sE,agF]|false=>
   match kd,q v with|[d],_=>have h2:=Iv (agg:=I) (n:=1) j rfl (λ_=>rfl);rw[lT h2.1];simp[eH]
 have g:∀en ks,Wt ki.kind.agg sh en ks->en.key=eH ki.kind.agg kd->ks=kd:=by intro en ks ⟨_,A,g3⟩ h;grind [Ws]
 let⟨r,H,A⟩:=E.find w kd es ks' j (aR.mono (λ_ _ h=>⟨h.1,h.2.1⟩) e)
 rcases A with⟨rfl,f⟩|⟨i,en,ks,rfl,f2,f3,f4,_⟩
 refine .inl ⟨?_,H,λen s c=>?_⟩
 grind [Ou]
 let⟨i,K⟩:=Vi.1 s
 let⟨ks,k1,k2⟩:=aR.Oq e K
 have:=g en ks k2 c
 subst this
 have:=f ks (fG k1)
 grind [Ir]
 refine .inr ?_
 let⟨N,k1,k2⟩:=e.aG f3
 rw[f2]at k1
 cases k1
 have R:kd=ks:=(Ir j k2.2.1).1 f4
 have c:en.key=eH ki.kind.agg kd:=by rw[k2.1,<-R]
 let⟨S,o⟩:=Vi.1 (p.mem_iff.2 (fG f2))
 let⟨l,p1,T⟩:=aR.Oq k o
 have V:=g en l T c
 subst V
 rcases Ou ki.size l xs with⟨_,B⟩|⟨m,ks1,q1,B,X,_⟩
 grind
 let⟨Y,p3,C⟩:=k.aG B
 have e3:l=ks1:=(Ir j C.2.1).1 X
 subst e3
 have y:es'.Pairwise λa b=>a.key≠b.key:=(p.pairwise_iff (λh=>Ne.symm h)).2 z.nd
 have em:S=m:=Ot y o p3 (by rw[c,C.1])
 grind
def Wv(h:aZ K β ω Z s a w){e:Nat}(i:∀g,(g=e\/g=jU e)->cf g=W/\fN g=I/\oE g=e){c:C}{u:aL}{xs:M (M D)}{s':St}(l:aS K β Z s a w c u)(hx:(na e c).aE s=J (xs,s')):s'=s/\((u=.map O/\xs=[])\/∃b,u=.map (J b)/\∃(es:bZ dT)(cu:Nat)(es':M dT),w.heap[b]?=J (.map es cu)/\jY e cu (V es)/\fO w Z xs es'/\es'.Perm (V es)):=by
 have A:∀{g b xs},(g=e\/g=jU e)->eg w Z g xs b->∃(es:bZ dT)(cu:Nat)(es':M dT),w.heap[b]?=J (.map es cu)/\jY e cu (V es)/\fO w Z xs es'/\es'.Perm (V es):=by grind [eg.mu]
 unfold na at hx;split at hx;obtain⟨rfl,rfl⟩:=bh hx;exact⟨rfl,.inl ⟨l,rfl⟩⟩;let⟨_,B,h1,f⟩:=aT hx;let⟨m,n⟩:=cN h1;subst n;let⟨p,E,_⟩:=i _ m;obtain⟨rfl,rfl⟩:=bh f;let⟨b,F,_,P⟩:=(bA.nY p).1 l;grind [o9];rename_i r j hv cv g k ys;simp only[aw.aE]at hx;let⟨_,B,h1,f⟩:=aT hx;let⟨⟨q,m⟩,n⟩:=cN h1;subst n;let⟨p,E,_⟩:=i _ m;let⟨b,F,_,_,y⟩:=(aS.rl p).1 l;split at f;rename_i z G d;let⟨v,o⟩:=bh f;subst v;subst o;let⟨f1,x,f2,_⟩:=y q (by rw[d];simp);rw[d]at f2;rcases f2 with f2|f2<;>cases f2;let⟨H,N,z⟩:=h.H7 p d;grind [o9];rename_i z G d;let⟨v,o⟩:=bh f;subst v;subst o;let⟨f1,x,f2,_⟩:=y q (by rw[d];simp);rw[d]at f2;rcases f2 with f2|f2<;>cases f2;let⟨u2,N,t⟩:=h.cell (iY d (by simp));let⟨H,R,_,S⟩:=(bA.nY p).1 t;grind [o9];simp[aw.aE]at f;simp[aw.aE]at hx
def Ov{f:SV}{u:aL}{kd:M D}{sh:M Sc}{agg:ay}(hv:bQ (aS K β Z s a w) u f)(hk:f.key=J kd)(g:cz sh kd=W)(i:f.isAgg=agg):u=eH agg kd/\(agg=I->Y kd=1):=by
 unfold SV.key at hk;split at hk;rename_i cs e;cases f with
 |one c=>
  simp only[SV.fK,Option.some.injEq]at e;subst e;subst i;cases c<;>simp[jV]at hk;rename_i x;subst hk;have hd:DL w Z (V u.cells) [x]:=by rw[lT hv.1];exact⟨hv.2,trivial⟩
  exact⟨Oo (n:=1) ⟨hv.1,rfl⟩ hd g,λ_=>rfl⟩
 |agg ds=>
  simp only[SV.fK,Option.some.injEq]at e;subst e;subst i;obtain⟨ws,rfl,b⟩:=hv;refine⟨Oo (n:=ws.size) ⟨ws,rfl,rfl⟩ (?_:DL w Z (V ws) kd) g,λh=>by cases h⟩;have:∀{cs:M C}{us:M aL}{ds:M D},jV cs=J ds->aR (λu c=>aS K β Z s a w c u) us cs->DL w Z us ds:=by
   intro cs;induction cs with
   |nil=>intro us ds h b;simp[jV]at h;subst h;cases us with|nil=>trivial|cons _ _=>exact aaY b
   |cons c cs j=>
    intro us ds h b;cases us with
    |nil=>exact aaY b|cons u us=>
     cases c with
     |d x=>simp only[jV]at h;split at h;rename_i k h1;cases h;exact⟨b.1,j h1 b.2⟩;cases h
     |_=>simp[jV]at h
  exact this hk b
 |bw x=>simp[SV.fK]at e|undef=>simp[SV.fK]at e
 cases hk
def Ix{b:Nat}{o o':Obj}(d:w.heap[b]?=J o):Ia w {w with heap:=w.heap.setIfInBounds b o'} b/\({w with heap:=w.heap.setIfInBounds b o'}:World).heap[b]?=J o':=by have a:b<w.heap.size:=(Array.getElem?_eq_some_iff.1 d).1;exact⟨⟨rfl,rfl,rfl,by simp,λc e=>by simp[Ne.symm e]⟩,by simp[a]⟩
def Iy{agg:ay}{n:Nat}{v:aL}{ds:M D}(b:iy agg n v)(hd:DL w Z (V v.cells) ds):eB (aS K β Z s a w) v (agg,ds.map .d):=by
 unfold iy at b;unfold eB;cases agg with
 |true=>obtain⟨cs,rfl,_⟩:=b;exact⟨cs,rfl,DL.map hd⟩
 |false=>
  obtain⟨h1,rfl⟩:=b;rw[lT h1]at hd;match ds,hd with|[d],hd=>exact⟨.d d,rfl,h1,hd.1⟩
def ahJ{agg:ay}{n:Nat}{v:aL}{ds:M D}{x:SV}{f s2:St}(e:iy agg n v)(hd:DL w Z (V v.cells) ds)(b:(pY agg ds).aE f=J (x,s2)):s2=f/\bQ (aS K β Z s a w) v x/\(∀c∈x.cells,cP c):=by
 unfold iy at e;unfold pY at b;cases agg with
 |true=>obtain⟨rfl,rfl⟩:=bh b;obtain⟨cs,rfl,_⟩:=e;exact⟨rfl,⟨cs,rfl,DL.map hd⟩,by simp[SV.cells,cP]⟩
 |false=>
  obtain⟨h1,rfl⟩:=e;rw[lT h1]at hd;match ds,hd,b with|[d],hd,b=>obtain⟨rfl,rfl⟩:=bh b;exact⟨rfl,⟨h1,hd.1⟩,by simp[SV.cells,cP]⟩
def Ww(w0:World){agg:ay}{n:Nat}{z:M D}{v:aL}(hv:lQ (V v.cells)=J z)(c:HP v=agg)(d:Y z=n):iy agg n v:=by
 have b:DL w0 (λ_=>dL) (V v.cells) z:=qc hv;have a:=b.length;cases v with
 |agg cs=>subst c;exact⟨cs,rfl,by simp_all [agF]⟩|_=>
  subst c;simp only[agF]at hv a;simp only[HP];refine⟨?_,by simp at a;omega⟩;first
  |rfl|(simp[lQ,uB]at hv)
theorem Wx{u:aL}{v:SV}{cs:M C}{n:Nat}(hv:bQ (aS K β Z s a w) u v)(b:v.fK=J cs)(d:Y cs=n):iy v.isAgg n u:=by
 cases v with
 |one c=>simp only[SV.fK,Option.some.injEq]at b;subst b;exact⟨hv.1,by simpa using d.symm⟩|agg ds=>simp only[SV.fK,Option.some.injEq]at b;subst b;obtain⟨ws,rfl,h⟩:=hv;exact⟨ws,rfl,by have:=h.length;simp at this;omega⟩
 |bw x=>simp[SV.fK]at b|undef=>simp[SV.fK]at b
def kP{α:Type}{l:M α}{i:Nat}{x d:α}(h:l[i]?=J x):H l i d=x:=by grind
def Wy{es:M dT}{i:Nat}{en:dT}(h:es.Pairwise λa b=>a.key≠b.key)(hi:i<es.length)(c:∀x,es[i]?=J x->en.key=x.key):(es.set i en).Pairwise λa b=>a.key≠b.key:=by
 have key:(es.set i en).map (·.key)=es.map (·.key):=by apply ud;grind
 have h2:(es.map (·.key)).Pairwise λa b=>a≠b:=List.pairwise_map.2 h;grind
def ahK{e cu:Nat}{xs:M (M D)}{es:M dT}{i:Nat}{en:dT}{y:M D}(b:jY e cu es)(f:fO w Z xs es)(hi:i<Y es)(c:qa e en)(h:en.born=i)(d:∀x,es[i]?=J x->en.key=x.key)(k:jZ w Z y (pa en)):jY e cu (es.set i en)/\fO w Z (xs.set i y) (es.set i en):=by
 refine⟨⟨λx a=>?_,λj x a=>?_,by rw[List.length_set];exact b.cu,Wy b.nd hi d⟩,Iu (by simp[qf f]) λj x l a g=>?_⟩;rcases agG a with a|rfl
 exact b.ok x a;exact c;rw[zO]at a;split at a;grind;exact b.born j x a;grind [rq]
def ahL{e cu:Nat}{xs:M (M D)}{es:M dT}{en:dT}{y:M D}(b:jY e cu es)(d:fO w Z xs es)(f:qa e en)(i:en.born=cu)(c:∀x∈es,x.key≠en.key)(k:jZ w Z y (pa en)):jY e (cu+1) (es++[en])/\fO w Z (xs++[y]) (es++[en]):=by
 have g:=qf d;refine⟨⟨λx a=>?_,λj x a=>?_,by rw[mo,b.cu];rfl,sf.2 ⟨b.nd,List.pairwise_singleton ..,λx a y hy=>by grind⟩⟩,Iu (by simp[g]) λj x l a h=>?_⟩;rcases mm.1 a with a|a
 exact b.ok x a;grind;rw[ayi]at a;split at a;exact b.born j x a;grind [jY.cu];grind [rq]
theorem Ow{w':World}{xs:M (M D)}{es:M dT}(hZ:∀b,Z b->w'.heap[b]?=w.heap[b]? /\Z b)(h:fO w Z xs es):fO w' Z xs es:=fO.mono hZ xs es h
def DL.mono'{w':World}{Z':Nat->Prop}(hZ:∀b,Z b->w'.heap[b]?=w.heap[b]? /\Z' b){us:M aL}{ds:M D}(h:DL w Z us ds):DL w' Z' us ds:=aR.mono (λ_ _ a=>bA.mono hZ _ _ a) h
def Ox{us vs:M aL}{kd vd:M D}(h1:DL w Z us kd)(h2:DL w Z vs vd){en:dT}(hk:V en.key.cells=us)(hv:V en.val.cells=vs):jZ w Z (kd++vd) (pa en):=by rw[On,pa,hk,hv];exact aR.append h1 h2
theorem Wz{agg:ay}{sh:M Sc}{kd:M D}(a:cz sh kd=W)(h1:agg=I->Y kd=1):DL w Z (V (eH agg kd).cells) kd:=by
 cases agg with
 |true=>exact(uQ a:DL w Z (kd.map iz) kd)|false=>
  match kd,h1 rfl with|[d],_=>have h2:=Iv (agg:=I) (n:=1) a rfl (λ_=>rfl);rw[lT h2.1];exact(uQ a:DL w Z [iz d] [d])
def WA{d:D}{k:Sc}(h:cz [k] [d]=W)(n:Nat):Hv n (iz d) (iz d)=W:=by cases k<;>cases d<;>simp[cz]at h<;>simp[iz,Hv,ayh]
def WB:∀{sh:M Sc}{ds:M D}(n:Nat),cz sh ds=W->(((ds.map iz).zip (ds.map iz)).all λ(x,y)=>Hv n x y)=W
 |[],[],_,_=>rfl|k::sh,d::ds,n,h=>by let⟨h1,h2⟩:=xT h;simp only[fc,List.zip_cons_cons,nM,cr];exact⟨WA h1 n,WB n h2⟩
 |[],_::_,_,h=>by cases h
 |k::_,[],_,h=>by cases k<;>cases h
theorem WC{agg:ay}{sh:M Sc}{kd:M D}(a:cz sh kd=W)(h1:agg=I->Y kd=1):Hv 10000 (eH agg kd) (eH agg kd)=W:=by
 cases agg with
 |true=>rw[show(10000:Nat)=9999+1 from rfl];simp only[eH,bH,sE,Hv,cr];exact⟨by simp,by simpa using WB 9999 a⟩|false=>
  match kd,h1 rfl with
  |[d],_=>
   match sh with
   |[]=>cases a
   |k::sh=>exact WA (xT a).1 10000
def qg{P:er}{b cu:Nat}{es:bZ dT}(a:w.heap[b]?=J (.map es cu)):(getObj b).run P w=.ok (.map es cu) w:=Go.MapKept.run_getObj_map a
def Dk{P:er}{b cu:Nat}{es:bZ dT}{o:Obj}(a:w.heap[b]?=J (.map es cu)):(setObj b o).run P w=.ok () {w with heap:=abW w.heap b o}:=Go.MapKept.run_setObj_map o a
section
variable(hT:ib K.P af)
include hT
def ahM(h:aZ K β ω Z s a w){t:bv}{dst:Nat}{o:cR}(k:o.op=.makeMap t O){v:SV}{s':St}(e:(cq af o.op dst).aE s=J (v,s')):cQ K s' a dst ((execOp a.eval o).run K.P w) v:=by
 rw[k]at e;simp only[cq,CV]at e;split at e;rename_i kt ki ei r;let⟨_,_,_,_,g,i⟩:=uT hT r;let⟨hv,u⟩:=bh e;subst u;rw[hv];have d:Wn ki ei (CN (aa1 af.un dst) (dn ki ei)):=sG g i (by cases aa1 af.un dst;exact .inl rfl;exact .inr rfl);have y:=d.it;clear hv e;generalize (CN (aa1 af.un dst) (dn ki ei))=l at *;let⟨z,k1,f1,m⟩:=h.newObj (.map #[] 0) (.tmp dst,J 0);have A:eg (abK w (.map #[] 0)) Z l [] w.heap.size:=(eg.mu d.it).2 ⟨#[],0,[],m,⟨by simp,by simp,rfl,.nil⟩,trivial,.refl _,λ_=>rfl⟩;have f:∀(s:St),aS K β Z s a (abK w (.map #[] 0)) (.ak l []) (.map (J w.heap.size)):=λs=>(aS.ku d.mp).2 ⟨_,(o9 y _).symm,A⟩;refine⟨.map (J w.heap.size),abK w (.map #[] 0),β,_,Z,?_,z,⟨rfl,f _⟩,?_⟩;simp[execOp,k,Instr.makeMap];intro j c x n p;have B:j=0:=by grind [SV.cells]
 subst B;simp only[SV.cells,ij,Option.some.injEq]at n;simp only[ey,ij,Option.some.injEq]at p;subst n;subst p;refine⟨f _,λD xs b C q=>?_⟩;cases C;simp only[eG,Option.some.injEq]at q;subst q;exact⟨by simp,⟨#[],0,m⟩,f1⟩;simp[aw.aE]at e
def ahN(h:aZ K β ω Z s a w){t:bv}{x ix:cD}{ok:ay}{dst:Nat}{o:cR}(R:o.op=.lookup t x ix ok){v:SV}{s':St}(Y:(cq af o.op dst).aE s=J (v,s')):cQ K s' a dst ((execOp a.eval o).run K.P w) v:=by
 rw[R]at Y;simp only[cq]at Y;let⟨c,s1,h1,y⟩:=aT Y;let⟨hs1,o1,r1,Iz⟩:=gs h h1;rw[hs1]at y;let⟨kv,s2,h2,f⟩:=aT y;let⟨hs2,hkv,Oy,ahO⟩:=iM h h2;rw[hs2]at f;unfold jf at f;split at f;rename_i kt ki ei hm;let⟨et,hu,hki,OB,g,j⟩:=uT hT hm;split at f;rename_i sh kd z hsc OD hz;let⟨_,s3,h3,A⟩:=aT f;let⟨⟨e,hkl,hka,hzl,hg⟩,hs3⟩:=cN h3;rw[hs3]at A;let⟨xs,s4,h4,B⟩:=aT A;let⟨hs4,l⟩:=Wv h (λe' n=>⟨(sG g j n).mp,(sG g j n).it,(sG g j n).oe⟩) r1 h4;rw[hs4]at B;let⟨_,s5,h5,k⟩:=aT B;let⟨Dl,hs5⟩:=cN h5;rw[hs5]at k;have S:=Is hT hki hsc;let⟨p,hk1⟩:=Ov hkv OD e hka;let⟨zv,C,E,Oz⟩:=Og (w:=w) (hT.T _ _ OB) hz;have F:DL w Z zv.cells.toList z:=qc E;have G:iy ei.kind.agg ei.size zv:=Ww w E Oz hzl;have key:∃(q:aL)(ds:M D),iy ei.kind.agg ei.size q/\DL w Z q.cells.toList ds/\ds=iK ki.size xs z (ew ki.size kd xs)/\(execOp a.eval o).run K.P w=.ok (.value (if ok then .tuple #[q,.bool (ew ki.size kd xs).isSome]else q)) w:=by
  rcases l with⟨V,rfl⟩|⟨b,V,es,cu,es',g1,g2,g3,gp⟩
  refine⟨zv,z,G,F,by simp[ew,iK],?_⟩;have hfk:(NA kt (eH ki.kind.agg kd) []).run K.P w=.ok O w:=by let⟨r,u,X⟩:=S.find w kd [] [] e trivial;grind
  simp only[execOp,R,xe,V,p,dB,kZ hu,dE,fF,Array.isEmpty_empty,S.check w kd W e,hfk,C,ew,Option.isSome_none];have hfr:=Iw S g j g3 gp g2 Dl e hk1;have H:(mY es.isEmpty 10000 kt (eH ki.kind.agg kd)).run K.P w=.ok () w:=S.check w kd _ e;rcases hfr with⟨u,X,_⟩|⟨i,m,x,en,u,X,q3,Dm,q4,q5,_⟩
  refine⟨zv,z,G,F,by rw[u];rfl,?_⟩;simp only[execOp,R,xe,V,p,dB,kZ hu,dE,fF,qg g1,H,X,C,u,Option.isSome_none];have hen:=g2.ok en (fG q4);let⟨x',p1,p2⟩:=rq g3 Dm;rw[q3]at p1;cases p1;let⟨hk,hv⟩:=(xR g j).1 hen;let⟨_,p4⟩:=Au hk p2;refine⟨en.val,x.drop ki.size,hv,p4,by rw[u];simp only[iK,kP q3],?_⟩;rw[u];simp only[execOp,R,xe,V,p,dB,kZ hu,dE,fF,qg g1,H,X];rfl
 let⟨q,ds,k1,k2,k3,k4⟩:=key;rw[<-k3]at k;cases ok with
 |true=>let⟨hx,N⟩:=bh k;rw[hx,N];refine cQ.same h k4 ⟨#[q,.bool (ew ki.size kd xs).isSome],rfl,Iy k1 k2,?_,trivial⟩ ?_;exact⟨_,rfl,rfl,rfl⟩;intro c hc;simp only[SV.cells,kK,CD,ug,mm,mq,js]at hc;rcases hc with⟨d,_,rfl⟩|rfl<;>simp[cP]
 |false=>let⟨N,p1,p2⟩:=ahJ (K:=K) (β:=β) (s:=s) (a:=a) k1 k2 k;grind [cQ.same]
 simp[aw.aE]at f;simp[aw.aE]at f
theorem ahQ(h:aZ K β ω Z s a w){t:bv}{c:C}{um uk ux:aL}{kv vv:SV}{y:bY}{s':St}(hcm:aS K β Z s a w c um)(hkv:bQ (aS K β Z s a w) uk kv)(OA:bQ (aS K β Z s a w) ux vv)
  (hno:∀c∈vv.cells,cP c)(he:(xA af t c kv vv).aE s=J (y,s')):∃w' β' ω' Z',(NC t um uk ux).run K.P w=.ok () w'/\aZ K β' ω' Z' s' a w':=by
 unfold xA at he
 split at he
 ·rename_i kt ki ei hm
  obtain⟨et,hu,hki,OB,sD,xU⟩:=uT hT hm
  split at he
  ·rename_i sh kd vc hsc OD hvc
   obtain⟨_,s1,h1,qd⟩:=aT he
   obtain⟨⟨o,hkl,hka,hvl,hva⟩,hs1⟩:=cN h1
   rw[hs1]at qd
   obtain⟨vd,s2,h2,F⟩:=aT qd
   obtain⟨hcc,hall⟩:=xP OA hvc
   obtain⟨T,p,r1,k1,p1⟩:=Ii vc _ ω Z s s2 vd h hall (λc hc=>hno c (by rw[hcc];exact hc)) h2
   have ahT:=k1.li h.dp (λe xs b h1 h2=>by
    simp_all [aw.aE]) hcm
   split at F
   ·rename_i r j lm cv0 e k0 xs0
    simp only[aw.aE]at F
    obtain⟨_,s3,h3,G⟩:=aT F
    obtain⟨⟨uP,qe,hee⟩,hs3⟩:=cN h3
    rw[hs3]at G
    split at G
    ·rename_i e' xs A
     obtain⟨_,s4,h4,V⟩:=aT G
     obtain⟨Dl,hs4⟩:=cN h4
     rw[hs4]at V
     simp only[eo,aw.aE,Option.some.injEq,gH]at V
     obtain⟨_,rfl⟩:=V
     have q:=sG sD xU hee
     have X:=q.mp
     have hi:=q.it
     obtain⟨b,e1,_,_,g4⟩:=(aS.rl X).1 ahT
     rw[o9 hi]at e1
     obtain⟨f1,ys,f2,_⟩:=g4 uP (xK A)
     rw[A]at f2
     rcases f2 with f2|f2<;>cases f2
     obtain⟨b2,q1,g0⟩:=r1.H7 X A
     rw[f1,Option.some.injEq]at q1
     rw[CZ q1.symm]at g0
     obtain⟨es,cu,H,g1,u,g3,gp,gu⟩:=(eg.mu hi).1 g0
     rw[q.oe]at u
     have hK:=Is hT hki hsc
     obtain⟨B,hk1⟩:=Ov hkv OD o hka
     have hvs:iy ei.kind.agg ei.size ux:=by grind [Wx]
     have hks:iy ki.kind.agg ki.size uk:=by
      grind [Iv]
     have hen:∀bn,qa (dn ki ei) {key:=uk,val:=ux,born:=bn}:=λbn=>by
      simp_all [xR]
     have OE:DL w p uk.cells.toList kd:=by grind [Wz]
     have R:∀bn,jZ w p (kd++vd) (pa {key:=uk,val:=ux,born:=bn}):=λbn=>Ox OE p1 rfl rfl
     have hnz:¬p b:=(r1.dV _ _ (r1.ak r j _ _ _ b qe (iY A (by simp)) f1 (lS ..)).1).1
     have fin:∀(k:bZ dT)(g:Nat)(E:M dT),jY (dn ki ei) g k.toList->fO w p (putRow (hV e) ki.size kd vd xs) E->E.Perm k.toList->(hV e=I->E=k.toList)->
       ∃w',w'={w with heap:=w.heap.setIfInBounds b (.map k g)}/\aZ K β T p (s2.set r {(s2 r)with cv:=(s2 r).cv+1,v:=(s2 r).v.setCell j (.ak e (putRow (hV e) ki.size kd vd xs))}) a w':=by
      intro k g E N S Y hun
      obtain⟨ahW,hhere⟩:=Ix (o':=.map k g) g1
      refine⟨_,rfl,r1.N9 X A qe f1 ahW ((eg.mu hi).2 ⟨k,g,E,hhere,by rw[q.oe];exact N,?_,Y,hun⟩)⟩
      grind [Ow]
     have hwk:∀{es:M dT}{xs:M (M D)}(en:dT),fO w p xs es->∀bG,jZ w p bG (pa en)->fO w p (xs++[bG]) (es++[en]):=by
      intro es
      induction es with
      |nil=>intro xs en h bG hr;cases xs with|nil=>exact⟨hr,trivial⟩|cons _ _=>exact h.elim
      |cons y es ih=>intro xs en h bG hr;cases xs with|nil=>exact h.elim|cons x xs=>exact⟨h.1,ih en h.2 bG hr⟩
     rcases Iw hK sD xU g3 gp u Dl o hk1 with⟨q1,q2,q3⟩|⟨i,m,x,en,q1,q2,q3,Dm,q4,q5,q6⟩
     ·have N:jY (dn ki ei) (cu+1) (es.toList++[{key:=uk,val:=ux,born:=cu}]):=by
        refine⟨λx f=>?_,λj x f=>?_,by rw[mo,u.cu];rfl,sf.2 ⟨u.nd,List.pairwise_singleton ..,λx f y hy=>by grind⟩⟩
        ·rcases mm.1 f with f|f
         ·exact u.ok x f
         grind
        ·rw[ayi]at f
         split at f
         ·exact u.born j x f
         ·rename_i hj
          have hj0:j-es.toList.length=0:=by
           grind
          grind [jY.cu]
      obtain⟨d,z1,z2,z3⟩:∃d:M dT,fO w p (putRow (hV e) ki.size kd vd xs) d/\d.Perm (es.toList++[{key:=uk,val:=ux,born:=cu}])/\(hV e=I->d=es.toList++[{key:=uk,val:=ux,born:=cu}]):=by
       cases hun:hV e with
       |false=>simp_all [putRow,CT]
       |true=>
        have hin:∀{xs:M (M D)}{es:M dT},fO w p xs es->∃d:M dT,fO w p (Ai ki.size kd (kd++vd) xs) d/\d.Perm (es++[{key:=uk,val:=ux,born:=cu}]):=by
         intro xs
         induction xs with
         |nil=>intro es h;cases es with|nil=>exact⟨[{key:=uk,val:=ux,born:=cu}],⟨R cu,trivial⟩,.refl _⟩|cons _ _=>exact h.elim
         |cons x xs ih=>
          intro es h
          cases es with
          |nil=>exact h.elim
          |cons y es=>
           simp only[Ai]
           split
           ·exact⟨{key:=uk,val:=ux,born:=cu}::y::es,⟨R cu,h⟩,(List.perm_append_singleton _ _).symm⟩
           ·obtain⟨d,f1,f2⟩:=ih h.2
            exact⟨y::d,⟨h.1,f1⟩,f2.cons y⟩
        obtain⟨d,f1,f2⟩:=hin g3
        exact⟨d,by simp only[putRow,H0,q1];exact f1,f2.trans (gp.append_right _),λh=>by cases h⟩
      obtain⟨w',hw',hR⟩:=fin (es.push {key:=uk,val:=ux,born:=cu}) (cu+1) d (by grind) z1 (by grind) (λOG=>by grind)
      refine⟨w',β,T,p,?_,hR⟩
      rw[e1,hw']
      have q2':(NA kt uk es.toList).run K.P w=.ok O w:=by rw[B];exact q2
      have Dn:(mY I 10000 kt uk).run K.P w=.ok () w:=by rw[B];exact hK.check w kd I o
      simp only[NC,dB,kZ hu,dE,qg g1,Dn,q2',Dk g1]
     ·have hil:i<es.toList.length:=(ik.1 q4).1
      have hml:m<H.length:=(ik.1 Dm).1
      have hkey:en.key=uk:=by rw[q6,B]
      have hmod:(es.modify i λe=>{e with key:=uk,val:=ux}).toList=es.toList.set i {key:=uk,val:=ux,born:=en.born}:=by
       rw[ayj]
       apply ud
       grind
      have N:jY (dn ki ei) cu (es.toList.set i {key:=uk,val:=ux,born:=en.born}):=by
       refine⟨λx f=>?_,λj x f=>?_,by rw[List.length_set];exact u.cu,Wy u.nd hil λx f=>by grind⟩
       ·rcases agG f with f|rfl
        ·exact u.ok x f
        ·exact hen _
       ·rw[zO]at f
        split at f
        ·rename_i hij
         subst hij
         simp only[hil,bH,Option.some.injEq]at f
         subst f
         exact u.born i en q4
        ·exact u.born j x f
      have S:fO w p (xs.set m (kd++vd)) (H.set m {key:=uk,val:=ux,born:=en.born}):=by
       refine Iu (by simp[qf g3]) λj x e' f he'=>?_
       rw[zO]at f he'
       split at f
       ·grind
       ·rename_i hij
        rw[aU hij]at he'
        obtain⟨x',h1,h2⟩:=rq g3 he'
        grind
      classical
      have hset:∀(l:M dT)(n:Nat),l.Pairwise (λa b=>a.key≠b.key)->l[n]?=J en->l.set n {key:=uk,val:=ux,born:=en.born}=l.map λz=>if z.key=en.key then{key:=uk,val:=ux,born:=en.born}else z:=by
       intro l n hnd hn
       apply ud
       intro j
       rw[zO,iH]
       by_cases hnj:n=j
       ·grind
       ·rw[aU hnj]
        cases hj:l[j]? with
        |none=>rfl
        |some z=>
         grind [Ot]
      have ayO:H.Pairwise λa b=>a.key≠b.key:=(gp.pairwise_iff (λh=>Ne.symm h)).2 u.nd
      obtain⟨w',hw',hR⟩:=fin (es.modify i λe=>{e with key:=uk,val:=ux}) cu (H.set m {key:=uk,val:=ux,born:=en.born}) (by rw[hmod];exact N) (by cases hun:hV e<;>simp only[putRow,CT,H0,q1]<;>exact S) (by grind [jY.nd]) (λOG=>by
       grind)
      refine⟨w',β,T,p,?_,hR⟩
      rw[e1,hw']
      have q2':(NA kt uk es.toList).run K.P w=.ok (J (i,en.val)) w:=by rw[B];exact q2
      have Dn:(mY I 10000 kt uk).run K.P w=.ok () w:=by rw[B];exact hK.check w kd I o
      have OH:es[i]?=J en:=by simpa using q4
      have hstay:(Vj uk uk).run K.P w=.ok uk w:=by
       have OI:Hv 10000 uk uk=W:=by grind [WC]
       simp[Vj,OI]
      simp only[NC,dB,kZ hu,dE,qg g1,Dn,q2',OH,Option.map_some,Option.getD_some,hkey,hstay,Dk g1]
    ·simp[aw.aE]at G
   ·simp[aw.aE]at F
  ·simp[aw.aE]at he
 ·simp[aw.aE]at he
omit hT in
def WD(h:aZ K β ω Z s a w){ki ei:TI}{r:aO}{j hv cv e k:Nat}{i:M (M D)}{p:aL}(l:aS K β Z s a w (.bm r j hv cv e k i) p)(m:(s r).hv=hv)(n:r.isArg=I)(c:e=dn ki ei)(hi:fN (dn ki ei)=I)(o:hV (dn ki ei)=I) {q:Nat}{xs:M (M D)}(d:(s r).at j=.ak q xs):q=dn ki ei/\∃b es cu,p=.map (J b)/\cK K β a w r j=J (.map (J b))/\w.heap[b]?=J (.map es cu)/\jY (dn ki ei) cu (V es)/\fO w Z xs (V es)/\¬Z b:=by
 have g:cf e=W:=by rw[c];exact Iq
 have f:fN e=I:=by rw[c];exact hi
 let⟨b,v,_,_,x⟩:=(aS.rl g).1 l;let⟨f1,ys,f2,_⟩:=x m (xK d);rw[d]at f2;rcases f2 with f2|f2<;>cases f2;let⟨B,t,u⟩:=h.H7 g d;rw[f1,Option.some.injEq]at t;rw[CZ t.symm]at u;let⟨es,cu,y,z,A⟩:=(eg.mp f (by rw[c];exact o)).1 u;exact⟨c,b,es,cu,by rw[v,o9 f],by rw[f1,o9 f],y,by rw[<-c];exact z,A,(h.dV _ _ (h.ak r j _ _ _ b n (iY d (by simp)) f1 (lS ..)).1).1⟩
omit hT in
def OJ(h:aZ K β ω Z s a w){ki ei:TI}(hi:fN (dn ki ei)=I)(i:hV (dn ki ei)=I){r:aO}{j:Nat}{xs ys:M (M D)}(k:(s r).at j=.ak (dn ki ei) xs)(l:r.isArg=I){b cu clk':Nat}{es es':bZ dT}(o:cK K β a w r j=J (.map (J b))) (p:w.heap[b]?=J (.map es cu))(m:¬Z b)(n:jY (dn ki ei) clk' (V es'))(f:fO w Z ys (V es')):
  aZ K β ω Z (s.set r {(s r)with cv:=(s r).cv+1,v:=(s r).v.setCell j (.ak (dn ki ei) ys)}) a {w with heap:=abW w.heap b (.map es' clk')}/\∀b,Z b->({w with heap:=abW w.heap b (.map es' clk')}:World).heap[b]?=({w with heap:=abW w.heap b (.map es' clk')}:World).heap[b]? :=by
 let⟨c,d⟩:=Ix (o':=.map es' clk') p
 exact⟨h.N9 Iq k l (by rw[o,o9 hi]) c ((eg.mp hi i).2 ⟨es',clk',d,n,Ow (λq g=>⟨c.other q (λe=>m (e▸g)),g⟩) f⟩),λ_ _=>rfl⟩
omit hT in
def OL{es:bZ dT}{i:Nat}{en:dT}(f:dT->dT)(h:(V es)[i]?=J en):V (es.modify i f)=(V es).set i (f en):=by have a:i<Y (V es):=(ik.1 h).1;rw[ayj];apply ud;grind
def ahY(h:aZ K β ω Z s a w){t:bv}{m k:cD}{dst:Nat}{o:cR}(ho:o.op=.mapEntry t m k){v:SV}{s':St}(he:(cq af o.op dst).aE s=J (v,s')):cQ K s' a dst ((execOp a.eval o).run K.P w) v:=by
 rw[ho]at he;simp only[cq]at he;obtain⟨c,s1,h1,Y⟩:=aT he;obtain⟨hs1,o1,r1,Iz⟩:=gs h h1;rw[hs1]at Y;obtain⟨kv,s2,h2,p⟩:=aT Y;obtain⟨hs2,hkv,Oy,ahO⟩:=iM h h2;rw[hs2]at p;unfold xB at p;split at p;rename_i kt ki ei hm;obtain⟨et,hu,hki,OB,g,l⟩:=uT hT hm;split at p;rename_i sh kd z hsc OD hz;obtain⟨_,s3,h3,q⟩:=aT p;obtain⟨⟨f,hkl,hka,hzl,hg⟩,hs3⟩:=cN h3;rw[hs3]at q;split at q;rename_i r j lm cv0 e k0 xs0;simp only[aw.aE]at q;obtain⟨_,s5,h5,u⟩:=aT q;obtain⟨⟨uP,F,hee⟩,hs5⟩:=cN h5;rw[hs5]at u;split at u;rename_i e' xs G;obtain⟨_,s6,h6,he6⟩:=aT u;obtain⟨Dl,OM⟩:=cN h6;rw[OM]at he6;obtain⟨_,s7,H,IA⟩:=aT he6;simp only[eo,aw.aE,Option.some.injEq,gH]at H;obtain⟨_,H⟩:=H;obtain⟨hx,hs8⟩:=bh IA;obtain⟨hee',b,es,cu,e1,f1,N,R,g3,S⟩:=WD h r1 uP F hee (xS g l) (uS g l) G;subst hee';have hK:=Is hT hki hsc;obtain⟨hku,y⟩:=Ov hkv OD f hka;obtain⟨zv,WE,hrf,Oz⟩:=Og (w:=w) (hT.T _ _ OB) hz;have hzd:DL w Z zv.cells.toList z:=qc hrf;have hzs:iy ei.kind.agg ei.size zv:=Ww w hrf Oz hzl;have hks:iy ki.kind.agg ki.size (eH ki.kind.agg kd):=Iv f hkl (λhf=>by have:=y hf;omega);have OE:DL w Z (eH ki.kind.agg kd).cells.toList kd:=Wz f y;have Dn:(mY I 10000 kt (eH ki.kind.agg kd)).run K.P w=.ok () w:=hK.check w kd I f;have hZ:∀(o':Obj)b',Z b'->({w with heap:=w.heap.setIfInBounds b o'}:World).heap[b']?=w.heap[b']? /\Z b':=λo' b' hb'=>⟨(Ix (o':=o') N).1.other b' (λe=>S (e▸hb')),hb'⟩;have A:∀(w':World)(vv:aL)(ds:M D)(n:Nat),(∀b,Z b->w'.heap[b]?=w.heap[b]? /\Z b)->iy ei.kind.agg ei.size vv->DL w Z vv.cells.toList ds->aZ K β ω Z s' a w'->(execOp a.eval o).run K.P w=.ok (.value (.tuple #[vv,goInt n])) w'->v=.bw [(ei.kind.agg,ds.map .d),(I,[.d (.int .i64 n)])]->cQ K s' a dst ((execOp a.eval o).run K.P w) v:=by intro w' vv ds n hZ' hs hd hR hrun OA;rw[OA];refine⟨_,w',β,ω,Z,hrun,hR,jh.Db ⟨#[vv,goInt n],rfl,Iy hs (DL.mono' hZ' hd),?_,trivial⟩ ?_⟩;exact⟨_,rfl,rfl,rfl⟩;intro c hc;simp only[SV.cells,kK,CD,ug,mm,mq,js]at hc;rcases hc with⟨d,_,rfl⟩|rfl<;>simp[cP]
 rcases Iw hK g l g3 (.refl _) R Dl f y with⟨q1,q2,q2n⟩|⟨i,m,x,en,q1,q2,q3,Dm,B,q5,_⟩
 have V:qa (dn ki ei) {key:=eH ki.kind.agg kd,val:=zv,born:=cu}:=(xR g l).2 ⟨hks,hzs⟩;obtain⟨p2,p3⟩:=ahL R g3 V rfl q2n (Ox OE hzd rfl rfl);obtain⟨hR,_⟩:=OJ (es':=es.push {key:=eH ki.kind.agg kd,val:=zv,born:=cu}) (clk':=cu+1) h (xS g l) (uS g l) G F f1 N S (by grind) (by rw[Array.toList_push];exact p3);rw[q1]at H hx;have ah1:cu=xs.length:=by rw[R.cu,qf g3]
 refine A _ zv z cu (hZ _) hzs hzd (by rw[hs8,<-H];exact hR) ?_ (by rw[hx,ah1];rfl);simp only[execOp,ho,Instr.mapEntry,e1,hku,dB,kZ hu,dE,fF,qg N,Dn,q2,WE,Dk N];have hmi:m=i:=Ot R.nd Dm B rfl;subst hmi;have V:=R.ok en (fG B);obtain⟨hk,hv⟩:=(xR g l).1 V;obtain⟨x',p1,p2⟩:=rq g3 B;rw[q3]at p1;cases p1;obtain⟨p3,p4⟩:=Au hk p2;have C:en.key=eH ki.kind.agg kd:=by grind
 have E:(es.modify m λe=>{e with key:=eH ki.kind.agg kd}).toList=es.toList:=by rw[OL _ B];apply ud;intro n;rw[zO];split;rename_i hin;subst hin;rw[aF (ik.1 B).1,B,<-C];rfl
 obtain⟨hR,_⟩:=OJ (ys:=xs) (es':=es.modify m λe=>{e with key:=eH ki.kind.agg kd}) (clk':=cu) h (xS g l) (uS g l) G F f1 N S (by rw[E];exact R) (by rw[E];exact g3);rw[q1]at H hx;refine A _ en.val (x.drop ki.size) m (hZ _) hv p4 (by rw[hs8,<-H];exact hR) ?_ (by rw[hx];simp only[iK,kP q3,Option.getD_some]);have OH:es[m]?=J en:=by simpa using B
 have X:(Vj (eH ki.kind.agg kd) (eH ki.kind.agg kd)).run K.P w=.ok (eH ki.kind.agg kd) w:=by simp[Vj,WC f y]
 simp only[execOp,ho,Instr.mapEntry,e1,hku,dB,kZ hu,dE,fF,qg N,Dn,q2,OH,Option.map_some,Option.getD_some,C,X,Dk N,R.born m en B];simp[aw.aE]at u;simp[aw.aE]at q;simp[aw.aE]at p;simp[aw.aE]at p
def ah3(h:aZ K β ω Z s a w){t:bv}{c st:C}{um us ux:aL}{E:SV}{y:bY}{s':St}(F:aS K β Z s a w c um)(G:aS K β Z s a w st us)(H:bQ (aS K β Z s a w) ux E) (N:∀c∈E.cells,cP c)(D:(CU af t c st E).aE s=J (y,s')):∃w' R ω' Z',(ayk t um us ux).run K.P w=.ok () w'/\aZ K R ω' Z' s' a w':=by
 unfold CU at D;split at D;rename_i kt ki ei kk n vc hm S;obtain⟨et,hu,hki,OB,f,g⟩:=uT hT hm;obtain⟨_,s1,h1,o⟩:=aT D;obtain⟨⟨hvl,hva⟩,T⟩:=cN h1;rw[T]at o;obtain⟨vd,s2,h2,i⟩:=aT o;obtain⟨V,p⟩:=xP H S;obtain⟨X,Z1,r1,k1,p1⟩:=Ii vc _ ω Z s s2 vd h p (λc hc=>N c (by rw[V];exact hc)) h2;split at i;rename_i r j Y cv0 e k0 xs0;have q:=k1.li h.dp (c:=.bm r j Y cv0 e k0 xs0) (by simp) F;simp only[aw.aE]at i;obtain⟨_,s3,h3,k⟩:=aT i;obtain⟨⟨uP,u,hee⟩,hs3⟩:=cN h3;rw[hs3]at k;split at k;rename_i e' xs v;obtain⟨_,s4,h4,l⟩:=aT k;obtain⟨⟨hn0,xV⟩,hs4⟩:=cN h4;rw[hs4]at l;simp only[eo,aw.aE,Option.some.injEq,gH]at l;obtain⟨_,rfl⟩:=l;obtain⟨z,b,es,cu,e1,f1,g1,A,g3,hnz⟩:=WD r1 q uP u hee (xS f g) (uS f g) v;subst z;have e2:us=.int kk n:=G;have hl:=qf g3;have m:n.toNat<es.toList.length:=by omega
 obtain⟨en,d⟩:∃en,es.toList[n.toNat]?=J en:=⟨_,eD m⟩;have hen:=A.ok en (fG d);obtain⟨hk,hv⟩:=(xR f g).1 hen;obtain⟨x,q3,p2⟩:=rq g3 d;obtain⟨p3,p4⟩:=Au hk p2;have hvs:iy ei.kind.agg ei.size ux:=by grind [Wx]
 have B:qa (dn ki ei) {en with val:=ux}:=(xR f g).2 ⟨hk,hvs⟩;obtain⟨o1,o2⟩:=ahK (en:={en with val:=ux}) (y:=x.take ki.size++vd) A g3 m B (show en.born=_ from A.born _ en d) (λx hx=>by grind) (Ox p3 p1 rfl rfl);obtain⟨hR,_⟩:=OJ (es':=es.modify n.toNat λe=>{e with val:=ux}) (clk':=cu) r1 (xS f g) (uS f g) v u f1 g1 hnz (by rw[OL _ d];exact o1) (by rw[OL _ d];exact o2);refine⟨_,β,X,Z1,?_,by rw[kP q3];exact hR⟩;have hfi:es.findIdx? (λe=>(e.born:L)==n)=J n.toNat:=by
  have hsz:n.toNat<es.size:=by simpa using m
  rw[Array.findIdx?_eq_some_iff_getElem];refine⟨hsz,?_,λj hj=>?_⟩;have:es[n.toNat]=en:=by grind
  rw[this,A.born _ _ d];simp;omega;have hj2:es.toList[j]?=J es[j]:=by rw[qO,Array.getElem?_eq_getElem]
  rw[A.born _ _ hj2];simp;omega
 rw[e1,e2];simp only[ayk,dB,dE,qg g1,Go.asInt,asIntOf,fF,hfi,Dk g1];simp[aw.aE]at k;simp[aw.aE]at i;simp[aw.aE]at D
def ah5(h:aZ K β ω Z s a w){t:bv}{c:C}{u:aL}{v:SV}{s':St}(i:aS K β Z s a w c u)(g:(Aj af t c).aE s=J (v,s')):s'=s/\∃n:Nat,v=gJ .i64 n/\(u=.map O/\n=0\/∃b es cu,u=.map (J b)/\w.heap[b]?=J (.map es cu)/\n=es.size)/\∃kt j,aa9 K.P t=J (.map kt j):=by
 unfold Aj at g;split at g;rename_i kt ki ei o;let⟨j,p,q,r,d,e⟩:=uT hT o;let⟨xs,E,h1,k⟩:=aT g;let⟨l,x⟩:=Wv h (λF f=>⟨(sG d e f).mp,(sG d e f).it,(sG d e f).oe⟩) i h1;let⟨y,m⟩:=bh k;refine⟨by rw[m,l],Y xs,y,?_,kt,j,p⟩;rcases x with⟨rfl,rfl⟩|⟨b,rfl,es,cu,z,A,G,B,D⟩
 grind;exact .inr ⟨b,es,cu,rfl,A,by rw[qf B,D.length_eq];simp⟩;simp[aw.aE]at g
end
end
section
variable{K:de}{β:aD->Option Nat}{ω:Nat->Option cT}{Z:Nat->Prop}{s:St}{a:Act}{w:World}{af:bO}(hT:ib K.P af)
def ah6(h:aZ K β ω Z s a w){x:cD}{dst:Nat}{o:cR}(g:o.op=.move x){v:SV}{s':St}(d:(cq af o.op dst).aE s=J (v,s')):cQ K s' a dst ((execOp a.eval o).run K.P w) v:=by
 rw[g]at d;simp only[cq]at d;let⟨v1,l,h1,c⟩:=aT d;let⟨e,hv,f,i⟩:=iM h h1;subst e;have b:(execOp a.eval o).run K.P w=.ok (.value (ab3 a x)) w:=by simp[execOp,g]
 split at c;grind [bh,cQ.same];let⟨ω',Z',j,k1,k⟩:=V4 h hv f c;exact⟨_,w,β,ω',Z',b,j,k⟩
def ah7(h:aZ K β ω Z s a w){x:cD}{dst:Nat}{o:cR}(g:o.op=.assign x){v:SV}{s':St}(c:(cq af o.op dst).aE s=J (v,s')):cQ K s' a dst ((execOp a.eval o).run K.P w) v:=by
 rw[g]at c;simp only[cq]at c;let⟨v1,l,h1,d⟩:=aT c;let⟨e,hv,f,i⟩:=iM h h1;subst e;have b:(execOp a.eval o).run K.P w=.ok (.value (ab3 a x)) w:=by simp[execOp,g]
 let⟨ω',Z',j,k1,k⟩:=V1 h hv f d;exact⟨_,w,β,ω',Z',b,j,k⟩
def ah8(h:aZ K β ω Z s a w){c x y:cD}{dst:Nat}{o:cR}(m:o.op=.pick c x y){v:SV}{s':St}(e:(cq af o.op dst).aE s=J (v,s')):cQ K s' a dst ((execOp a.eval o).run K.P w) v:=by
 rw[m]at e;simp only[cq]at e;let⟨c1,u,h1,f⟩:=aT e;let⟨g,z,p,n⟩:=gs h h1;subst g;clear e;let⟨b,A,h2,d⟩:=aT f;let⟨i,q⟩:=ahx h2;subst i;subst q;have r:ab3 a c=.bool b:=p;have j:(execOp a.eval o).run K.P w=.ok (.value (if b=W then ab3 a x else ab3 a y)) w:=by simp[execOp,m,r,asBool]
 split at d;rename_i t;let⟨k,hv,l,_⟩:=iM h d;grind [cQ.same];rename_i t;let⟨k,hv,l,_⟩:=iM h d;grind [cQ.same]
def ah9(h:aZ K β ω Z s a w){x:cD}{dst:Nat}{o:cR}(f:o.op=.nilCheck x){v:SV}{s':St}(g:(cq af o.op dst).aE s=J (v,s')):cQ K s' a dst ((execOp a.eval o).run K.P w) v:=by rw[f]at g;simp only[cq]at g;let⟨c1,m,h1,c⟩:=aT g;let⟨i,j,d,k⟩:=gs h h1;subst i;clear g;split at c;obtain⟨rfl,rfl⟩:=bh c;let⟨b,n,e⟩:=id d;exact cQ.same h (u:=ab3 a x) (by simp[execOp,f,e]) ⟨j,d⟩ (by simp[SV.cells,cP]);obtain⟨rfl,rfl⟩:=bh c;let⟨b,l,e,_⟩:=id d;exact cQ.same h (u:=ab3 a x) (by simp[execOp,f,e]) ⟨j,d⟩ (by simp[SV.cells,cP]);obtain⟨rfl,rfl⟩:=bh c;let⟨b,l,e,_⟩:=id d;exact cQ.same h (u:=ab3 a x) (by simp[execOp,f,e]) ⟨j,d⟩ (by simp[SV.cells,cP]);simp[aw.aE]at c
include hT in
def aia(h:aZ K β ω Z s a w){t:bv}{x:cD}{dst:Nat}{o:cR}(g:o.op=.load t x){v:SV}{s':St}(b:(cq af o.op dst).aE s=J (v,s')):cQ K s' a dst ((execOp a.eval o).run K.P w) v:=by rw[g]at b;simp only[cq]at b;split at b;rename_i i c;let⟨c1,p,h1,d⟩:=aT b;let⟨e,q,j,k⟩:=gs h h1;subst e;let⟨f,y,l,m,n⟩:=V7 h (hT.T _ _ c) j d;subst f;exact cQ.same h (u:=y) (by simp[execOp,g,l]) m n;simp[aw.aE]at b
include hT in
def aib(h:aZ K β ω Z s a w){t:bv}{x:cD}{f dst:Nat}{o:cR}(i:o.op=.fieldAddr t x f){v:SV}{s':St}(b:(cq af o.op dst).aE s=J (v,s')):cQ K s' a dst ((execOp a.eval o).run K.P w) v:=by rw[i]at b;simp only[cq]at b;let⟨c1,q,h1,c⟩:=aT b;let⟨d,r,j,k⟩:=gs h h1;subst d;let⟨z,A,h2,e⟩:=aT c;obtain⟨rfl,rfl⟩:=bh e;let⟨g,y,l,m,n,p⟩:=ahl hT j h2;subst g;exact cQ.same h (u:=y) (by simp[execOp,i,l]) ⟨p,m⟩ (by simpa[SV.cells]using n)
include hT in
def aic(h:aZ K β ω Z s a w){t:bv}{x z:cD}{dst:Nat}{o:cR}(A:o.op=.indexAddr t x z){v:SV}{s':St}(p:(cq af o.op dst).aE s=J (v,s')):cQ K s' a dst ((execOp a.eval o).run K.P w) v:=by
 rw[A]at p;simp only[cq]at p;split at p;rename_i g;let⟨c2,s2,h2,b⟩:=aT p;let⟨d,o2,B,q⟩:=gs h h2;subst d;let⟨n,s3,h3,e⟩:=aT b;obtain⟨f,k,rfl⟩:=uR h3;subst f;let⟨c3,s4,c,m⟩:=aT e;obtain⟨rfl,rfl⟩:=bh m;have C:ab3 a z=.int k n:=B;unfold HU at c;split at c;rename_i l size bytes len et zero hl D;let⟨dd,hd,hk,E⟩:=fe (w:=w) (hT.T _ _ D);have F:=Ik hk;subst F;split at c;rename_i i H;let⟨_,s5,h5,h6⟩:=aT c;let⟨hn,N⟩:=cN h5;subst N;let⟨_,s6,h7,h8⟩:=aT h6;let⟨⟨Y,R⟩,S⟩:=cN h7;subst S;obtain⟨rfl,rfl⟩:=bh h8;let⟨q1,q2,q3,q4⟩:=h.laid g _ (hT.G _ _ hl);have e1:ab3 a (.global g)=.pointer (J ⟨g,0,O⟩):=rfl;have hlt:G n<l.length:=by omega
 refine cQ.same h (u:=.pointer (J ⟨g,G n,O⟩)) ?_ ⟨rfl,g,G n,rfl,q2,⟨_,q4.aG (j:=G n) (v:=.int .u64 (l.getD (G n) 0)) ?_,rfl⟩,trivial⟩ (by simp[SV.cells,cP]);simp[execOp,A,C,e1,Nx,asIntOf,E,lj (hT.T _ _ H),hn,xb,xI,R];grind;simp[aw.aE]at c;simp[aw.aE]at c;let⟨c1,s1,h1,r⟩:=aT p;let⟨V,o1,r1,hno⟩:=gs h h1;subst V;clear p;let⟨c2,s2,h2,b⟩:=aT r;let⟨d,o2,B,q⟩:=gs h h2;subst d;clear r;let⟨n,s3,h3,e⟩:=aT b;obtain⟨f,k,rfl⟩:=uR h3;subst f;clear b;let⟨c3,s4,c,m⟩:=aT e;obtain⟨rfl,rfl⟩:=bh m;have C:ab3 a z=.int k n:=B;let⟨X,y,g1,g2,g3,g4⟩:=ahm hT (k:=k) r1 c;subst X;exact cQ.same h (u:=y) (by simp[execOp,A,C,g1]) ⟨g4,g2⟩ (by simpa[SV.cells]using g3)
def WF{P:er}{i:TI}{t:bv}(f:kN P t=J i){ws:bZ aL}{cs:M C}(b:aR (λu c=>aS K β Z s a w c u) (V ws) cs)(g:∀c∈cs,cP c){off:Nat}{v:SV}{s':St} (n:(my i cs off).aE s=J (v,s')):s'=s/\∃y,(part t ws off).run P w=.ok y w/\bQ (aS K β Z s a w) y v/\(∀c∈v.cells,cP c):=by
 obtain⟨rfl,l,o,h⟩:=Dg n;have q:=b.length;rcases h with⟨hk,rfl⟩|⟨hk,c,e,j,rfl⟩
 refine⟨rfl,.agg (ws.extract off (off+i.size)),?_,⟨_,rfl,?_⟩,λc e=>g c (List.mem_of_mem_drop (List.mem_of_mem_take e))⟩;simp[part,Ij f,hk,lj f];have:V (ws.extract off (off+i.size))=((V ws).drop off).take i.size:=by simp_all
 rw[this];exact(b.drop off).take _;let⟨u,p,d⟩:=b.aG e;have m:=fG e;refine⟨rfl,u,?_,⟨Df d j,d⟩,by simp_all [SV.cells]⟩;have k:ws[off]?=J u:=by simpa using p
 simp[part,Ij f,hk,k]
include hT in
def aid(h:aZ K β ω Z s a w){t:bv}{x:cD}{f dst:Nat}{o:cR}(r:o.op=.field t x f){v:SV}{s':St}(g:(cq af o.op dst).aE s=J (v,s')):cQ K s' a dst ((execOp a.eval o).run K.P w) v:=by
 rw[r]at g;simp only[cq]at g;let⟨v1,G,h1,b⟩:=aT g;let⟨j,hv,k,B⟩:=iM h h1;subst j;clear g;split at b;rename_i fs z cs l;split at b;rename_i H N c;split at b;rename_i i m;let⟨d,hd,hk,n⟩:=fe (w:=w) (hT.T _ _ l);obtain⟨fields,rfl,rfl⟩:=De hk;rw[iH]at c;cases A:(V fields)[f]? with
 |none=>grind|some fd=>
  rw[A]at c;simp only[Option.map_some,Option.some.injEq,gH]at c;obtain⟨rfl,rfl⟩:=c;have p:fields[f]?=J fd:=by simpa using A
  let⟨ws,C,e⟩:=hv;let⟨q,y,D,E,F⟩:=WF (P:=K.P) (hT.T _ _ m) e k b;subst q;exact cQ.same h (u:=y) (by simp[execOp,r,Instr.field,n,p,C,asAgg,D]) E F
 simp[aw.aE]at b;simp[aw.aE]at b;simp[aw.aE]at b
include hT in
def aie(h:aZ K β ω Z s a w){t:bv}{x R:cD}{dst:Nat}{o:cR}(C:o.op=.index t x R){v:SV}{s':St}(B:(cq af o.op dst).aE s=J (v,s')):cQ K s' a dst ((execOp a.eval o).run K.P w) v:=by rw[C]at B;simp only[cq]at B;let⟨v1,s1,h1,p⟩:=aT B;let⟨D,hv,E,X⟩:=iM h h1;subst D;clear B;let⟨c2,s2,h2,q⟩:=aT p;let⟨f,o2,Y,S⟩:=gs h h2;subst f;clear p;let⟨n,s3,h3,c⟩:=aT q;obtain⟨F,k,rfl⟩:=uR h3;subst F;clear q;have V:ab3 a R=.int k n:=Y;unfold CS at c;split at c;rename_i bj g;let⟨d,hd,hk,j⟩:=fe (w:=w) (hT.T _ _ g);have l:=sC hk;subst l;let⟨_,s4,G,e⟩:=aT c;let⟨H,m⟩:=cN G;subst m;split at e;rename_i b hb;obtain⟨rfl,rfl⟩:=bh e;have N:ab3 a x=.string ⟨ve bj⟩:=hv.2;refine cQ.d h (u:=.int .u8 b.toNat) ?_ rfl;simp[execOp,C,Instr.index,N,V,asIntOf,j,H,ahp,hb];simp[aw.aE]at e;rename_i len et z cs g;let⟨d,hd,hk,j⟩:=fe (w:=w) (hT.T _ _ g);have l:=Ik hk;subst l;split at c;rename_i i r;let⟨_,s4,G,e⟩:=aT c;let⟨H,m⟩:=cN G;subst m;let⟨ws,N,A⟩:=hv;let⟨f,y,g1,g2,g3⟩:=WF (P:=K.P) (hT.T _ _ r) A E e;subst f;exact cQ.same h (u:=y) (by simp[execOp,C,Instr.index,N,V,asIntOf,j,H,lj (hT.T _ _ r),g1]) g2 g3;simp[aw.aE]at c;simp[aw.aE]at c
include hT in
def aif(h:aZ K β ω Z s a w){args:bZ cD}{A:bZ bv}{dst:Nat}{o:cR}(B:o.op=.call {callee:=.builtin .len,args,argTypes:=A}){v:SV}{s':St}(g:(cq af o.op dst).aE s=J (v,s')):cQ K s' a dst ((execOp a.eval o).run K.P w) v:=by
 rw[B]at g;simp only[cq]at g;split at g;rename_i x t X Y;have k:args=#[x]:=by grind
 have C:A=#[t]:=by grind
 subst k;subst C;have key:∀b:ay,(∃i,af.ti t=J i/\((b=W/\i.kind=.bj)\/(b=I/\∃e,i.kind=.slice e)))->(do rb b (<-ev x):aw SV).aE s=J (v,s')->cQ K s' a dst ((execOp a.eval o).run K.P w) v:=by
  rintro b ⟨i,E,f⟩ g;let⟨v1,H,h1,j⟩:=aT g;let⟨m,hv,N,R⟩:=iM h h1;subst m;obtain⟨p,n,rfl,F⟩:=ahz hv j;subst p;let⟨d,hd,hk,D⟩:=fe (w:=w) (hT.T _ _ E);refine cQ.d h (u:=.int .i64 n) ?_ rfl;rcases F with⟨rfl,l,r,rfl⟩|⟨rfl,ad,cap,r⟩
  have y:tk d=.bj:=f.elim (λq=>by rw[hk,q.2]) (λq=>by cases q.1);have z:=sC y;subst z;simp[execOp,B,resolve,invoke,builtin,Vk,r,D,goInt,Dj];obtain⟨e,y⟩:∃e,tk d=.slice e:=f.elim (λq=>by cases q.1) (λ⟨_,e,q⟩=>⟨e,by rw[hk,q]⟩);have z:=n6 y;subst z;simp[execOp,B,resolve,invoke,builtin,Vk,r,D,goInt]
 split at g;grind;grind;let⟨c,H,h1,j⟩:=aT g;let⟨m,o1,S,G⟩:=gs h h1;rw[m]at j;obtain⟨p,n,rfl,F,kt,et,hd⟩:=ah5 hT h S j;subst p;refine cQ.d h (u:=.int .i64 n) ?_ rfl;rcases F with⟨r,rfl⟩|⟨b,es,cu,r,V,rfl⟩
 simp[execOp,B,resolve,invoke,builtin,Vk,r,kZ hd,goInt];simp[execOp,B,resolve,invoke,builtin,Vk,r,kZ hd,goInt,qg V];simp[aw.aE]at g;simp[aw.aE]at g
def ON(h:aZ K β ω Z s a w):∀(os:M cD){vs:M SV}{s':St},(ra os).aE s=J (vs,s')->s'=s/\aR (λu v=>bQ (aS K β Z s a w) u v) (os.map a.eval) vs/\(∀v∈vs,(∀c∈v.cells,cP c)/\v≠.undef):=by
 intro os;induction os with
 |nil=>intro vs s' d;obtain⟨rfl,rfl⟩:=bh d;exact⟨rfl,trivial,by simp⟩
 |cons o os m=>intro vs s' d;simp only[ra]at d;let⟨v,r,h1,b⟩:=aT d;let⟨e,hv,n,p⟩:=iM h h1;rw[e]at b;let⟨q,t,h2,f⟩:=aT b;let⟨g,i,k⟩:=m h2;let⟨l,j⟩:=bh f;rw[l];refine⟨by rw[j,g],⟨hv,i⟩,λx l=>?_⟩;grind
def WG(h:aZ K β ω Z s a w){args:bZ cD}{f:bZ bv}{dst:Nat}{o:cR}{b:ay}(l:o.op=.call {callee:=.builtin (if b then .min else .max),args,argTypes:=f}){v:SV}{s':St} (r:(do CX b (<-ra (V args)):aw SV).aE s=J (v,s')):cQ K s' a dst ((execOp a.eval o).run K.P w) v:=by
 let⟨vs,z,h1,c⟩:=aT r;let⟨g,e,i⟩:=ON h _ h1;subst g;unfold CX at c;split at c;rename_i k x k' y;obtain⟨rfl,rfl⟩:=bh c;match j:V args,e with
 |[p,q],e=>
  have m:ab3 a p=.int k x:=e.1.2;have n:ab3 a q=.int k' y:=e.2.1.2;have t:args=#[p,q]:=by grind
  subst t;refine cQ.d h (u:=.int k (if b then(if y<x then y else x)else(if y>x then y else x))) ?_ rfl;cases b;simp[execOp,l,resolve,invoke,builtin,Builtin.max_,Builtin.max2,m,n];simp[execOp,l,resolve,invoke,builtin,Builtin.min_,Builtin.min2,m,n]
 simp[aw.aE]at c
def aig(h:aZ K β ω Z s a w){f:dS}{first captured:bZ cD}{dst:Nat}{o:cR}(x:o.op=.makeFunc (.func f) first captured){v:SV}{s':St}(i:(cq af o.op dst).aE s=J (v,s')):cQ K s' a dst ((execOp a.eval o).run K.P w) v:=by
 rw[x]at i;simp only[cq]at i;let⟨_,D,y,j⟩:=aT i;let⟨e,m⟩:=cN y;subst m;clear i;let⟨vs,E,h1,g⟩:=aT j;let⟨n,q,r⟩:=ON h _ h1;subst n;split at g;rename_i l d;obtain⟨rfl,rfl⟩:=bh g;have key:∀(os:M aL)(vs:M SV)(l:M (aD×Nat)),aR (λu v=>bQ (aS K β Z s' a w) u v) os vs->vs.mapM (λv=>match v with|.one (.aX k o)=>J (k,o)|_=>O)=J l->aR (λu p=>∃b,β p.1=J b/\u=.pointer (J ⟨b,p.2,O⟩)) os l:=by
  intro os;induction os with
  |nil=>
   intro vs l hv d;cases vs with|nil=>simp at d;subst d;trivial|cons _ _=>exact aaY hv
  |cons u os z=>
   intro vs l hv d;cases vs with
   |nil=>exact aaY hv|cons v vs=>
    rw[List.mapM_cons]at d;cases v with
    |one c=>
     cases c with
     |aX k off=>
      cases t:vs.mapM (λv=>match v with|.one (.aX k o)=>J (k,o)|_=>O)with|none=>simp[t]at d|some A=>simp[t]at d;subst d;let⟨b,B,C⟩:=hv.1.2;exact⟨⟨b,B,C⟩,z vs A hv.2 t⟩
     |_=>simp at d
    |_=>simp at d
 have:=key _ _ _ q d;refine cQ.same h (u:=.func (.func f) #[] (captured.map a.eval)) ?_ ⟨rfl,captured.map a.eval,rfl,by simpa using this⟩ (by simp[SV.cells,cP]);simp[execOp,x,Instr.makeFunc,e];simp[aw.aE]at g
def aih(h:aZ K β ω Z s a w){x:cD}{n dst:Nat}{o:cR}(y:o.op=.extract x n){v:SV}{s':St}(b:(cq af o.op dst).aE s=J (v,s')):cQ K s' a dst ((execOp a.eval o).run K.P w) v:=by
 rw[y]at b;simp only[cq]at b;let⟨v1,z,h1,d⟩:=aT b;let⟨m,hv,p,B⟩:=iM h h1;subst m;clear b;split at d;rename_i vs;let⟨us,D,e⟩:=hv;have key:∀(bx:ay×M C)(v2:SV),vs[n]?=J bx->((bx.1=W/\v2=.agg bx.2)\/(bx.1=I/\∃c,bx.2=[c]/\v2=.one c))->(lR (.tmp dst) x v2).aE z=J (v,s')->cQ K s' a dst ((execOp a.eval o).run K.P w) v:=by
  intro bx v2 f g b;let⟨u,E,i⟩:=e.aG f;have q:us[n]?=J u:=by simpa using E
  have r:bQ (aS K β Z z a w) u v2:=by
   unfold eB at i;rcases g with⟨j,rfl⟩|⟨j,c,l,rfl⟩
   simp only[j,bH]at i;exact i;simp only[j,bM,ca]at i;let⟨F,A,G,H⟩:=i;rw[l]at A;cases A;exact⟨G,H⟩
  have k:∀c∈v2.cells,cP c:=by
   intro c l;refine p c (Hr.2 ⟨bx,fG f,?_⟩);rcases g with⟨j,rfl⟩|⟨j,F,t,rfl⟩
   exact l;rw[t];exact l
  let⟨ω',Z',N,k1,R⟩:=V4 h r k b;exact⟨u,w,β,ω',Z',by simp[execOp,y,D,Instr.extract,q],N,R⟩
 grind [aw.aE];simp[aw.aE]at d
end
section
variable{K:de}{β:aD->Option Nat}{ω:Nat->Option cT}{Z:Nat->Prop}{s:St}{a:Act}{w:World}{af:bO}(hT:ib K.P af)
def Do{e b:Nat}{ws:bZ aL}{el:bv}{fz:Nat×Nat}(c:w.heap[b]?=J (.cells ws el fz)):∀(rows:M (M D))(o:Nat),(∀r∈rows,Y r=e)->(∀(j:Nat)d,(acA rows)[j]?=J d->∃u,ws[o+j]?=J u/\bA w Z d u)->dt w Z e rows b o|[],_,_,_=>trivial|r::rows,o,a,h=>by have f:=a r (kJ ..);refine⟨f,fC.dU λj d hd=>?_,Do c rows (o+e) (λx g=>a x (jr _ g)) λj d hd=>?_⟩;have i:j<Y r:=(ik.1 hd).1;simp_all [pO,World.cell?];let⟨u,h1,h2⟩:=h (e+j) d (by grind);grind
theorem IB{e:Nat}:∀{rows:M (M D)},(∀r∈rows,Y r=e)->Y (acA rows)=Y rows*e|[],_=>by simp|r::rows,h=>by simp only[Vl,mo,kL,IB (rows:=rows) (λx a=>h x (jr _ a)),h r (kJ ..),Nat.add_mul];omega
theorem dt.us{e b:Nat}:∀{xs:M (M D)}{o:Nat},dt w Z e xs b o->∃us,DL w Z us (acA xs)/\Y us=Y xs*e/\∀j,j<Y us->T w ⟨b,o+j,O⟩=us[j]?
 |[],_,_=>⟨[],trivial,by simp,by simp⟩|x::xs,o,h=>by
  let⟨h1,h2,h3⟩:=h;let⟨a,f1,f2⟩:=h2.us;let⟨u2,c,d,f⟩:=dt.us h3;have g:Y a=e:=by rw[f1.length,h1]
  refine⟨a++u2,aR.append f1 c,by grind,λj i=>?_⟩;grind
theorem DL.aG{us:M aL}{ds:M D}(h:DL w Z us ds){j:Nat}{d:D}(hd:ds[j]?=J d):∃u,us[j]?=J u/\bA w Z d u:=aR.aG h hd
theorem DL.mono{w':World}{Z':Nat->Prop}(hZ:∀b,Z b->w'.heap[b]?=w.heap[b]? /\Z' b){us:M aL}{ds:M D}(h:DL w Z us ds):DL w' Z' us ds:=aR.mono (λ_ _ a=>bA.mono hZ _ _ a) h
theorem OO(zero:bZ aL)(n:Nat):V ((ND (n*zero.size)).map λi=>zero[i%zero.size]!)=acA (ej n (V zero)):=by
 apply ud;intro i;have b:Y (acA (ej n (V zero)))=n*zero.size:=by simp
 by_cases a:i<n*zero.size;have c:0<zero.size:=by grind
 have key:∀(n i:Nat),i<n*zero.size->(acA (ej n (V zero)))[i]?=(V zero)[i%zero.size]? :=by
  intro n;induction n with
  |zero=>intro i a;simp at a
  |succ n d=>intro i a;simp only[agH,Vl];by_cases h1:i<Y (V zero);simp_all [pO,Nat.mod_eq_of_lt];grind [Nat.mod_eq_sub_mod]
 grind;grind
theorem IC{us:M aL}{ds:M D}(h:DL w Z us ds):∀n:Nat,DL w Z (acA (ej n us)) (acA (ej n ds))|0=>trivial|n+1=>by simp only[agH,Vl];exact aR.append h (IC h n)
def Dp(h:aZ K β ω Z s a w){e dst len cap:Nat}{ws:bZ aL}{el:bv}{rows:M (M D)}{r:Result Next}(v:r=.ok (.value (.slice (J ⟨w.heap.size,0,O⟩) len cap)) (abK w (.cells ws el))) (n:Y rows=len)(f:len<=cap)(o:cap*e<=ws.size)(g:∀r∈rows,Y r=e)(hd:∀(j:Nat)d,(acA rows)[j]?=J d->∃u,ws[j]?=J u/\bA w Z d u)(hm:cf e=I):cQ K s a dst r (.one (.ak e rows)):=by
 let⟨y,k1,f1,p⟩:=h.alloc ws el (.tmp dst,J 0);refine⟨_,_,β,_,Z,v,y,⟨rfl,(aS.jg hm).2 ⟨⟨w.heap.size,0,O⟩,cap,by rw[n],rfl,by rw[n];exact f,?_⟩⟩,?_⟩;refine Do p rows 0 g λj d i=>?_;let⟨u,k,l⟩:=hd j d i;exact⟨u,by simpa using k,bA.mono (λb m=>⟨k1.heap b (h.dp b m),m⟩) _ _ l⟩;intro j c x q t;have i:j=0:=by grind [SV.cells]
 subst i;simp only[SV.cells,ij,Option.some.injEq]at q;simp only[ey,ij,Option.some.injEq]at t;subst q;subst t;refine⟨(aS.jg hm).2 ⟨⟨w.heap.size,0,O⟩,cap,by rw[n],rfl,by rw[n];exact f,?_⟩,λz xs b k l=>?_⟩;refine Do p rows 0 g λj d i=>?_;let⟨u,k,l⟩:=hd j d i;exact⟨u,by simpa using k,bA.mono (λb m=>⟨k1.heap b (h.dp b m),m⟩) _ _ l⟩;cases k;cases l;exact⟨by simp,⟨ws,el,0,0,p,by simpa using o,by omega⟩,f1⟩
theorem uU{P:er}(el:bv)(ws:bZ aL):(newRow el ws).run P w=.ok ⟨w.heap.size,0,O⟩ (abK w (.cells ws el)):=rfl
def WH(h:aZ K β ω Z s a w){k:aD}(i:(s (.box k)).v=.undef){ws:bZ aL}{el:bv}{cs:M C}(l:ia K β ω Z s a w (λn=>(.box k,n)) 0 (V ws) cs):∃c ω',aZ K c ω' Z (s.set (.box k) {hv:=(s (.box k)).hv+1,cv:=(s (.box k)).cv,v:=.agg cs}) a (abK w (.cells ws el))/\c k=J w.heap.size:=by
 let⟨m,k1,f1,o⟩:=h.alloc ws el (.box k,O);have d:=ia.lift h k1 l;have f:β k=O:=by have:=h.aI k;rw[i]at this;exact this
 let⟨t,_⟩:=m.N5 (k:=k) (b:=w.heap.size) (ws:=ws) (el:=el) (lo:=0) (hi:=0) (w':=abK w (.cells ws el)) (cs:=cs) (by simp) (.inl f) rfl rfl rfl rfl (λ_ _=>rfl) o (by omega) d.all (by intro j e xs u p q r g;have:=(d.aG q r).2 e xs p rfl g;grind);grind
def WI{c:aD->Option Nat}{ω':Nat->Option cT}{Z':Nat->Prop}{s':St}{w':World}{k:aD}{b dst:Nat}(h:aZ K c ω' Z' s' a w')(d:c k=J b){r:Result Next}(e:r=.ok (.value (.pointer (J ⟨b,0,O⟩))) w'):cQ K s' a dst r (.one (.aX k 0)):=⟨_,w',c,ω',Z',e,h,jh.Db ⟨rfl,b,d,rfl⟩ (by simp[SV.cells,cP])⟩
def DL.WJ{mk:Nat->aO×Nat}:∀{i:Nat}{us:M aL}{ds:M D},DL w Z us ds->ia K β ω Z s a w mk i us (ds.map .d)|_,[],[],_=>trivial|_,_::_,_::_,h=>⟨lh.Aq (by simp[cP]) h.1,DL.WJ h.2⟩
include hT in
def aii(h:aZ K β ω Z s a w){t:bv}{dst:Nat}{o:cR}(k:o.op=.alloc t){v:SV}{s':St}(c:(cq af o.op dst).aE s=J (v,s')):cQ K s' a dst ((execOp a.eval o).run K.P w) v:=by rw[k]at c;simp only[cq]at c;split at c;rename_i size bytes kind z e;let⟨_,r,h1,b⟩:=aT c;let⟨u,f⟩:=cN h1;subst f;simp only[aw.aE]at b;split at b;rename_i l;let⟨_,x,h2,g⟩:=aT b;simp only[eo,aw.aE,Option.some.injEq,gH]at h2;obtain⟨_,rfl⟩:=h2;obtain⟨rfl,rfl⟩:=bh g;let⟨m,i,j⟩:=xM (w:=w) (hT.T _ _ e) rfl;let⟨n,ω',p,q⟩:=WH h l (ws:=acz m) (el:=t) (cs:=z.map .d) (qc j).WJ;refine WI p q ?_;simp only[execOp,k,Instr.alloc,dB,i,dE,newVar,uU,fF];simp[aw.aE]at b;simp[aw.aE]at c
def aij(h:aZ K β ω Z s a w){t:bv}{x:cD}{dst:Nat}{o:cR}(p:o.op=.box t x){v:SV}{s':St}(g:(cq af o.op dst).aE s=J (v,s')):cQ K s' a dst ((execOp a.eval o).run K.P w) v:=by rw[p]at g;simp only[cq]at g;let⟨v1,q,h1,d⟩:=aT g;let⟨i,hv,j,r⟩:=iM h h1;subst i;clear g;split at d;rename_i cs k;let⟨l,e⟩:=xP hv k;let⟨f,u,h2,b⟩:=aT d;let⟨y,G,z,k1,A⟩:=Ih (mk:=λn=>(.box (.az dst),n)) cs 0 _ ω Z q u f h e (λc B=>j c (by rw[l];exact B)) h2;simp only[aw.aE]at b;split at b;rename_i C;let⟨_,H,h3,m⟩:=aT b;simp only[eo,aw.aE,Option.some.injEq,gH]at h3;obtain⟨_,rfl⟩:=h3;obtain⟨rfl,rfl⟩:=bh m;let⟨D,ω',E,F⟩:=WH z C (ws:=acz (ab3 a x)) (el:=t) (cs:=f) A;refine WI E F ?_;simp only[execOp,p,Instr.box,dB,newVar,uU,dE,fF];simp[aw.aE]at b;simp[aw.aE]at d
def WK(off:Nat):∀(us:M aL)(k:Nat)(cells:bZ aL),off+k+Y us<=cells.size->V ((us.zipIdx k).foldl (λ(cs:bZ aL)(x:aL×Nat)=>abW cs (off+x.2) x.1) cells)=eF (V cells) (off+k) us|[],k,cells,_=>by simp[eF]|u::us,k,cells,h=>by simp only[kL]at h;simp only[List.zipIdx_cons,List.foldl_cons];rw[WK off us (k+1) _ (by simp;omega)];grind [VP]
def WL(off:Nat)(us:bZ aL)(cells:bZ aL)(h:off+us.size<=cells.size):V (us.zipIdx.foldl (λ(cs:bZ aL)(x:aL×Nat)=>abW cs (off+x.2) x.1) cells)=eF (V cells) off (V us):=by rw[<-Array.foldl_toList,Array.toList_zipIdx];simp_all [WK]
def WM{α a:Type}{P:er}(g:α->Sem a)(f:α->a):∀(l:M α),(∀x∈l,(g x).run P w=.ok (f x) w)->(l.mapM g).run P w=.ok (l.map f) w|[],_=>by simp|x::l,h=>by rw[List.mapM_cons];simp[h x (kJ ..),WM g f l λy hy=>h y (jr _ hy)]
def aik{α a:Type}{P:er}(g:α->Sem a)(f:α->a)(l:bZ α)(h:∀x∈l,(g x).run P w=.ok (f x) w):(l.mapM g).run P w=.ok (l.map f) w:=by
 have h1:=WM (w:=w) (P:=P) g f (V l) (λx c=>h x (by simpa using c));rw[<-Array.toList_mapM]at h1;simp only[Sem.run_map]at h1;cases d:(l.mapM g).run P w with
 |ok b w'=>rw[d]at h1;simp only[dE,Result.ok.injEq]at h1;obtain⟨e,rfl⟩:=h1;congr 1;apply Array.toList_inj.1;rw[e];simp
 |halt x w'=>simp_all
def WN(h:aZ K β ω Z s a w){place:Nat->Option (Nat×Nat)}{fs:M (Nat×bv)}(f:∀(i off:Nat)t ti,fs[i]?=J (off,t)->af.ti t=J ti->place i=J (off,ti.size)){size:Nat}:
  ∀(parts:M (Nat×cD)){ps:M (Nat×M C)}{s':St}(cells:bZ aL)(cs:M C),(xw fs af parts).aE s=J (ps,s')->(∀p∈ps,p.1+p.2.length<=size)->cells.size=size->
   aR (λu c=>aS K β Z s a w c u) cells.toList cs->(∀c∈cs,cP c)->
   s'=s/\∃ws,Vm place cells (parts.map λp=>(p.1,ab3 a p.2))=J ws/\aR (λu c=>aS K β Z s a w c u) ws.toList (fill cs ps)/\(∀c∈fill cs ps,cP c):=by
 intro parts
 induction parts with
 |nil=>intro ps s' cells cs n _ _ d g;obtain⟨rfl,rfl⟩:=bh n;exact⟨rfl,cells,rfl,d,g⟩
 |cons p parts H=>
  let⟨i,o⟩:=p;intro ps s' cells cs n j N d g;simp only[xw]at n;let⟨v,s1,h1,b⟩:=aT n;let⟨q,hv,F,P⟩:=iM h h1;rw[q]at b;split at b;rename_i off t k r y;split at b;rename_i ti z;let⟨_,s2,h2,l⟩:=aT b;let⟨G,A⟩:=cN h2;rw[A]at l;let⟨rest,s3,h3,B⟩:=aT l;let⟨R,D⟩:=bh B;subst R;let⟨S,e⟩:=xP hv y;have T:(ab3 a o).cells.size=ti.size:=by have:=e.length;simp at this;omega
  have m:=j (off,k) (kJ ..);simp only at m;have V:=f i off t ti r z;have E:=WL off (ab3 a o).cells cells (by omega)
  let⟨X,ws,q2,Y,q4⟩:=H ((ab3 a o).cells.zipIdx.foldl (λ(cs:bZ aL)(x:aL×Nat)=>abW cs (off+x.2) x.1) cells) (eF cs off k) h3
   (λp hp=>j p (jr _ hp)) (by
     grind [Wa]) (by rw[E];exact d.eF e) (by
     grind [eF])
  refine⟨by rw[D,X],ws,?_,Y,q4⟩;simp_all [Vm];simp[aw.aE]at b;simp[aw.aE]at b
include hT in
def ail(h:aZ K β ω Z s a w){t:bv}{parts:bZ (Nat×cD)}{dst:Nat}{o:cR}(N:o.op=.build t parts){v:SV}{s':St}(j:(cq af o.op dst).aE s=J (v,s')):
  cQ K s' a dst ((execOp a.eval o).run K.P w) v:=by
 rw[N]at j
 simp only[cq]at j
 unfold HW at j
 have E:(parts.map λ(x:Nat×cD)=>(x.1,ab3 a x.2)).toList=parts.toList.map λp=>(p.1,ab3 a p.2):=by simp
 split at j
 ·rename_i size bytes fs z b
  obtain⟨_,s1,h1,c⟩:=aT j
  obtain⟨⟨hz,R⟩,m⟩:=cN h1
  rw[m]at c
  obtain⟨ps,s2,h2,q⟩:=aT c
  obtain⟨_,s3,h3,e⟩:=aT q
  obtain⟨r,y⟩:=cN h3
  rw[y]at e
  obtain⟨S,A⟩:=bh e
  subst S
  obtain⟨V,B,g⟩:=xM (w:=w) (hT.T _ _ b) rfl
  obtain⟨d,hd,hk,C⟩:=fe (w:=w) (hT.T _ _ b)
  obtain⟨fields,rfl,rfl⟩:=De hk
  have D:∀f∈fields,(sizeOf f.type).run K.P w=.ok (K.P.cellsOf f.type) w:=by
   intro f k
   have:=R (acJ f,f.type) (mq.2 ⟨f,by simpa using k,rfl⟩)
   obtain⟨ti,l⟩:=Option.isSome_iff_exists.1 this
   rw[lj (hT.T _ _ l)]
   obtain⟨info,d2,g1,g2,g3,_⟩:=sB (hT.T _ _ l)
   simp[ayl,g1,g3]
  have F:=aik (P:=K.P) (w:=w) (λf:Field=>(do pure (acJ f,<-sizeOf f.type):Sem (Nat×Nat))) (λf=>(acJ f,K.P.cellsOf f.type)) fields (λf k=>by simp[D f k])
  obtain⟨X,ws,Y,q3,q4⟩:=WN h (place:=λi=>(fields.map λf=>(acJ f,K.P.cellsOf f.type))[i]?) (size:=size) (by
   intro i off t' ti k G
   rw[iH]at k
   cases H:fields.toList[i]? with
   |none=>grind
   |some f=>
    rw[H]at k
    simp only[Option.map_some,Option.some.injEq,gH]at k
    obtain⟨rfl,rfl⟩:=k
    have hfi':fields[i]?=J f:=by simpa using H
    obtain⟨info,d2,g1,g2,g3,_⟩:=sB (hT.T _ _ G)
    grind [ayl]) parts.toList V.cells (z.map .d) h2 r (by
    have h1:=(qc (w:=w) (Z:=Z) g).length
    grind) (Ie g) (by simp[cP])
  rw[A,X]
  refine cQ.same h (u:=.agg ws) ?_ ⟨ws,rfl,q3⟩ q4
  simp only[execOp,N,Instr.build,dB,B,dE,C,F,E,Y,fF]
 ·rename_i size bytes n et z b
  split at j
  ·rename_i i hft
   obtain⟨_,s1,h1,c⟩:=aT j
   obtain⟨hz,m⟩:=cN h1
   rw[m]at c
   obtain⟨ps,s2,h2,q⟩:=aT c
   obtain⟨_,s3,h3,e⟩:=aT q
   obtain⟨r,y⟩:=cN h3
   rw[y]at e
   obtain⟨S,A⟩:=bh e
   subst S
   obtain⟨V,B,g⟩:=xM (w:=w) (hT.T _ _ b) rfl
   obtain⟨d,hd,hk,C⟩:=fe (w:=w) (hT.T _ _ b)
   have WV:=Ik hk
   subst WV
   obtain⟨X,ws,Y,q3,q4⟩:=WN h (place:=λi'=>J (i'*i.size,i.size)) (size:=size) (by
    grind) parts.toList V.cells (z.map .d) h2 r (by
     have h1:=(qc (w:=w) (Z:=Z) g).length
     grind) (Ie g) (by simp[cP])
   rw[A,X]
   refine cQ.same h (u:=.agg ws) ?_ ⟨ws,rfl,q3⟩ q4
   simp only[execOp,N,Instr.build,dB,B,dE,C,lj (hT.T _ _ hft),E,Y,fF]
  ·simp[aw.aE]at j
 ·simp[aw.aE]at j
end
def WO{e:Nat}{ds:M D}:∀{rows:M (M D)}{i:Nat},(∀r∈rows,r.length=e)->ds.length=e->i<rows.length->(rows.set i ds).flatten=eF rows.flatten (i*e) ds|[],i,_,_,h=>by simp at h|r::rows,0,a,hd,_=>by simp_all [eF]|r::rows,i+1,a,hd,h=>by have c:=a r (kJ ..);have d:=WO (rows:=rows) (i:=i) (λx b=>a x (jr _ b)) hd (by simpa using h);simp_all [eF,Nat.add_mul,List.take_append,List.take_of_length_le,List.drop_append]
section
variable{K:de}{β:aD->Option Nat}{ω:Nat->Option cT}{Z:Nat->Prop}{s:St}{a:Act}{w:World}{af:bO}(hT:ib K.P af)
def aim{size:Nat}:∀(parts:M (Nat×cD))(ω:Nat->Option cT)(Z:Nat->Prop)(s s':St)(cells:bZ aL)(rows rows':M (M D)),aZ K β ω Z s a w->(rowsOf size parts rows).aE s=J (rows',s')->(∀r∈rows,r.length=size)->DL w Z cells.toList (acA rows)->∃ω' Z' ws,aZ K β ω' Z' s' a w/\Vm (λi=>J (i*size,size)) cells (parts.map λp=>(p.1,ab3 a p.2))=J ws/\DL w Z' ws.toList (acA rows')/\(∀r∈rows',r.length=size)/\rows'.length=rows.length:=by
 intro parts;induction parts with
 |nil=>intro ω Z s s' cells rows rows' h g j hd;let⟨P,R⟩:=bh g;subst P;subst R;exact⟨ω,Z,cells,h,rfl,hd,j,rfl⟩
 |cons p parts S=>
  let⟨i,o⟩:=p;intro ω Z s s' cells rows rows' h g j hd;simp only[rowsOf]at g;let⟨v,s1,h1,d⟩:=aT g;let⟨k,hv,l,T⟩:=iM h h1;rw[k]at d;split at d;rename_i cs m;let⟨_,s2,h2,f⟩:=aT d;let⟨⟨E,F⟩,n⟩:=cN h2;rw[n]at f;let⟨ds,G,h3,q⟩:=aT f;let⟨t,e⟩:=xP hv m;let⟨u,V,X,k1,H⟩:=Ii cs _ ω Z s G ds h e (λc Y=>l c (by rw[t];exact Y)) h3;have y:(ab3 a o).cells.size=size:=by have:=e.length;simp at this;omega
  have A:ds.length=size:=by rw[<-H.length];simpa using y
  have B:cells.size=rows.length*size:=by have:=hd.length;grind [IB]
  have N:i*size+size<=cells.size:=by rw[B,<-Nat.succ_mul];exact Nat.mul_le_mul_right _ F
  have C:=WL (i*size) (ab3 a o).cells cells (by omega)
  let⟨XN,Z2,ws,q1,q2,q3,q4,q5⟩:=S u V G s' ((ab3 a o).cells.zipIdx.foldl (λ(cs:bZ aL)(x:aL×Nat)=>abW cs (i*size+x.2) x.1) cells) (rows.set i ds) rows' X q
   (by
     grind) (by
     rw[C,WO j A F]
     exact aR.eF (hd.mono λb hb=>⟨rfl,k1.z b hb⟩) H)
  grind [Vm];simp[aw.aE]at d
include hT in
def ain(h:aZ K β ω Z s a w){t:bv}{len:Nat}{parts:bZ (Nat×cD)}{dst:Nat}{o:cR}(C:o.op=.buildSlice t len parts){v:SV}{s':St}(b:(cq af o.op dst).aE s=J (v,s')):cQ K s' a dst ((execOp a.eval o).run K.P w) v:=by
 rw[C]at b;simp only[cq]at b;unfold HX at b;have G:(parts.map λ(x:Nat×cD)=>(x.1,ab3 a x.2)).toList=parts.toList.map λp=>(p.1,ab3 a p.2):=by simp
 split at b;rename_i size bytes H zz k;split at b;rename_i i e;split at b;rename_i z N;let⟨_,s1,h1,f⟩:=aT b;let⟨⟨R,D,E,l⟩,m⟩:=cN h1;rw[m]at f;let⟨rows,s2,h2,n⟩:=aT f;let⟨S,q⟩:=bh n;subst S;subst q;let⟨c,V,r⟩:=xM (w:=w) (hT.T _ _ e) N;let⟨d,hd,hk,y⟩:=fe (w:=w) (hT.T _ _ k);have A:=n6 hk;subst A;have B:=qc (w:=w) (Z:=Z) r;have X:c.cells.size=i.size:=by have:=B.length;simp at this;omega
 have g:((ND (len*i.size)).map ((if len*i.size=0 then #[]else acz c)[·%(if len*i.size=0 then #[]else acz c).size]!)).toList=acA (ej len c.cells.toList):=by grind [OO]
 let⟨Y,Z2,ws,q1,q2,F,q4,q5⟩:=aim parts.toList ω Z s s' ((ND (len*i.size)).map ((if len*i.size=0 then #[]else acz c)[·%(if len*i.size=0 then #[]else acz c).size]!)) (ej len z) rows h h2 (by grind) (by simp_all [IC]);have Wd:ws.size=len*i.size:=by have:=F.length;grind [IB]
 refine Dp (hm:=l) q1 (len:=len) (cap:=len) (ws:=ws) (el:=H) ?_ (by rw[q5];simp) (Nat.le_refl _) (by omega) q4 (λj d hj=>by let⟨u,g1,g2⟩:=F.aG hj;grind);simp only[execOp,C,Instr.buildSlice,dB,y,dE,lj (hT.T _ _ e)];rw[aU (by omega)];by_cases h0:len*i.size=0;simp_all [uU];simp_all [uU];simp[aw.aE]at b;simp[aw.aE]at b;simp[aw.aE]at b
def wrap_small{n:L}(a:0<=n)(h1:n<=2 ^ 36):aaX a7 n=n:=by simp only[IntKind.wrap,IntKind.bits,Ht];simp;omega
def run_askRoom{P:er}(n:Nat):(askRoom n).run P w=.ok () w:=by simp_all
include hT in
def aio(h:aZ K β ω Z s a w){t:bv}{l c:cD}{dst:Nat}{o:cR}(ho:o.op=.makeSlice t l c){v:SV}{s':St}(G:(cq af o.op dst).aE s=J (v,s')):cQ K s' a dst ((execOp a.eval o).run K.P w) v:=by
 rw[ho]at G;simp only[cq]at G;let⟨c1,s1,h1,p⟩:=aT G;let⟨H,o1,r1,Iz⟩:=gs h h1;rw[H]at p;let⟨n,s2,h2,q⟩:=aT p;let⟨N,k,R⟩:=uR h2;rw[N]at q;let⟨c2,s3,h3,r⟩:=aT q;let⟨S,o3,r3,ayP⟩:=gs h h3;rw[S]at r;let⟨m,s4,h4,b⟩:=aT r;let⟨V,k',X⟩:=uR h4;rw[V]at b;subst R;subst X;have e1:ab3 a l=.int k n:=r1;have e2:ab3 a c=.int k' m:=r3;unfold HY at b;split at b;rename_i size bytes et zz Y;split at b;rename_i i e;split at b;rename_i z hz;let⟨_,s5,h5,y⟩:=aT b;let⟨⟨hzl,hpos,hby,hmp⟩,hs5⟩:=cN h5;rw[hs5]at y;let⟨_,s6,h6,A⟩:=aT y;let⟨⟨B,C,hm⟩,OM⟩:=cN h6;rw[OM]at A;let⟨hx,OR⟩:=bh A;subst hx;rw[OR];let⟨g,WE,hrf⟩:=xM (w:=w) (hT.T _ _ e) hz;let⟨info,f,ayQ,D,_⟩:=xL (w:=w) (hT.T _ _ e);let⟨d,hd,hk,hun⟩:=fe (w:=w) (hT.T _ _ Y);have WV:=n6 hk;subst WV;have E:=qc (w:=w) (Z:=Z) hrf;have hzs:g.cells.size=i.size:=by have:=E.length;simp at this;omega
 have F:((ND (m.toNat*i.size)).map ((if m.toNat*i.size=0 then #[]else acz g)[·%(if m.toNat*i.size=0 then #[]else acz g).size]!)).toList=acA (ej m.toNat g.cells.toList):=by grind [OO]
 have hw1:=wrap_small B (Int.le_trans C hm);have hw2:=wrap_small (Int.le_trans B C) hm;have hbig:∀x:L,0<=x->x<=2 ^ 36->¬(x<0\/(i.bytes:L)*x>2 ^ 48):=by intro x hx0 hx1;have h1:(i.bytes:L)*x<=2 ^ 10*2 ^ 36:=Int.mul_le_mul (by exact_mod_cast hby) hx1 hx0 (by decide);grind
 refine Dp (hm:=hmp) h (len:=n.toNat) (cap:=m.toNat) (ws:=(ND (m.toNat*i.size)).map ((if m.toNat*i.size=0 then #[]else acz g)[·%(if m.toNat*i.size=0 then #[]else acz g).size]!)) (el:=et) ?_ (by simp) (by omega) (by simp) (by grind) (λj d hj=>by
  have hj':(acA (ej m.toNat z))[j]?=J d:=by rw[show m.toNat=n.toNat+(m.toNat-n.toNat) by omega,<-List.replicate_append_replicate,List.flatten_append,pO (ik.1 hj).1];exact hj
  let⟨u,g1,g2⟩:=(IC E m.toNat).aG hj'
  grind)
 simp only[execOp,ho,Instr.makeSlice,dB,hun,dE,e1,e2,Go.asInt,asIntOf,fF,f,hw1,hw2,D];rw[aU (by grind)];simp only[dB,run_askRoom,dE,lj (hT.T _ _ e)];grind [dB,fF,dE,uU];simp[aw.aE]at b;simp[aw.aE]at b;simp[aw.aE]at b
theorem WP:∀(rounds bU c:Nat),c<=2*bU+192->aym bU rounds c<=2*bU+192|0,bU,c,h=>h|r+1,bU,c,h=>by simp only[aym];split;exact h;rename_i a;exact WP r bU _ (by omega)
def WQ{bU old:Nat}(h:old<bU):zS bU old<=2*bU+192:=by grind [zS,WP]
def OP(K:de)(Z:Nat->Prop)(w:World)(size:Nat)(u:aL)(ys:M (M D)):Prop:=(Hw u).run K.P w=.ok (Y ys) w/\(∀y∈ys,Y y=size)/\∃arr:bZ aL,(∀a:World,a.heap=w.heap->(qP size (Y ys) u).run K.P a=.ok arr a)/\DL w Z (V arr) (acA ys)/\(∀x∈V arr,gU x=W)
def DL.gU{us:M aL}{ds:M D}(h:DL w Z us ds):∀x∈us,gU x=W:=by
 intro x b;let⟨j,c⟩:=nL b;have a:j<Y ds:=by rw[<-h.length];grind
 let⟨u,h1,h2⟩:=h.aG (eD a);grind [xO]
def WR{size:Nat}{u:aL}{ys:M (M D)}(h:(u=.slice O 0 0/\ys=[])\/∃c cap,u=.slice (J c) (Y ys) cap/\(cap=0\/c.spot=O)/\Y ys<=cap/\dt w Z size ys c.block c.off):OP K Z w size u ys:=by
 rcases h with⟨rfl,rfl⟩|⟨c,cap,rfl,h2,h3,f⟩
 exact⟨by simp[Hw],by simp, #[],λa _=>by simp[qP],trivial,by simp⟩;let⟨us,g,j,k⟩:=f.us;refine⟨by simp[Hw],f.len,ve us,λa l=>?_,by simpa using g,by simpa using g.gU⟩;simp only[qP];have m:Y us=Y ys*size:=j;rw[<-m];by_cases i:Y us=0;rw[i];have:us=[]:=List.length_eq_zero_iff.1 i;subst this;simp[loadCells,loadCellsFrom];have d:cap≠0:=by grind
 have h2:=acH h2 d;rw[show(c:eu)=⟨abX c,c.off,O⟩ by rw[<-h2]];have b:=k (Y us-1) (by omega);rw[eD (by omega)]at b;let⟨ws,el,fz,n,o⟩:=cells_of_cell? b;have e:c.off+Y us<=ws.size:=by grind
 rw[N3 (w:=a) (by rw[l];exact n) e];congr 1;grind [World.cell?]
def aip(l:M ao):OP K Z w 1 (.string ⟨l.toArray⟩) (l.map λb=>[.int .u8 b.toNat]):=by
 refine⟨by simp[Hw,Dj],by simp,(l.map λb:ao=>nN .u8 (b.toNat:Nat)).toArray,λa d=>?_,?_,?_⟩;simp only[qP,Wh,List.length_map,List.take_length,List.drop_zero,fF];simp;show aR _ _ _;simp only;induction l with|nil=>trivial|cons b l c=>exact⟨rfl,by simpa using c⟩
 simp[gU]
include hT in
def aiq(h:aZ K β ω Z s a w){i:TI}{t:bv}{c:C}{u:aL}{ys:M (M D)}{s':St}(e:aS K β Z s a w c u)(f:(xy af i t c).aE s=J (ys,s')):s'=s/\OP K Z w i.size u ys/\∃d,(underlying t).run K.P w=.ok d w/\∀k,d≠.int k:=by unfold xy at f;split at f;rename_i l b;let⟨_,v,h1,m⟩:=aT f;let⟨o,p⟩:=cN h1;let⟨q,r⟩:=bh m;subst q;let⟨d,hd,hk,n⟩:=fe (w:=w) (hT.T _ _ b);have j:=sC hk;subst j;have x:u=.string ⟨ve l⟩:=e;simp_all [aip];rename_i b;let⟨y,g⟩:=V5 h e f;let⟨d,hd,hk,n⟩:=fe (w:=w) (hT.T _ _ b);have j:=n6 hk;simp_all [WR];simp[aw.aE]at f
end
section
variable{K:de}{β:aD->Option Nat}{ω:Nat->Option cT}{Z:Nat->Prop}{s:St}{a:Act}{w:World}{af:bO}(hT:ib K.P af)
theorem WS(z:bZ aL)(n:Nat):(zU z n).size=n*z.size:=by simp[zU]
def WT{P:er}{t t2 d:bv}{i:TI}{z:M D}(m:(underlying t).run P w=.ok (.slice d) w){d2:oU}(g:(underlying t2).run P w=.ok d2 w)(E:∀k,d2≠.int k) (hi:kN P d=J i)(F:i.zero=J z)(G:0<i.bytes)(H:i.bytes<=2 ^ 10){base:Option eu}{sLen sCap n:Nat}{x:aL}(h:(Hw x).run P w=.ok n w)(o:sCap<sLen+n)(l:sLen+n<=2 ^ 36) {old new:bZ aL}(hold:∀a:World,a.heap=w.heap->(qP i.size sLen (.slice base sLen sCap)).run P a=.ok old a)(j:∀a:World,a.heap=w.heap->(qP i.size n x).run P a=.ok new a){ty:bv}:
  ∃(cap:Nat)(rest:bZ aL),sLen+n<=cap/\(∀B:Nat,B=Y z->rest.size=(cap-(sLen+n))*B)/\
   (uh #[t,t2] ty #[.slice base sLen sCap,x]).run P w=.ok (.slice (J ⟨w.heap.size,0,O⟩) (sLen+n) cap) (abK ({w with drawn:=acK w+1}:World) (.cells (old++new++rest) d)):=by
 let⟨info,b,C,f,_⟩:=xL (w:=w) hi
 let⟨p,e,q,r,_⟩:=xL (w:={w with drawn:=acK w+1}) hi
 let⟨K,s,u⟩:=xM (w:={w with drawn:=acK w+1}) hi F
 have N:=(qc (w:=w) (Z:=λ_=>dL) u).length
 have v:=WQ o
 have y:¬(zS (sLen+n) sCap*i.bytes>2 ^ 48):=by have h1:zS (sLen+n) sCap*i.bytes<=(2*2 ^ 36+192)*2 ^ 10:=Nat.mul_le_mul (by omega) H;grind
 refine⟨(zV (sLen+n) sCap d).cut (acL w w.drawn (.appendCap (sLen+n) sCap d)),zU K.cells ((zV (sLen+n) sCap d).cut (acL w w.drawn (.appendCap (sLen+n) sCap d))-(sLen+n)),?_,?_,?_⟩
 simp only[agI];omega
 grind [WS]
 have A:(match d2 with|.int _=>W|_=>I)=I:=by cases d2<;>first|rfl|grind
 have c:(choose (.appendCap (sLen+n) sCap d)).run P w=.ok ((zV (sLen+n) sCap d).cut (acL w w.drawn (.appendCap (sLen+n) sCap d))) {w with drawn:=acK w+1}:=by simp[choose,Sem.run,agJ]
 simp only[uh,qO,Hy,ij,qN,dB,m,dE,lj hi,g,fF,A,bM,ca,h,qQ,bH]
 rw[aU (by omega)]
 simp only[dB,b,dE,f]
 rw[aU (by simp;omega)]
 simp only[dB,b,dE,f]
 rw[aU y]
 simp only[dB,c,dE,e,run_askRoom,hold {w with drawn:=acK w+1} rfl,j {w with drawn:=acK w+1} rfl,s,uU,fF]
def WU{P:er}{t t2 j:bv}{i:TI}(e:(underlying t).run P w=.ok (.slice j) w){d2:oU}(b:(underlying t2).run P w=.ok d2 w)(l:∀k,d2≠.int k) (hi:kN P j=J i){base:Option eu}{sLen sCap n:Nat}{x:aL}(c:(Hw x).run P w=.ok n w)(f:sLen+n<=sCap) {new:bZ aL}(d:(qP i.size n x).run P w=.ok new w){w':World}(m:∀g,base=J g->(storeCells (g.add (sLen*i.size)) (V new)).run P w=.ok () w')(a:base=O->w'=w){ty:bv}:(uh #[t,t2] ty #[.slice base sLen sCap,x]).run P w=.ok (.slice base (sLen+n) sCap) w':=by
 have h:(match d2 with|.int _=>W|_=>I)=I:=by cases d2<;>first|rfl|grind
 simp only[uh,Hy,ij,qN,dB,e,dE,lj hi,b,fF,h,bM,ca,c,qQ,bH];rw[aF f];simp only[dB,d,dE];cases base with|none=>rw[a rfl];rfl|some g=>simp_all
def air{P:er}{t t2 e:bv}{i:TI}{z:M D}(g:(underlying t).run P w=.ok (.slice e) w)(f:(underlying t2).run P w=.ok (.int .i64) w) (hi:kN P e=J i)(A:i.zero=J z)(B:Y z=i.size)(C:0<i.size)(E:0<i.bytes)(H:i.bytes<=2 ^ 10){k:mW}{n:L}(K:0<=n)(h:n<=2 ^ 36){ty:bv}:(n.toNat=0->(uh #[t,t2] ty #[.slice O 0 0,.int k n]).run P w=.ok (.slice O 0 0) w)/\
  (n.toNat≠0->∃(cap:Nat)(zv:bZ aL),n.toNat<=cap/\(∀(w:World)(Z:Nat->Prop),DL w Z (V zv) z)/\
    (uh #[t,t2] ty #[.slice O 0 0,.int k n]).run P w=.ok (.slice (J ⟨w.heap.size,0,O⟩) n.toNat cap) (abK ({w with drawn:=acK w+1}:World) (.cells (zU zv n.toNat++zU zv (cap-n.toNat)) e))):=by
 let⟨info,a,x,b,_⟩:=xL (w:=w) hi
 let⟨l,d,m,o,_⟩:=xL (w:={w with drawn:=acK w+1}) hi
 let⟨zv,F,p⟩:=xM (w:={w with drawn:=acK w+1}) hi A
 have q:∀(w:World)(Z:Nat->Prop),DL w Z (V zv.cells) z:=λw Z=>qc (w:=w) (Z:=Z) p
 have y:aaX a7 n=n:=by simp only[IntKind.wrap,IntKind.bits,Ht];simp;omega
 have j:n*i.bytes<=2 ^ 48:=by have h1:n*i.bytes<=2 ^ 36*2 ^ 10:=Int.mul_le_mul (by omega) (by omega) (by omega) (by decide);omega
 constructor
 intro G
 simp only[uh,Hy,ij,qN,dB,g,dE,lj hi,f,fF,bH,asInt,asIntOf,y,a,b]
 grind [dB,dE,fF]
 intro G
 have r:0<0+n.toNat:=by omega
 have s:=WQ r
 have u:¬(zS (0+n.toNat) 0*i.bytes>2 ^ 48):=by grind [zS]
 have c:(choose (.appendCap (0+n.toNat) 0 e)).run P w=.ok ((zV (0+n.toNat) 0 e).cut (acL w w.drawn (.appendCap (0+n.toNat) 0 e))) {w with drawn:=acK w+1}:=by simp[choose,Sem.run,agJ]
 refine⟨(zV (0+n.toNat) 0 e).cut (acL w w.drawn (.appendCap (0+n.toNat) 0 e)),acz zv,?_,q,?_⟩
 simp only[agI];omega
 simp only[uh,Hy,ij,qN,dB,g,dE,lj hi,f,fF,bH,asInt,asIntOf,y,a,b]
 rw[aU (by omega)]
 simp only[dB,a,dE,b]
 rw[aU (by omega)]
 simp only[dB,fF,dE]
 rw[aU (by omega)]
 simp only[dB,a,dE,b]
 rw[aU (by simp[IntKind.max,IntKind.bits,Ht];omega)]
 simp only[dB,a,dE,b]
 rw[aU u]
 have v:(qP i.size 0 (.slice O 0 0)).run P {w with drawn:=acK w+1}=.ok #[] {w with drawn:=acK w+1}:=by simp[qP]
 simp only[dB,c,dE,d,run_askRoom,v]
 grind [Nat.mul_eq_zero,dB,dE,fF,uU]
include hT in
def ais(h:aZ K β ω Z s a w){args:bZ cD}{f:bZ bv}{dst:Nat}{o:cR}(m:o.op=.call {callee:=.builtin .cap,args,argTypes:=f}){v:SV}{s':St}(c:(cq af o.op dst).aE s=J (v,s')):cQ K s' a dst ((execOp a.eval o).run K.P w) v:=by
 rw[m]at c;simp only[cq]at c;split at c;rename_i x t r y;have e:args=#[x]:=by grind
 have g:f=#[t]:=by grind
 subst e;subst g;split at c;rename_i i;let⟨c1,z,h1,b⟩:=aT c;let⟨j,A,p,n⟩:=gs h h1;rw[j]at b;unfold NQ at b;split at b;have q:ab3 a x=.slice O 0 0:=p;obtain⟨rfl,rfl⟩:=bh b;let⟨d,hd,hk,k⟩:=fe (w:=w) (hT.T _ _ i);have l:=n6 hk;subst l;refine cQ.d h (u:=.int .i64 0) ?_ rfl;simp[execOp,m,resolve,invoke,builtin,Builtin.cap_,q,k,goInt];simp[aw.aE]at b;simp[aw.aE]at c;simp[aw.aE]at c
include hT in
theorem ait(h:aZ K β ω Z s a w){x y:cD}{t t2 F:bv}{i i0 i2:TI}{dst:Nat}{o:cR}(ho:o.op=.call {callee:=.builtin .append,args:=#[x,y],argTypes:=#[t,t2]}) (G:af.ti t=J i0)(H:i0.kind=.slice F)(N:af.ti F=J i)(m:af.ti t2=J i2)(R:i2.kind=.int .i64){v:SV}{s':St} (he:(do let c <-dZ x;let n <-oY (<-dZ y);Ag i c n:aw SV).aE s=J (v,s')):cQ K s' a dst ((execOp a.eval o).run K.P w) v:=by
 let⟨c1,s1,h1,p⟩:=aT he;let⟨S,o1,r1,Iz⟩:=gs h h1;rw[S]at p;let⟨c2,s2,h2,q⟩:=aT p;let⟨V,o2,r2,Oy⟩:=gs h h2;rw[V]at q;let⟨n,s3,h3,b⟩:=aT q;let⟨X,k,Y⟩:=uR h3;rw[X]at b;subst Y;have e2:ab3 a y=.int k n:=r2;unfold Ag at b;split at b;rename_i z hz;have e1:ab3 a x=.slice O 0 0:=r1;let⟨_,s5,h5,r⟩:=aT b;let⟨⟨hzs,A,hb0,hb,hmp⟩,hs5⟩:=cN h5;rw[hs5]at r;let⟨_,s6,h6,e⟩:=aT r;let⟨⟨hn0,xV⟩,OM⟩:=cN h6;rw[OM]at e;let⟨d,hd,hk,hun⟩:=fe (w:=w) (hT.T _ _ G);rw[H]at hk;have OQ:=n6 hk;subst OQ;let⟨d2,WV,B,C⟩:=fe (w:=w) (hT.T _ _ m);rw[R]at B;have D:=xN B;subst D;have ayR:(execOp a.eval o).run K.P w=((uh #[t,t2] o.type #[ab3 a x,ab3 a y]).run K.P w).andThen λu w'=>.ok (.value u) w':=by simp[execOp,ho,resolve,invoke,builtin]
 let⟨q0,q1⟩:=air (P:=K.P) (w:=w) hun C (hT.T _ _ N) hz hzs A hb0 hb (k:=k) hn0 xV (ty:=o.type);split at e;rename_i hn;let⟨f,g⟩:=bh e;rw[g,f];refine cQ.d h (u:=.slice O 0 0) ?_ rfl;simp_all;rename_i hn;let⟨f,g⟩:=bh e;rw[g,f];let⟨cap,l,p1,p2,p3⟩:=q1 hn;let⟨r5,k5⟩:=h.drew;have hsz:l.size=i.size:=by have:=(p2 w Z).length;simp at this;omega
 refine Dp (hm:=hmp) r5 (len:=n.toNat) (cap:=cap) (ws:=zU l n.toNat++zU l (cap-n.toNat)) (el:=F) ?_ (by simp) p1 ?_ (by grind) (λj d hj=>?_);simp_all;simp only[agK,WS,hsz];rw[<-Nat.add_mul];grind;have E:(zU l n.toNat).toList=acA (ej n.toNat l.toList):=OO l n.toNat;let⟨u,g1,g2⟩:=(IC (p2 {w with drawn:=acK w+1} Z) n.toNat).aG hj;grind;simp[aw.aE]at b
include hT in
def aiu(h:aZ K β ω Z s a w){args:bZ cD}{tys:bZ bv}{dst:Nat}{o:cR}(ho:o.op=.call {callee:=.builtin .append,args,argTypes:=tys}){v:SV}{s':St}(Y:(cq af o.op dst).aE s=J (v,s')):
  cQ K s' a dst ((execOp a.eval o).run K.P w) v:=by
 rw[ho]at Y
 simp only[cq]at Y
 split at Y
 ·rename_i x y t t2 hx ht
  have hargs:args=#[x,y]:=by grind
  have aiv:tys=#[t,t2]:=by grind
  subst hargs;subst aiv
  split at Y
  ·rename_i size bytes et zz hti
   split at Y
   ·rename_i i hft
    split at Y
    ·grind [ait]
    rename_i ayS
    obtain⟨c1,s1,h1,qd⟩:=aT Y
    obtain⟨hs1,o1,r1,Iz⟩:=gs h h1
    rw[hs1]at qd
    obtain⟨c2,s2,h2,Dq⟩:=aT qd
    obtain⟨hs2,o2,r2,Oy⟩:=gs h h2
    rw[hs2]at Dq
    obtain⟨ys,s3,h3,Av⟩:=aT Dq
    obtain⟨hs3,⟨B,WW,arr,C,hdl,hone⟩,d2,D,WV⟩:=aiq hT h r2 h3
    rw[hs3]at Av
    obtain⟨d,hd,hk,hun⟩:=fe (w:=w) (hT.T _ _ hti)
    have OQ:=n6 hk
    subst OQ
    have p:(execOp a.eval o).run K.P w=((uh #[t,t2] o.type #[ab3 a x,ab3 a y]).run K.P w).andThen λu w'=>.ok (.value u) w':=by
     simp[execOp,ho,resolve,invoke,builtin]
    unfold xx at Av
    obtain⟨_,s4,h4,F⟩:=aT Av
    obtain⟨⟨hpos,hb0,hb,hzl,hmp⟩,hs4⟩:=cN h4
    rw[hs4]at F
    obtain⟨z,hz⟩:∃z,i.zero=J z:=by
     cases hzz:i.zero with
     |none=>grind
     |some z=>exact⟨z,rfl⟩
    have hzs:z.length=i.size:=by grind
    have A:arr.size=ys.length*i.size:=by
     have:=hdl.length
     grind [IB]
    split at F
    ·
     have e1:ab3 a x=.slice O 0 0:=r1
     obtain⟨_,s5,h5,n⟩:=aT F
     obtain⟨hmax,hs5⟩:=cN h5
     rw[hs5]at n
     split at n
     ·rename_i E
      obtain⟨G,H⟩:=bh n
      rw[H,G]
      refine cQ.d h (u:=.slice O 0 0) ?_ rfl
      rw[p,e1,WU hun D WV (hT.T _ _ hft) B (by rw[E];simp) (C w rfl) (w':=w) (by intro g h;cases h) (λ_=>rfl)]
      simp[E]
     ·rename_i E
      obtain⟨G,H⟩:=bh n
      rw[H,G]
      have hy0:0<ys.length:=List.length_pos_iff.2 E
      obtain⟨cap,rest,q1,q2,q3⟩:=WT (P:=K.P) (w:=w) hun D WV (hT.T _ _ hft) hz hb0 hb B (base:=O) (sLen:=0) (sCap:=0) (by omega) (by omega) (old:=#[]) (λf _=>by simp[qP]) C (ty:=o.type)
      obtain⟨r5,k5⟩:=h.drew
      refine Dp (hm:=hmp) r5 (len:=ys.length) (cap:=cap) (ws:=#[]++arr++rest) (el:=et) ?_ rfl (by omega) ?_ WW (λj d hj=>?_)
      ·simp_all
      ·have:=q2 i.size hzs.symm
       simp only[agK,A,this,Array.size_empty]
       rw[Nat.zero_add,Nat.zero_add,<-Nat.add_mul]
       grind
      ·obtain⟨u,g1,g2⟩:=hdl.aG hj
       grind [bA.mono]
    ·rename_i r j hv cv e k xs
     simp only[aw.aE]at F
     obtain⟨_,s5,h5,n⟩:=aT F
     obtain⟨⟨uP,sF,N,qe⟩,hs5⟩:=cN h5
     rw[hs5]at n
     split at n
     ·rename_i e0 zs hat
      obtain⟨_,s6,h6,IA⟩:=aT n
      obtain⟨hfull,H⟩:=cN h6
      rw[H]at IA
      obtain⟨_,s7,h7,IE⟩:=aT IA
      obtain⟨hmax,OR⟩:=cN h7
      rw[OR]at IE
      obtain⟨_,s8,h8,OS⟩:=aT IE
      obtain⟨G,OT⟩:=bh OS
      rw[OT,G]
      have R:cf e=I:=by rw[N];exact hmp
      obtain⟨g,cap,e1,g2,g3,g4⟩:=Od h R r1 uP sF (xK hat)
      obtain⟨WX,cap',f1,_,_,_,ad0,ayU,ayV,ys0,f2,f3,f4,f4b,f5,f6,f7⟩:=Oc h R r1 uP sF (xK hat)
      rw[e1]at f1
      cases f1
      obtain⟨e9,ys9,u9,b9,ω',t1,t2',t3,t4,t6,t7,t8,t9,t10⟩:=VZ h qe h8 (.tmp dst,J 0)
      rw[t2']at f2
      cases f2
      simp only[eG,Option.some.injEq]at t3
      subst t3
      rw[hat]at t1
      cases t1
      have hee:e0=e:=by
       rcases f6 with f6|f6<;>rw[hat]at f6<;>cases f6;rfl
      subst hee
      have hmp0:cf e0=I:=R
      have WY:DL w Z arr.toList (acA ys):=hdl
      by_cases S:xs.length+ys.length<=cap
      ·
       have l:abX g=abX ad0:=f3
       obtain⟨ws,el,lo,hi,w1,w2,w3⟩:=t9
       have hfit:g.off+cap*e0<=ws.size:=by omega
       have ayX:xs.length*e0+ys.length*e0<=cap*e0:=by rw[<-Nat.add_mul];exact Nat.mul_le_mul_right _ S
       obtain⟨w',iq,p1,p2,p3⟩:=N4 (P:=K.P) (b:=abX g) (o:=g.off+xs.length*e0) arr.toList 0 w ws (by rw[l];exact w1) w3 (by grind) hone
       have aiz:iq.toList=eF ws.toList (g.off+xs.length*e0) arr.toList:=by simpa using p3
       rw[l]at p2
       obtain⟨n1,n2,n3,n4⟩:=t6.ag6 t8 t10 p2
       have hZ:∀b,Z b->w'.heap[b]?=w.heap[b]? /\Z b:=λb hb=>⟨p2.other b (λe=>(t6.dV _ _ t8).1 (e▸hb)),hb⟩
       have hcell:∀q,T w' ⟨abX g,q,O⟩=if g.off+xs.length*e0<=q/\q<g.off+xs.length*e0+ys.length*e0 then(arr.toList)[q-(g.off+xs.length*e0)]? else T w ⟨abX g,q,O⟩:=by
        intro q
        have h1:T w' ⟨abX g,q,O⟩=iq.toList[q]? :=by simp[World.cell?,l,p2.here]
        grind [At,World.cell?]
       have hrows:dt w' Z e0 (xs++ys) g.block g.off:=by
        refine dt.append ?_ ?_
        ·refine dt.dU λm x hm=>?_
         obtain⟨q1,q2⟩:=g4.aG hm
         refine⟨q1,fC.dU λjj d hd=>?_⟩
         obtain⟨u2,q3,q4⟩:=q2.aG hd
         have hjl:jj<e0:=by grind
         have hml:m<xs.length:=(ik.1 hm).1
         have:m*e0+e0<=xs.length*e0:=by rw[<-Nat.succ_mul];exact Nat.mul_le_mul_right _ hml
         grind [bA.mono]
        ·refine Do (w:=w') (ws:=iq) (el:=el) (fz:=(lo,hi)) (by rw[l];exact p2.here) ys _ (by rw[N];exact WW) λj d hj=>?_
         obtain⟨u2,q1,q2⟩:=WY.aG hj
         have hjl:j<ys.length*e0:=by
          grind
         refine⟨u2,?_,bA.mono hZ _ _ q2⟩
         have:iq[g.off+xs.length*e0+j]?=iq.toList[g.off+xs.length*e0+j]? :=by simp
         rw[this,aiz,At (by grind)]
         simp only[Array.length_toList,A,<-N]
         rw[aF (by omega),Nat.add_sub_cancel_left]
         exact q1
       have V:(xs++ys).length=xs.length+ys.length:=by simp
       have hown:aS K β Z s8 a w' (.ak e0 (xs++ys)) (.slice (J g) (xs.length+ys.length) cap):=(aS.jg hmp0).2 ⟨g,cap,by rw[V],g2,by rw[V];exact S,hrows⟩
       refine⟨.slice (J g) (xs.length+ys.length) cap,w',β,ω',Z,?_,n1,⟨rfl,hown⟩,?_⟩
       ·rw[p,e1,WU hun D WV (hT.T _ _ hft) B S (C w rfl) (w':=w') (by
          grind [rp]) (by intro h;cases h)]
        rfl
       ·intro j' c q hc hq
        have hj:j'=0:=by
         grind [SV.cells]
        subst hj
        simp only[SV.cells,ij,Option.some.injEq]at hc
        simp only[ey,ij,Option.some.injEq]at hq
        subst hc;subst hq
        refine⟨hown,λe' xs' b2 q1 q2=>?_⟩
        cases q1
        cases q2
        exact⟨by rw[l];exact t8,⟨iq,el,lo,hi,by rw[l];exact p2.here,by rw[p2.len];exact hfit,λq hq=>w3 q (by rw[<-p2.len];exact hq)⟩,by rw[l];exact n2⟩
      ·
       obtain⟨aiA,rest,q1,q2,q3⟩:=WT (P:=K.P) (w:=w) hun D WV (hT.T _ _ hft) hz hb0 hb B (base:=J g) (sLen:=xs.length) (sCap:=cap) (by omega) hmax (old:=ve (g4.us.choose)) (λf hW=>by
        obtain⟨_,a2,a3⟩:=g4.us.choose_spec
        generalize g4.us.choose=us at a2 a3
        simp only[qP]
        rw[show(g:eu)=⟨abX g,g.off,O⟩ by rw[<-g2],<-N,<-a2]
        by_cases h0:us.length=0
        ·rw[h0]
         have:us=[]:=List.length_eq_zero_iff.1 h0
         subst this
         simp[loadCells,loadCellsFrom]
        ·have X:=a3 (us.length-1) (by omega)
         rw[eD (by omega)]at X
         obtain⟨ws,el,fz,hw,Aw⟩:=cells_of_cell? X
         have hlt:g.off+us.length<=ws.size:=by
          grind
         rw[N3 (w:=f) (by rw[hW];exact hw) hlt]
         congr 1
         grind [World.cell?]) C (ty:=o.type)
       obtain⟨a1,a2,_⟩:=g4.us.choose_spec
       generalize g4.us.choose=us at a1 a2 q3
       obtain⟨r5,k5⟩:=t6.drew
       have hfl:acA (xs++ys)=acA xs++acA ys:=by simp
       have hall:DL w Z (us++arr.toList) (acA (xs++ys)):=by rw[hfl];exact aR.append a1 WY
       refine Dp (hm:=hmp0) r5 (len:=xs.length+ys.length) (cap:=aiA) (ws:=ve us++arr++rest) (el:=et) ?_ (by simp) (by omega) ?_ (by
        intro r hr
        rcases mm.1 hr with hr|hr
        ·exact g4.len r hr
        grind) (λj d hj=>?_)
       ·rw[p,e1,q3];rfl
       ·have:=q2 i.size hzs.symm
        simp only[agK,A,this,List.size_toArray,a2,N]
        rw[<-Nat.add_mul,<-Nat.add_mul]
        grind
       ·obtain⟨u,IF,OU⟩:=hall.aG hj
        grind [bA.mono,Array.size]
     ·simp[aw.aE]at n
    ·simp[aw.aE]at F
   ·simp[aw.aE]at Y
  ·simp[aw.aE]at Y
 ·simp[aw.aE]at Y
end
section
variable{K:de}{β:aD->Option Nat}{ω:Nat->Option cT}{Z:Nat->Prop}{s:St}{a:Act}{w:World}{af:bO}(hT:ib K.P af)
def aiB(h:aZ K β ω Z s a w){e dst len cap lo hi:Nat}{ws:bZ aL}{el:bv}{rows:M (M D)}{r:Result Next}{w':World}(X:r=.ok (.value (.slice (J ⟨w.heap.size,0,O⟩) len cap)) w') (f:∀b,b<w.heap.size->w'.heap[b]?=w.heap[b]?)(m:w'.heap.size=w.heap.size+1)(A:w'.os=w.os)(n:acL w'=acL w)(t:acB w'=acB w) (g:w'.heap[w.heap.size]?=J (.cells ws el (lo,hi)))(B:∀o,o<ws.size->¬(lo<=o/\o<hi)) (z:rows.length=len)(k:len<=cap)(C:cap*e<=ws.size)(v:∀r∈rows,r.length=e)(hd:∀(j:Nat)d,(acA rows)[j]?=J d->∃u,ws[j]?=J u/\bA w Z d u)(hm:cf e=I):cQ K s a dst r (.one (.ak e rows)):=by
 let⟨Y,k1⟩:=h.grow (w':=w') (ω':=λb=>if b=w.heap.size then J (.tmp dst,J 0)else ω b) f (by omega) A n t (λb p=>by simp[Nat.ne_of_lt p]) (λb g' p R=>by rw[m];by_cases E:b=w.heap.size;omega;rw[aU E]at R;have:=(h.dV b _ R).2.1;omega);have f1:lg K β s a w' w.heap.size:=by intro q l S xs u' b' hq F y G p;rw[h.N2 f]at y;have:=(h.dV _ _ (h.ak q l S xs u' b' hq F y G).1).2.1;omega
 have i:dt w' Z e rows w.heap.size 0:=by refine Do g rows 0 v λj d H=>?_;let⟨u,N,P⟩:=hd j d H;exact⟨u,by simpa using N,bA.mono (λb p=>⟨k1.heap b (h.dp b p),p⟩) _ _ P⟩
 refine⟨_,_,β,_,Z,X,Y,⟨rfl,(aS.jg hm).2 ⟨⟨w.heap.size,0,O⟩,cap,by rw[z],rfl,by rw[z];exact k,i⟩⟩,?_⟩;intro j c x T V;have H:j=0:=by grind [SV.cells]
 subst H;simp only[SV.cells,ij,Option.some.injEq]at T;simp only[ey,ij,Option.some.injEq]at V;subst T;subst V;refine⟨(aS.jg hm).2 ⟨⟨w.heap.size,0,O⟩,cap,by rw[z],rfl,by rw[z];exact k,i⟩,λS xs b N P=>?_⟩;cases N;cases P;exact⟨by simp,⟨ws,el,lo,hi,g,by simpa using C,B⟩,f1⟩
def aiC{P:er}(el:bv)(l:M ao):∃(cap:Nat)(w':World)(ws:bZ aL),Y l<=cap/\(ayn el ⟨ve l⟩).run P w=.ok (.slice (J ⟨w.heap.size,0,O⟩) (Y l) cap) w'/\(∀b,b<w.heap.size->w'.heap[b]?=w.heap[b]?)/\w'.heap.size=w.heap.size+1/\w'.os=w.os/\acL w'=acL w/\acB w'=acB w/\w'.heap[w.heap.size]?=J (.cells ws el (ws.size,ws.size+1))/\ws.size=cap/\∀(j:Nat),j<Y l->ws[j]?=(l[j]?).map λb=>.int .u8 b.toNat:=by
 have a:(choose (.appendCap (Y l) 0 el)).run P w=.ok ((zV (Y l) 0 el).cut (acL w w.drawn (.appendCap (Y l) 0 el))) {w with drawn:=acK w+1}:=by simp[choose,Sem.run,agJ]
 have c:Y l<=(zV (Y l) 0 el).cut (acL w w.drawn (.appendCap (Y l) 0 el)):=by simp only[agI];omega
 generalize (zV (Y l) 0 el).cut (acL w w.drawn (.appendCap (Y l) 0 el))=cap at a c;let ws:bZ aL:=((ve l).map λb=>nN .u8 b.toNat)++Array.replicate (cap-Y l) (.int .u8 0);have d:ws.size=cap:=by simp[ws];omega
 let w1:World:=abK ({w with drawn:=acK w+1}:World) (.cells ws el);have h1:w1.heap[w.heap.size]?=J (.cells ws el (0,0)):=by show(w.heap.push _)[w.heap.size]?=_;simp
 refine⟨cap,w1.freeze ⟨w.heap.size,ws.size,O⟩ 1,ws,c,?_,?_,?_,rfl,rfl,rfl,?_,d,?_⟩;simp only[ayn,dB,Dj,a,dE];have e:(shape w.heap.size).run P w1=.ok (J (el,ws.size)) w1:=by simp[shape,Sem.run,World.shape?,h1]
 show((newRow el ws).run P {w with drawn:=acK w+1}).andThen _=_;simp only[uU,dE];show((markStringish ⟨w.heap.size,0,O⟩).run P w1).andThen _=_;simp only[markStringish,dB,e,dE];rfl;intro b g;have f:w.heap.size≠b:=by omega
 show((w1.freeze ⟨w.heap.size,ws.size,O⟩ 1).heap)[b]?=_;simp only[World.freeze,Nat.one_ne_zero,ca,Array.getElem?_modify,aU f];show(w.heap.push _)[b]?=_;grind;show((w1.freeze ⟨w.heap.size,ws.size,O⟩ 1).heap).size=_;simp only[World.freeze,Nat.one_ne_zero,ca,Array.size_modify];show(w.heap.push _).size=_;simp;grind [World.freeze];grind
def WZ{α a:Type}(f:α->a):∀l:M α,acA (l.map λb=>[f b])=l.map f|[]=>rfl|b::l=>by simp only[fc,Vl,WZ f l];rfl
def W2{P:er}:∀(us:M aL)(l:M ao)(acc:M ao),aR (λu(b:ao)=>∃n:L,u=.int .u8 n/\b=kr (G n)) us l->
  (forIn us (lK (ve acc)) λc(__s:nO)=>
    match c with
    |nN IntKind.u8 n=>(pure (Hz (__s.push (kr (G n)))):Sem (ForInStep nO))|x=>do
     stuck "bytesToString: byte expected"
     pure (Hz __s)).run P w=.ok (lK (ve (acc++l))) w
 |[],[],acc,_=>by simp|u::us,b::l,acc,h=>by
  obtain⟨⟨n,rfl,rfl⟩,h2⟩:=h;rw[List.forIn_cons];simp only[dB,fF,dE];have a:(lK (ve acc)).push (kr (G n))=lK (ve (acc++[kr (G n)])):=by apply agB;simp[ByteArray.push]
  rw[a,W2 us l _ h2];simp
def aiD{P:er}{u:aL}{xs:M (M D)}{l:M ao}(j:(u=.slice O 0 0/\xs=[])\/∃e cap,u=.slice (J e) xs.length cap/\(cap=0\/e.spot=O)/\xs.length<=cap/\dt w Z 1 xs e.block e.off) (h:xs.mapM (λx=>match x with|[.int .u8 n]=>J (kr n.toNat)|_=>O)=J l):(ayo u).run P w=.ok (.string ⟨l.toArray⟩) w:=by
 rcases j with⟨rfl,rfl⟩|⟨e,cap,rfl,h2,h3,m⟩
 simp at h;subst h;rfl;have o:=WR (K:={P:=P,N:=0,base:=0,w0:=w,E0:=λ_=>jc,Z0:=λ_=>jc,argv:=#[],ka:=λ_=>O}) (w:=w) (Z:=Z) (size:=1) (u:=.slice (J e) xs.length cap) (ys:=xs) (.inr ⟨e,cap,rfl,h2,h3,m⟩);let⟨_,_,arr,g,i,_⟩:=o;have d:=g w rfl;simp only[qP,Nat.mul_one]at d;have key:∀(xs:M (M D))(us:M aL)(l:M ao),DL w Z us xs.flatten->xs.mapM (λx=>match x with|[.int .u8 n]=>J (kr n.toNat)|_=>O)=J l->aR (λu(b:ao)=>∃n:L,u=.int .u8 n/\b=kr n.toNat) us l:=by
  intro xs;induction xs with
  |nil=>
   intro us l hd c;simp at c;subst c;cases us with|nil=>trivial|cons _ _=>exact hd.elim
  |cons x xs p=>
   intro us l hd c;rw[List.mapM_cons]at c;match x,c with
   |[.int .u8 n],c=>
    cases f:xs.mapM (λx=>match x with|[.int .u8 n]=>J (kr n.toNat)|_=>O)with
    |none=>simp[f]at c|some q=>
     simp[f]at c;subst c;cases us with|nil=>exact hd.elim|cons u us=>exact⟨⟨n,hd.1,rfl⟩,p us q hd.2 f⟩
   |[],c=>simp at c|.bool _::_,c=>simp at c|.bj _::_,c=>simp at c|.nil::_,c=>simp at c|.sl _ _::_,c=>simp at c|.cV _::_,c=>simp at c|.rep _ _::_,c=>simp at c|.int k n::y::r,c=>simp at c|[.int .i8 n],c=>simp at c|[.int .i16 n],c=>simp at c|[.int .i32 n],c=>simp at c|[.int .i64 n],c=>simp at c|[.int .u16 n],c=>simp at c|[.int .u32 n],c=>simp at c|[.int .u64 n],c=>simp at c
 have s:=W2 (P:=P) (w:=w) arr.toList l [] (key xs _ l i h);simp only[ayo,dB,d,dE];rw[<-Array.forIn_toList];have t:ByteArray.empty=lK ([]:M ao).toArray:=rfl;rw[t];exact(congrArg (λr:Result nO=>r.andThen λa w'=>Sem.run P (pure (Value.string a)) w') s).trans (by simp)
include hT in
def aiE(h:aZ K β ω Z s a w){src A:bv}{x:cD}{dst:Nat}{o:cR}(ho:o.op=.convert src A x){v:SV}{s':St}(R:(cq af o.op dst).aE s=J (v,s')):cQ K s' a dst ((execOp a.eval o).run K.P w) v:=by
 rw[ho]at R;simp only[cq]at R;let⟨v1,s1,h1,e⟩:=aT R;let⟨S,hv,hno,hnu⟩:=iM h h1;rw[S]at e;have B:(execOp a.eval o).run K.P w=((convert src A (ab3 a x)).run K.P w).andThen λu w'=>.ok (.value u) w':=by simp only[execOp,ho,dB,fF]
 unfold uE at e;split at e;rename_i i1 _ _ k _ _ n f i;let⟨d1,_,_,r⟩:=fe (w:=w) (hT.T _ _ f);let⟨d2,_,m,t⟩:=fe (w:=w) (hT.T _ _ i);have p:=xN m;subst p;let⟨C,q⟩:=bh e;rw[C,q];have G:=hv.2;simp only[aS,bA]at G;refine cQ.d (d:=.int k (aaX k n)) h (u:=.int k (aaX k n)) ?_ rfl;rw[B,G];simp only[convert,dB,r,t,dE,Conv.intToInt,fF];rename_i l f i;let⟨d1,_,_,r⟩:=fe (w:=w) (hT.T _ _ f);let⟨d2,_,m,t⟩:=fe (w:=w) (hT.T _ _ i);have p:=sC m;subst p;let⟨C,q⟩:=bh e;rw[C,q];have G:=hv.2;simp only[aS,bA]at G;refine cQ.d (d:=.bj l) h (u:=.string ⟨ve l⟩) ?_ rfl;grind [convert,dB,dE,fF];rename_i V z l f i;let⟨d1,_,_,r⟩:=fe (w:=w) (hT.T _ _ f);let⟨d2,_,m,t⟩:=fe (w:=w) (hT.T _ _ i);have p:=n6 m;subst p;split at e;rename_i D;let⟨d3,_,E,H⟩:=fe (w:=w) (hT.T _ _ D);have F:=xN E;subst F;let⟨C,q⟩:=bh e;rw[C,q];have G:=hv.2;simp only[aS,bA]at G;let⟨cap,w',ws,q1,q2,q3,q4,q5,q6,q7,q8,q9,q10⟩:=aiC (P:=K.P) (w:=w) V l;refine aiB (hm:=by decide) h (w':=w') (len:=l.length) (cap:=cap) (lo:=ws.size) (hi:=ws.size+1) (ws:=ws) (el:=V) ?_ q3 q4 q5 q6 q7 q8 (by omega) (by simp) q1 (by omega) (by simp) (λj d N=>?_);grind [convert,dB,dE];rw[WZ,iH]at N;cases X:l[j]? with|none=>grind|some b=>rw[X]at N;simp only[Option.map_some,Option.some.injEq]at N;subst N;refine⟨.int .u8 b.toNat,?_,rfl⟩;grind
 simp[aw.aE]at e;rename_i V z c f i;let⟨d1,_,Y,r⟩:=fe (w:=w) (hT.T _ _ f);have WY:=n6 Y;subst WY;let⟨d2,_,m,t⟩:=fe (w:=w) (hT.T _ _ i);have p:=sC m;subst p;split at e;rename_i D;let⟨d3,_,E,H⟩:=fe (w:=w) (hT.T _ _ D);have F:=xN E;subst F;let⟨xs,s2,h2,y⟩:=aT e;let⟨q,g⟩:=V5 h hv.2 h2;rw[q]at y;split at y;rename_i l hl;let⟨C,hs3⟩:=bh y;rw[C,hs3];have hrun:=aiD (P:=K.P) g hl;refine cQ.d (d:=.bj l) h (u:=.string ⟨ve l⟩) ?_ rfl;grind [convert,dB,dE];simp[aw.aE]at y;simp[aw.aE]at e;simp[aw.aE]at e
end
def dm(args:M SV)(aI:M (M C)):St
 |.tmp _=>{}|.bP i=>{v:=H args i .undef}|.box (.aC i)=>{v:=match aI[i]? with|some cs=>.agg cs|none=>.undef}
 |.box _=>{}
def eV(args:M SV)(r:qX):St
 |.tmp 0=>{v:=r.v}|.tmp _=>{}|.bP i=>{v:=H (ld r.cI args) i .undef}|.box (.aC i)=>{v:=match r.aI[i]? with|some cs=>.agg cs|none=>.undef}
 |.box _=>{}
def cW(P:er)(N:Nat)(w:World)(vals:bZ aL)(β:aD->Option Nat)(ω:Nat->Option cT)(Z:Nat->Prop):de:={P,N,base:=w.heap.size,w0:=w,E0:=λb=>ω b≠O,Z0:=Z,argv:=vals,ka:=β}
section
variable{K:de}{β:aD->Option Nat}{ω:Nat->Option cT}{Z:Nat->Prop}{s:St}{a:Act}{w:World}{af:bO}
def W5(h:aZ K β ω Z s a w){c c':C}{u:aL}{s':St}(e:aS K β Z s a w c u)(j:cP c)(d:(o7 af c).aE s=J (c',s')):∃ω' Z',aZ K β ω' Z' s' a w/\dC K β a ω Z s w ω' Z' s' w/\aS K β Z' s' a w c' u/\cP c':=by unfold o7 at d;split at d;split at d;grind [bh,dC.refl];let⟨x,k,h1,b⟩:=aT d;let⟨f,g⟩:=bh b;rw[f,g];let⟨ω',Z',i,k1,d1⟩:=Dd h e h1;exact⟨ω',Z',i,k1,d1,by simp[cP]⟩;split at d;let⟨x,k,h1,b⟩:=aT d;let⟨f,g⟩:=bh b;rw[f,g];let⟨ω',Z',i,k1,d1⟩:=Dd h e h1;exact⟨ω',Z',i,k1,d1,by simp[cP]⟩;grind [bh,dC.refl];grind [bh,dC.refl]
def aiF:∀(cs:M C)(us:M aL)(ω:Nat->Option cT)(Z:Nat->Prop)(s s':St)(cs':M C),aZ K β ω Z s a w->aR (λu c=>aS K β Z s a w c u) us cs->(∀c∈cs,cP c)->(xC af cs).aE s=J (cs',s')->∃ω' Z',aZ K β ω' Z' s' a w/\dC K β a ω Z s w ω' Z' s' w/\aR (λu c=>aS K β Z' s' a w c u) us cs'/\(∀c∈cs',cP c):=by
 intro cs;induction cs with
 |nil=>intro us ω Z s s' cs' h b g i;let⟨d,o⟩:=bh i;grind [dC.refl]
 |cons c cs q=>
  intro us ω Z s s' cs' h b g i;cases us with|nil=>exact aaY b|cons u us=>simp only[xC]at i;let⟨c1,r,h1,j⟩:=aT i;let⟨k,F,h2,l⟩:=aT j;let⟨d,o⟩:=bh l;subst d;subst o;let⟨m,t,p,k1,v,y⟩:=W5 h b.1 (g c (kJ ..)) h1;have f:∀x∈cs,cP x:=λx d=>g x (jr _ d);let⟨n,z,A,k2,B,G⟩:=q us m t r _ k p (b.2.kO λu c D E=>k1.li h.dp (λe xs _ d _=>cJ d (f c D e xs)) E) f h2;refine⟨n,z,A,k1.trans k2,⟨k2.li p.dp (λe xs _ d _=>cJ d (y e xs)) v,B⟩,λx d=>?_⟩;grind
def n7(K:de)(β:aD->Option Nat)(Z:Nat->Prop)(s:St)(a:Act)(w:World)(u:aL)(v:SV):Prop:=bQ (aS K β Z s a w) u v/\(∀c∈v.cells,cP c)/\v≠.undef
theorem n7.lift{ω':Nat->Option cT}{Z':Nat->Prop}{s':St}{w':World}(d:aZ K β ω Z s a w)(k:dC K β a ω Z s w ω' Z' s' w'){u:aL}{v:SV}(h:n7 K β Z s a w u v):n7 K β Z' s' a w' u v:=⟨bQ.mono (λc _ f b=>k.li d.dp (λe xs _ g _=>cJ g (h.2.1 c f e xs)) b) h.1,h.2⟩
def aiG(h:aZ K β ω Z s a w){v v':SV}{u:aL}{s':St}(hv:n7 K β Z s a w u v)(e:(p5 af v).aE s=J (v',s')):∃ω' Z',aZ K β ω' Z' s' a w/\dC K β a ω Z s w ω' Z' s' w/\n7 K β Z' s' a w u v':=by
 cases v with
 |one c=>simp only[p5]at e;let⟨c1,n,h1,b⟩:=aT e;let⟨g,i⟩:=bh b;subst g;subst i;let⟨d,j,k,k1,l,m⟩:=W5 h hv.1.2 (hv.2.1 c (by simp[SV.cells])) h1;exact⟨d,j,k,k1,⟨hv.1.1,l⟩,by simpa[SV.cells]using m,by simp⟩
 |agg cs=>simp only[p5]at e;let⟨c1,n,h1,b⟩:=aT e;let⟨g,i⟩:=bh b;subst g;subst i;let⟨ws,o,f⟩:=hv.1;let⟨d,j,k,k1,l,m⟩:=aiF cs (V ws) ω Z s _ _ h f (λc p=>hv.2.1 c p) h1;exact⟨d,j,k,k1,⟨ws,o,l⟩,m,by simp⟩
 |bw x=>simp[p5,aw.aE]at e|undef=>simp[p5,aw.aE]at e
def aiH:∀(vs:M SV)(us:M aL)(ω:Nat->Option cT)(Z:Nat->Prop)(s s':St)(vs':M SV),aZ K β ω Z s a w->aR (n7 K β Z s a w) us vs->(Ak af vs).aE s=J (vs',s')->∃ω' Z',aZ K β ω' Z' s' a w/\dC K β a ω Z s w ω' Z' s' w/\aR (n7 K β Z' s' a w) us vs':=by
 intro vs;induction vs with
 |nil=>intro us ω Z s s' vs' h b c;let⟨j,k⟩:=bh c;grind [dC.refl]
 |cons v vs m=>
  intro us ω Z s s' vs' h b c;cases us with|nil=>exact aaY b|cons u us=>simp only[Ak]at c;let⟨v1,n,h1,d⟩:=aT c;let⟨e,y,h2,f⟩:=aT d;let⟨j,k⟩:=bh f;subst j;subst k;let⟨g,o,l,k1,p⟩:=aiG h b.1 h1;let⟨i,q,r,k2,t⟩:=m us g o n _ e l (aR.mono (λ_ _ x=>n7.lift h k1 x) b.2) h2;exact⟨i,q,r,k1.trans k2,n7.lift l k2 p,t⟩
def gM(ks:M aD)(β:aD->Option Nat):aD->Option Nat|.aC i=>if i<Y ks then β (H ks i default)else O|_=>O
def gv(ks:M aD)(ω:Nat->Option cT)(b:Nat):Option cT:=
 match ω b with|some (.box k,j)=>if k∈ks then J (.box (.aC (idx k ks)),j)else O|_=>O
theorem IG:∀{ks:M aD}{k:aD},k∈ks->idx k ks<Y ks/\ks[idx k ks]?=J k
 |k'::ks,k,h=>by
  simp only[idx];split;grind;rename_i e;have:k∈ks:=by grind
  let⟨h1,h2⟩:=IG this;grind
theorem rr{ks:M aD}{k:aD}(h:k∈ks)(β:aD->Option Nat):gM ks β (.aC (idx k ks))=β k:=by grind [IG,gM]
theorem ru:∀{ks:M aD}(_:ks.Nodup){i:Nat}{k:aD},ks[i]?=J k->idx k ks=i
 |[],_,_,_,h=>by simp at h|k'::ks,b,0,k,h=>by simp_all [idx]|k'::ks,b,i+1,k,h=>by
  simp only[qN]at h;have a:k≠k':=by grind
  simp only[idx,aU a,ru (zX.1 b).2 h]
theorem Ax:∀(l:M aD),(nb l).Nodup|[]=>List.nodup_nil|k::r=>by simp only[nb];exact zX.2 ⟨by simp,(Ax r).filter _⟩
theorem Xa:∀{l:M aD}{k:aD},k∈l->k∈nb l|k'::r,k,h=>by simp only[nb,iG,List.mem_filter,eW];by_cases e:k=k';exact .inl e;exact .inr ⟨Xa (by simpa[e]using h),e⟩
def Xb:∀{cs:M C}{c:C}{k:aD},c∈cs->k∈keysOf [c]->k∈keysOf cs
 |b::cs,c,k,a,hk=>by
  rcases iG.1 a with rfl|a
  cases c<;>simp_all [keysOf];have:=Xb a hk;cases b<;>simp_all [keysOf]
def Xc(h:aZ K β ω Z s a w){ks:M aD}{c c':C}{u:aL}{s':St}(m:aS K β Z s a w c u)(V:cP c)(hk:∀k∈keysOf [c],k∈ks)(o:(canon ks c).aE s=J (c',s')):s'=s/\(∀(K₀:de)(s₀:St)(a₀:Act),aS K₀ (gM ks β) Z s₀ a₀ w c' u)/\(∀(e:Nat)(xs:M (M D))(b:Nat),c'=.ak e xs->eG u=J b->gv ks ω b=O/\b<w.heap.size):=by
 unfold canon at o;split at o;let⟨l,n⟩:=bh o;subst l;exact⟨n,λ_ _ _=>m,by simp⟩;rename_i r j hv cv e k xs;simp only[aw.aE]at o;let⟨_,s1,h1,d⟩:=aT o;let⟨⟨E,F⟩,G⟩:=cN h1;rw[G]at d;have v:(s r).at j≠.bN:=by grind [aw.aE]
 let⟨ys,P,z,f6,f2,f3,f4,f5,_,f8⟩:=Ig h m E F v;rcases f6 with f6|f6
 rw[f6]at d;simp only at d;let⟨_,s2,h2,y⟩:=aT d;let⟨X,H⟩:=cN h2;rw[H]at y;let⟨l,n⟩:=bh y;subst l;refine⟨n,λ_ _ _=>pc.iff.2 f5,λe' Y b1 q1 A=>?_⟩;rw[f4]at A;cases A;by_cases q:r.isArg=W;cases r with
 |bP i=>
  let⟨B,R⟩:=h.iL i j e ys P z (iY f6 (by simp)) f2 f3;refine⟨?_,Nat.lt_of_lt_of_le B h.base⟩;have:ω z=O:=by
   cases N:ω z with|none=>rfl|some g=>exact cJ ((h.dV _ _ N).2.2 B) R
  simp[gv,this]
 |tmp t=>simp[aO.isArg]at q|box k=>simp[aO.isArg]at q
 let⟨B,R⟩:=h.ak r j e ys P z (by simpa using q) (iY f6 (by simp)) f2 f3;refine⟨?_,(h.dV _ _ B).2.1⟩;grind [gv];rw[f6]at d;simp only at d;let⟨l,n⟩:=bh d;subst l;refine⟨n,λ_ _ _=>f8 Z (λb hb=>hb) (h.frozen f6 f2 f3),by simp⟩;rename_i k off;let⟨l,n⟩:=bh o;subst l;let⟨b,S,T⟩:=m;exact⟨n,λ_ _ _=>⟨b,by simp_all [rr,keysOf],T⟩,by simp⟩;rename_i f caps;let⟨l,n⟩:=bh o;subst l;let⟨vs,S,T⟩:=m;refine⟨n,λ_ _ _=>⟨vs,S,?_⟩,by simp⟩;have key:∀(us:M aL)(caps:M (aD×Nat)),(∀p∈caps,p.1∈ks)->aR (λu(p:aD×Nat)=>∃b,β p.1=J b/\u=.pointer (J ⟨b,p.2,O⟩)) us caps->aR (λu(p:aD×Nat)=>∃b,gM ks β p.1=J b/\u=.pointer (J ⟨b,p.2,O⟩)) us (caps.map λp=>(.aC (idx p.1 ks),p.2)):=by
  intro us;induction us with
  |nil=>intro caps _ h;cases caps with|nil=>trivial|cons _ _=>exact aaY h
  |cons u us ih=>
   intro caps hm h;cases caps with|nil=>exact aaY h|cons p caps=>let⟨⟨b,q1,A⟩,q3⟩:=h;exact⟨⟨b,by grind [rr],A⟩,ih caps (λx l=>hm x (jr _ l)) q3⟩
 grind [keysOf];simp[aw.aE]at o
def Dr(ks:M aD)(β:aD->Option Nat)(ω:Nat->Option cT)(Z:Nat->Prop)(w:World)(u:aL)(v:SV):Prop:=(∀(a:de)(c:St)(d:Act),bQ (aS a (gM ks β) Z c d w) u v)/\(∀(j e:Nat)(xs:M (M D))(f:aL)(b:Nat),v.cells[j]?=J (.ak e xs)->(ey u)[j]?=J f->eG f=J b->gv ks ω b=O/\b<w.heap.size)/\v≠.undef
def aiI:∀(cs:M C)(us:M aL)(s':St)(cs':M C){ks:M aD},aZ K β ω Z s a w->aR (λu c=>aS K β Z s a w c u) us cs->(∀c∈cs,cP c)->(∀k∈keysOf cs,k∈ks)->
  (sx ks cs).aE s=J (cs',s')->s'=s/\(∀(K₀:de)(s₀:St)(a₀:Act),aR (λu c=>aS K₀ (gM ks β) Z s₀ a₀ w c u) us cs')/\
    (∀(j e:Nat)(xs:M (M D))(n:aL)(b:Nat),cs'[j]?=J (.ak e xs)->us[j]?=J n->eG n=J b->gv ks ω b=O/\b<w.heap.size):=by
 intro cs
 induction cs with
 |nil=>
  intro us s' cs' ks h d f hk m;let⟨g,o⟩:=bh m;subst g;cases us with|nil=>exact⟨o,λ_ _ _=>trivial,by simp⟩|cons u us=>exact aaY d
 |cons c cs v=>
  intro us s' cs' ks h d f hk m;cases us with|nil=>exact aaY d|cons u us=>simp only[sx]at m;let⟨c1,E,h1,i⟩:=aT m;let⟨p,y,F⟩:=Xc h d.1 (f c (kJ ..)) (λk l=>hk k (Xb (kJ ..) l)) h1;rw[p]at i;let⟨q,z,h2,r⟩:=aT i;let⟨g,o⟩:=bh r;let⟨t,A,G⟩:=v us z q h d.2 (λx g=>f x (jr _ g)) (λk l=>hk k (by cases c<;>simp_all [keysOf])) h2;subst g;refine⟨by rw[o,t],λK₀ s₀ a₀=>⟨y K₀ s₀ a₀,A K₀ s₀ a₀⟩,λj e xs n H N P B=>?_⟩;grind
theorem Xd(l m:M C):keysOf (l++m)=keysOf l++keysOf m:=by
 induction l with|nil=>rfl|cons c l a=>cases c<;>simp[keysOf,a]
def aiJ:∀(vs:M SV)(us:M aL)(s':St)(vs':M SV){ks:M aD},aZ K β ω Z s a w->aR (n7 K β Z s a w) us vs->(∀k∈keysOf (vs.flatMap SV.cells),k∈ks)->(uF ks vs).aE s=J (vs',s')->s'=s/\aR (Dr ks β ω Z w) us vs':=by
 intro vs;induction vs with
 |nil=>
  intro us s' vs' ks h b hk z;let⟨l,m⟩:=bh z;subst l;cases us with|nil=>exact⟨m,trivial⟩|cons u us=>exact aaY b
 |cons v vs T=>
  intro us s' vs' ks h b hk z;cases us with
  |nil=>exact aaY b|cons u us=>
   simp only[uF]at z;let⟨v1,V,h1,r⟩:=aT z;have t:∀k∈keysOf v.cells,k∈ks:=λk n=>hk k (by grind [Xd]);have i:V=s/\Dr ks β ω Z w u v1:=by
    cases v with
    |one c=>simp only[nW]at h1;let⟨c1,H,h3,o⟩:=aT h1;let⟨l,m⟩:=bh o;subst l;let⟨p,C,N⟩:=Xc h b.1.1.2 (b.1.2.1 c (by simp[SV.cells])) (λk n=>t k (by simpa[SV.cells]using n)) h3;refine⟨by rw[m,p],λd f g=>⟨b.1.1.1,C d f g⟩,λj e xs P R A B y=>?_,by simp⟩;rw[Ap b.1.1.1]at B;grind [SV.cells]
    |agg cs=>simp only[nW]at h1;let⟨c1,H,h3,o⟩:=aT h1;let⟨l,m⟩:=bh o;subst l;let⟨ws,B,D⟩:=b.1.1;let⟨p,C,N⟩:=aiI cs ws.toList H c1 h D (λc A=>b.1.2.1 c A) t h3;refine⟨by rw[m,p],λd f g=>⟨ws,B,C d f g⟩,λj e xs P R A S y=>?_,by simp⟩;rw[B]at S;exact N j e xs P R A S y
    |bw x=>simp[nW,aw.aE]at h1|undef=>simp[nW,aw.aE]at h1
   rw[i.1]at r;let⟨E,X,h2,F⟩:=aT r;let⟨l,m⟩:=bh F;subst l;let⟨G,q⟩:=T us X E h b.2 (λk n=>hk k (by grind [Xd])) h2;exact⟨by rw[m,G],i.2,q⟩
def Xe{d:M aD}:∀(ks:M aD)(s':St)(b:M (M C)),(xD d ks).aE s=J (b,s')->s'=s/\Y b=Y ks/\∀(i:Nat)(k:aD),ks[i]?=J k->∃cs,b[i]?=J (cs.map (tc d))/\(s (.box k)).v=.agg cs/\cs.all (tok d)=W:=by
 intro ks;induction ks with
 |nil=>intro s' b a;let⟨h,j⟩:=bh a;grind
 |cons k ks l=>intro s' b a;simp only[xD,aw.aE]at a;split at a;rename_i cs f;let⟨_,m,h1,c⟩:=aT a;let⟨n,e⟩:=cN h1;rw[e]at c;let⟨r,o,h2,g⟩:=aT c;grind [bh];simp[aw.aE]at a
def aiK:∀(ks:M aD)(s':St)(l:M aD),(Al ks).aE s=J (l,s')->s'=s:=by
 intro ks;induction ks with
 |nil=>intro s' l a;exact(bh a).2
 |cons k ks c=>intro s' l a;simp only[Al,aw.aE]at a;split at a;let⟨r,d,h2,b⟩:=aT a;grind [bh];simp[aw.aE]at a
def Xf{ks:M aD}{cs:M C}(h:cs.all (tok ks)=W){c:C}(a:c∈cs):tok ks c=W:=gT.1 h c a
def Xg{f:de}{ks:M aD}{s':St}{g:Act}{c:C}{u:aL}(i:tok ks c=W)(h:aS K β Z s a w c u):aS f (gM ks β) Z s' g w (tc ks c) u:=by
 cases c with
 |d x=>exact h|ak e xs=>exact h|aX k off=>let⟨b,l,j⟩:=h;exact⟨b,by simp_all [rr,tok],j⟩
 |bN=>trivial|_=>cases i
theorem Xh{ks:M aD}{c:C}{e:Nat}{xs:M (M D)}(h:tc ks c=.ak e xs):c=.ak e xs:=by cases c<;>first|exact h|cases h
def aR.IH{α β a:Type}{R:α->β->Prop}{S:α->a->Prop}{f:β->a}:∀{us:M α}{cs:M β},aR R us cs->(∀u c,c∈cs->R u c->S u (f c))->aR S us (cs.map f)|[],[],_,_=>trivial|_::_,_::_,h,g=>⟨g _ _ (kJ ..) h.1,aR.IH h.2 λu c b=>g u c (jr _ b)⟩
def Xi{ks:M aD}{c:C}(h:tok ks c=W):ju (Y ks) (tc ks c)=W:=by
 cases c with|d x=>rfl|ak e xs=>rfl|aX k off=>exact decide_eq_true (IG (by simpa[tok]using h)).1|bN=>rfl|_=>cases h
def aiL{b:de}{n:Nat}{s':St}{f:Act}{c:C}{u:aL}(g:ju n c=W)(h:aS K β Z s a w c u):aS b β Z s' f w c u:=by
 cases c with|d x=>exact h|ak e xs=>exact h|aX k off=>exact h|bN=>trivial|_=>cases g
def Xj{n:Nat}{cs:M C}(h:cs.all (ju n)=W){c:C}(a:c∈cs):ju n c=W:=gT.1 h c a
theorem Xk{ks:M aD}{β:aD->Option Nat}{k:aD}{b:Nat}(h:gM ks β k=J b):∃i k',k=.aC i/\ks[i]?=J k'/\β k'=J b:=by unfold gM at h;grind
def aiM(h:aZ K β ω Z s a w){ks:M aD}(hnd:ks.Nodup){us:M aL}{d:M SV}{x:M (M C)}(E:aR (Dr ks β ω Z w) us d)(Ay:x.length=ks.length) (F:∀(i:Nat)(k:aD),ks[i]?=J k->∃cs,x[i]?=J (cs.map (tc ks))/\(s (.box k)).v=.agg cs/\cs.all (tok ks)=W):aZ (cW K.P 0 w (ve us) (gM ks β) (gv ks ω) Z) (gM ks β) (gv ks ω) Z (dm d x) {tmps:=#[],defers:=[]} w:=by
 have o:∀i,(ve us).getD i undef=us.getD i undef:=λi=>by simp_all
 have f:∀i(v:SV),d.getD i .undef=v->v≠.undef->Dr ks β ω Z w (us.getD i undef) v:=by
  intro i v hv G;rw[jH]at hv;cases m:d[i]? with|none=>grind|some v'=>rw[m]at hv;simp only[Option.getD_some]at hv;subst hv;let⟨u,n,p⟩:=E.aG m;grind
 have q:∀(k:aD)(y:M C),(dm d x (.box k)).v=.agg y->∃i k' cs,k=.aC i/\ks[i]?=J k'/\(s (.box k')).v=.agg cs/\y=cs.map (tc ks)/\cs.all (tok ks)=W:=by
  intro k cs hk;cases k with
  |aC i=>
   simp only[dm]at hk;cases N:x[i]? with|none=>grind|some y=>rw[N]at hk;cases hk;have D:i<ks.length:=(by grind);let⟨cs2,n,p,H⟩:=F i _ (eD D);grind
  |az t=>simp[dm]at hk|cn t i=>simp[dm]at hk
 have R:∀(i:Nat)(k':aD)(j:Option Nat)(b:Nat),ks[i]?=J k'->ω b=J (.box k',j)->gv ks ω b=J (.box (.aC i),j):=by grind [gv,ru]
 refine⟨rfl,⟨rfl,λg l S=>?_,λg S=>?_⟩,rfl,rfl,rfl,Nat.le_refl _,λ_ _ _=>rfl,h.dp,λ_ h=>h,λb F=>.inl F,?_,?_,?_,?_,?_,?_,λ_ _ h=>h⟩;let⟨n,p,H,T⟩:=h.laid g l S;refine⟨n,p,λV=>V ?_,T⟩;simp only[gv,H];let⟨n,p,H,T⟩:=h.opens g S;refine⟨n,p,λV=>V ?_,T⟩;simp only[gv,H];intro t;exact trivial;intro i;show bQ _ ((ve us).getD i undef) (d.getD i .undef);rw[o];by_cases hu:d.getD i .undef=.undef;rw[hu];trivial;exact(f i _ rfl hu).1 _ _ _;intro k;cases hv:(dm d x (.box k)).v with
 |agg cs=>obtain⟨i,k',z,rfl,D,n,rfl,p⟩:=q k cs hv;let⟨b,ws,el,lo,X,f1,f2,f3,f4,f5⟩:=eh.cell h n;refine⟨b,ws,el,lo,X,?_,R i k' O b D f2,f3,f4,f5.IH λu c m Y=>Xg (Xf p m) Y⟩;have:=rr (fG D) β;grind [ru]
 |undef=>
  show gM ks β k=O;cases VQ:gM ks β k with|none=>rfl|some b=>grind [Xk,dm]
 |one c=>cases k<;>simp only[dm]at hv<;>(try (split at hv))<;>cases hv
 |bw c=>cases k<;>simp only[dm]at hv<;>(try (split at hv))<;>cases hv
 intro r j e xs u1 b1 Y m hh A;cases r with
 |tmp t=>simp[dm,SV.cells]at m|bP i=>simp[aO.isArg]at Y|box k=>
  cases hv:(dm d x (.box k)).v with
  |agg cs=>obtain⟨i,k',z,rfl,D,n,rfl,p⟩:=q k cs hv;rw[hv]at m;have m:(z.map (tc ks))[j]?=J (.ak e xs):=m;have hc0:z[j]?=J (.ak e xs):=(by grind [Xh]);have VQ:gM ks β (.aC i)=β k':=(by have:=rr (fG D) β;grind [ru]);have B:cK K β a w (.box k') j=J u1:=(by simp_all [cK]);let⟨p1,p2⟩:=h.ak (.box k') j e xs u1 b1 rfl (by rw[n];exact hc0) B A;grind
  |undef=>simp_all [SV.cells]|one c=>cases k<;>simp only[dm]at hv<;>(try (split at hv))<;>cases hv
  |bw c=>cases k<;>simp only[dm]at hv<;>(try (split at hv))<;>cases hv
 intro i j e xs u1 b1 m hh A;have hc':(d.getD i .undef).cells[j]?=J (.ak e xs):=m;have G:d.getD i .undef≠.undef:=by grind [SV.cells]
 have B:(ey (us.getD i undef))[j]?=J u1:=by rw[<-o];exact hh
 let⟨p1,p2⟩:=(f i _ rfl G).2.1 j e xs u1 b1 hc' B A;exact⟨p2,λhE=>hE p1⟩;intro b g F;have hb':gv ks ω b≠O:=by rw[F];simp
 have:∃g',ω b=J g':=by grind [gv]
 let⟨g',hg'⟩:=this;let⟨q1,q2,_⟩:=h.dV b g' hg';exact⟨q1,q2,λ_=>hb'⟩
end
end Go.Vs
