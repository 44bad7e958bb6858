/- The statement ExportPreviewsUptoCardSaid of the given program is proved here: for every input whose bulk is at most the bound of its row, the law returns true and changes nothing. Part 1 of 7. -/
import Derived.Orders
import Derived.Scope
import Derived.Laws.World
import Derived.Laws.Sem
import GoSem.Dispatch
import Derived.Lib.Strings
import Derived.MapKept
import Derived.WideKeyRuns
set_option linter.unusedVariables false
set_option linter.unusedSimpArgs false
set_option linter.unusedSectionVars false
set_option linter.constructorNameAsVariable false
set_option linter.defProp false
open Array renaming getElem?_toList->oc,range->LQ,size_append->aeM,toList_modify->awf
open BitVec renaming ofInt->lp
open Bool renaming and_eq_true->bG,false->I,false_eq_true->bh,not_false->qF,toNat->aeE,true->W
open ByteArray renaming ext->aeB,mk->kh,size->Av
open ForInStep renaming yield->Fk
open Go renaming Addr->dt,BinOp->iL,FuncId->cY,IntKind->ln,MapEntry->c7,Oper->ch,Operand->bO,Program->dr,TypeDesc->nc,TypeId->aW,Value->az,run_underlying->jF
open Go.Builtin renaming append_->rX,firstCells->pu,growBy->awi,lenOf->Fh,len_->Tv,nextslicecap->xR,zeroCells->xT
open Go.Conv renaming bytesToString->awk,stringToBytes->awj
open Go.Instr renaming checkKey->ls,entryStore->awg,fieldAt->aeA,fill->Tx,findAsking->awc,findKey->LN,indexAt->LK,keyThatStays->Tt,loadAt->Au,lookup->uN,mapUpdate->LP,sameBits->Fg,sameNow->LM,sliceAt->aeD,sliceBound->aeC,sliceBounds->LL,storeAt->aez,sureAddr->uM
open Go.IntKind renaming i64->aO,signed->Fc
open Go.MapKept renaming bytes_beq->awd
open Go.Op renaming bytesLess->lY,equalIn->Fe
open Go.Program renaming cellsOf->awh
open Go.Question renaming appendCap->xU,cut->aeK,forced->aeL
open Go.Result renaming andThen_ok->cO
open Go.Sem renaming run_bind->cL,run_pure->ek
open Go.Value renaming cells->aeF,int->l9
open Iff renaming rfl->rW
open List renaming all_cons->l8,all_eq_true->fO,append_nil->Aw,ext_getElem?->rV,flatMap_cons->lq,flatten_cons->Tw,getD_eq_getElem?_getD->iy,getElem?_append->awe,getElem?_append_left->og,getElem?_cons_succ->pr,getElem?_cons_zero->fY,getElem?_eq_getElem->du,getElem?_eq_some_iff->gi,getElem?_map->gj,getElem?_of_mem->lZ,getElem?_set->xO,getElem?_toArray->Fj,length_append->lr,length_cons->jr,length_take->awb,map_cons->dO,mem_append->l5,mem_cons->iA,mem_cons_of_mem->gU,mem_cons_self->jq,mem_flatMap->E9,mem_iff_getElem?->Ts,mem_map->kH,mem_of_getElem?->eA,mem_or_eq_of_mem_set->aeG,mem_singleton->ng,nodup_cons->xV,pairwise_append->Ff,pairwise_singleton->aeH,replicate->dk,replicate_succ->aeI
open List.cons renaming injEq->xQ
open Nat renaming ble->fi
open Option renaming none->O,some->J
open Prod.mk renaming injEq->fj
open UInt8 renaming ofNat->je
open _root_ renaming Array->bv,Bool->ao,ByteArray->mc,False->gT,Int->M,List->L,Nat->U,Option->Q,True->cZ,UInt8->ai,Unit->bu,absurd->bX,and_true->xP,decide_eq_true_eq->eh,if_false->bC,if_neg->aK,if_pos->ax,if_true->bf
namespace Go.Vs
inductive Key where
 |inb(i:Nat)|loc(t:Nat)|esc(t i:Nat)
 deriving DecidableEq,Repr,Inhabited
inductive aD where
 |tmp(t:Nat)|box(k:Key)|arg(i:Nat)
 deriving DecidableEq,Repr,Inhabited
inductive NK where
 |ptr|func|iface|map|chan
 deriving DecidableEq,Repr,Inhabited
inductive D where
 |int(k:IntKind)(n:Int)
 |bool(b:Bool)
 |str(s:List UInt8)
 |nil
 |sl(e:Nat)(xs:List (List D))
 |ck(k:NK)
 |rep(u:TypeId)(ps:List (UInt8×List UInt8))
 deriving Inhabited
inductive C where
 |d(x:D)
 |own(e:Nat)(xs:List (List D))
 |aS(r:aD)(j hv cv e k:Nat)(xs:List (List D))
 |ea(r:aD)(j hv e i off:Nat)
 |da(xs:List D)
 |ptr(k:Key)(off:Nat)
 |cy(f:FuncId)(caps:List (Key×Nat))
 |dead
 deriving Inhabited
inductive SV where
 |one(c:C)
 |agg(cs:List C)
 |aX(vs:List (Bool×List C))
 |undef
 deriving Inhabited
structure RV where
 hv:Nat:=0
 cv:Nat:=0
 v:SV:=.undef
 deriving Inhabited
abbrev St:=aD→RV
def St.set(s:St)(r:aD)(x:RV):St:=λa=>if a=r then x else s a
theorem kl(s:St)(r:aD)(x:RV):s.set r x r=x:=by simp[St.set]
theorem km(s:St){r q:aD}(x:RV)(h:q≠r):s.set r x q=s q:=by simp[St.set,h]
def SV.cells:SV→L C|.one c=>[c]|.agg cs=>cs|.aX vs=>vs.flatMap (·.2)|.undef=>[]
def pB:L (ao×L C)→U→C→L (ao×L C)|[],_,_=>[]|(b,cs)::r,j,c=>if j<cs.length then(b,cs.set j c)::r else(b,cs)::pB r (j-cs.length) c
def SV.setCell(v:SV)(j:U)(c:C):SV:=
 match v with|.one _=>if j=0 then .one c else v|.agg cs=>.agg (cs.set j c)|.aX vs=>.aX (pB vs j c)|.undef=>.undef
def ou(a:U)(b:ao)(c:U)(d:ao):U:=4294967296+((a*2+b.toNat)*65536+(c*2+d.toNat))
def isMap(e:U):ao:=fi 4294967296 e
def mg:U:=1099511627776
def eC(e:U):ao:=fi 1099511627776 e
def iO(e:U):U:=e+549755813888
def kn(l:L U):L D:=l.map λ(n:U)=>.int .i64 (n:M)
def fP(e:U):ao:=fi 549755813888 e&& !eC e
def AH(b:ao)(e:U):U:=match b with|true=>iO e|false=>e
def oE(e:U):U:=match fP e with|true=>e-549755813888|false=>e
def r9(e:U):U:=(e-4294967296)/131072
def va(e:U):ao:=(e-4294967296)/65536%2==1
def FA(e:U):U:=(e-4294967296)%65536/2
def vf(e:U):ao:=(e-4294967296)%2==1
inductive Prog(α:Type)where
 |ret(a:α)
 |fail
 |get(r:aD)(k:RV→Prog α)
 |put(r:aD)(x:RV)(k:Prog α)
namespace Prog
def bind{α β:Type}:Prog α→(α→Prog β)→Prog β|.ret a,f=>f a|.fail,_=>.fail|.get r k,f=>.get r λx=>(k x).bind f|.put r x k,f=>.put r x (k.bind f)
instance:Monad Prog where
 pure:=Prog.ret
 bind:=Prog.bind
def exec{α:Type}:Prog α→St→Q (α×St)|.ret a,s=>J (a,s)|.fail,_=>O|.get r k,s=>(k (s r)).exec s|.put r x k,s=>k.exec (s.set r x)
def cz{α:Type}:Prog α→St→L aD×L aD|.ret _,_=>([],[])|.fail,_=>([],[])|.get r k,s=>let f:=(k (s r)).cz s;(r::f.1,f.2)|.put r x k,s=>let f:=k.cz (s.set r x);(f.1,r::f.2)
end Prog
def dn(r:aD)(x:RV):Prog bu:=.put r x (.ret ())
def need(p:Prop)[Decidable p]:Prog bu:=if p then .ret ()else .fail
def opt{α:Type}:Q α→Prog α|some a=>.ret a|none=>.fail
inductive TK where
 |bool|int(k:IntKind)|str|ptr(e:TypeId)|slice(e:TypeId)|array(n:Nat)(e:TypeId)|struct(fs:List (Nat×TypeId))
 |func|iface|map(k e:TypeId)|other
 deriving DecidableEq,Repr,Inhabited
def TK.agg:TK→ao|.struct _|.array _ _=>W|_=>I
structure TI where
 size:Nat
 bytes:Nat
 kind:TK
 zero:Option (List D)
 deriving Inhabited
def tk:nc→TK|.bool=>.bool|.int k=>.int k|.string=>.str|.pointer e=>.ptr e|.slice e=>.slice e|.array n e=>.array n e|.struct fs=>.struct (fs.toList.map λf=>(f.offset,f.type))|.func .. =>.func|.interface _=>.iface|.map k e=>.map k e|_=>.other
def reflect:az→Q D|.int k n=>J (.int k n)|.bool b=>J (.bool b)|.string s=>J (.str s.data.toList)|.slice O 0 0=>J .nil|.pointer O=>J (.ck .ptr)|.nilFunc=>J (.ck .func)|.nilIface=>J (.ck .iface)|.map O=>J (.ck .map)|.chan O=>J (.ck .chan)|_=>O
def ko:L az→Q (L D)|[]=>J []|v::r=>match reflect v,ko r with|some d,J ds=>J (d::ds)|_,_=>O
def FB:az→ao|.agg _=>W|_=>I
def FC(agg:ao)(v:az):Q (L D):=if FB v=agg then ko v.cells.toList else O
def jt(P:dr)(t:aW):Q TI:=
 match P.info? t,P.underlying t with|some i,J d=>J {size:=i.size,bytes:=i.bytes,kind:=tk d,zero:=i.zero.bind (FC (tk d).agg)}|_,_=>O
structure pC where
 v:SV
 boxes:List (List C)
 bR:List (Nat×Nat):=[]
 deriving Inhabited
abbrev pD:=L SV→L (L C)→Q pC
inductive Sc where
 |int(k:IntKind)|bool|str
 deriving DecidableEq,Inhabited
def bM:L Sc→L D→ao|[],[]=>W|.int k::sh,.int k' _::ds=>decide (k'=k)&&bM sh ds|.bool::sh,.bool _::ds=>bM sh ds|.str::sh,.str _::ds=>bM sh ds|_,_=>I
structure bg where
 N:Nat
 T:List (TypeId×TI)
 Γ:Nat→FuncId→Option pD
 var:List Nat
 res:List Nat
 eqs:List (TypeId×List Sc):=[]
 dat:List Nat:=[]
 mh:Bool:=false
 pE:Bool:=false
 un:List Nat:=[]
 qJ:List (Nat×List Int):=[]
def bg.keep(cfg:bg)(u:U):ao:=cfg.var.contains u&& !cfg.dat.contains u
def lk{α:Type}(t:U):L (U×α)→Q α|[]=>O|(u,a)::r=>if t=u then J a else lk t r
def bg.ti(c:bg)(t:aW):Q TI:=lk t c.T
def mj(r:aD)(x:RV)(j:U):C→C|.own e xs=>.aS r j x.hv x.cv e 0 xs|c=>c
def gI(r:aD)(x:RV):U→L C→L C|_,[]=>[]|j,c::cs=>mj r x j c::gI r x (j+1) cs
def sa(r:aD)(x:RV):U→L (ao×L C)→L (ao×L C)|_,[]=>[]|j,(b,cs)::vs=>(b,gI r x j cs)::sa r x (j+cs.length) vs
def RV.copy(x:RV)(r:aD):SV:=
 match x.v with|.one c=>.one (mj r x 0 c)|.agg cs=>.agg (gI r x 0 cs)|.aX vs=>.aX (sa r x 0 vs)|.undef=>.undef
def ev:bO→Prog SV
 |.tmp t=>.get (.tmp t) λx=>match x.v with|.undef=>.fail|_=>.ret (x.copy (.tmp t))
 |.const v=>match v with
  |.agg cs=>match ko cs.toList with|some ds=>.ret (.agg (ds.map .d))|none=>.fail
  |v=>match reflect v with|some d=>.ret (.one (.d d))|none=>.fail
 |.func f=>.ret (.one (.cy f []))|.global _=>.fail
def pF:L bO→Prog (L SV)|[]=>.ret []|o::os=>do let v ←ev o;let vs ←pF os;.ret (v::vs)
def yc:SV→Prog C|.one c=>.ret c|_=>.fail
def dc(o:bO):Prog C:=do yc (←ev o)
def nk:C→Prog M|.d (.int _ n)=>.ret n|_=>.fail
def yd:C→Prog ao|.d (.bool b)=>.ret b|_=>.fail
def RV.at(x:RV)(j:U):C:=x.v.cells.getD j .dead
def nn(r:aD)(j:U)(x:RV):Prog bu:=
 match x.at j with
 |.own e ys=>dn r {x with v:=x.v.setCell j (.d (.sl e ys))}
 |.d (.sl _ _)=>.ret ()|_=>.fail
def ov(r:aD)(j:U)(x:RV):Prog bu:=
 match x.at j with
 |.own _ _=>dn r {x with v:=x.v.setCell j .dead}
 |_=>.fail
def aD.isArg:aD→ao|.arg _=>W|_=>I
def mm(self:Q (aD×U))(take:aD→ao):C→Prog C
 |.aS r j hv cv e k xs=>
  if r.isArg then .ret (.aS r j hv cv e k xs)else
  .get r λx=>do
   need (x.hv=hv∧x.cv=cv)
   match x.at j with|.own _ _=>if self=J (r,j)∨take r=W then do ov r j x;.ret (.own e xs);else do nn r j x;.ret (.d (.sl e xs))|.d (.sl _ _)=>.ret (.d (.sl e xs))|_=>.fail
 |.dead=>.fail|c=>.ret c
def np(mk:U→aD×U)(take:aD→ao):U→L C→Prog (L C)|_,[]=>.ret []|i,c::cs=>do let b ←mm (J (mk i)) take c;let a ←np mk take (i+1) cs;.ret (b::a)
def vg(mk:U→aD×U)(take:aD→ao):U→L (ao×L C)→Prog (L (ao×L C))|_,[]=>.ret []|i,(b,cs)::vs=>do let a ←np mk take i cs;let c ←vg mk take (i+cs.length) vs;.ret ((b,a)::c)
def lx(r:aD)(take:aD→ao):SV→Prog SV|.one c=>do .ret (.one (←mm (J (r,0)) take c))|.agg cs=>do .ret (.agg (←np (λi=>(r,i)) take 0 cs))|.aX vs=>do .ret (.aX (←vg (λi=>(r,i)) take 0 vs))|.undef=>.fail
def kK:C→Prog D
 |.d x=>.ret x|.aS r j hv cv e _ xs=>.get r λx=>do
   need (x.hv=hv∧x.cv=cv)
   nn r j x
   .ret (.sl e xs)
 |_=>.fail
def nr:L C→Prog (L D)|[]=>.ret []|c::cs=>do let x ←kK c;let xs ←nr cs;.ret (x::xs)
def SV.ew:SV→Q (L C)|.one c=>J [c]|.agg cs=>J cs|_=>O
def alive(x:RV)(j:U):ao:=
 match x.at j with|.own _ _|.d (.sl _ _)=>W|_=>I
def elems(size:U):C→Prog (L (L D))|.d .nil=>.ret []|.d (.sl e xs)=>do need (e=size∧isMap e=I);.ret xs|.aS r j hv cv e _ xs=>.get r λx=>do need (x.hv=hv∧x.cv=cv∧alive x j=W∧e=size∧isMap e=I);.ret xs|_=>.fail
def ft(k:ln)(n:M):SV:=.one (.d (.int k n))
def iC(b:ao):SV:=.one (.d (.bool b))
def sc(op:iL)(k:ln)(a b:M):Prog SV:=
 match op with|.add=>.ret (ft k (k.wrap (a+b)))|.sub=>.ret (ft k (k.wrap (a-b)))|.mul=>.ret (ft k (k.wrap (a*b)))|.quo=>do need (b≠0);.ret (ft k (k.wrap (a.tdiv b)))|.rem=>do need (b≠0);.ret (ft k (a.tmod b))|.and=>.ret (ft k (k.wrap ((lp k.bits a &&& lp k.bits b).toNat)))|.or=>.ret (ft k (k.wrap ((lp k.bits a ||| lp k.bits b).toNat)))|.xor=>.ret (ft k (k.wrap ((lp k.bits a ^^^ lp k.bits b).toNat)))|.andNot=>.ret (ft k (k.wrap ((lp k.bits a &&& ~~~(lp k.bits b)).toNat)))|.eql=>.ret (iC (a==b))|.neq=>.ret (iC (a !=b))|.lss=>.ret (iC (a<b))|.leq=>.ret (iC (a≤b))|.gtr=>.ret (iC (a>b))|.geq=>.ret (iC (a≥b))|_=>.fail
def AJ(op:iL)(a b:L ai):Prog SV:=
 match op with|.add=>do need (a.length+b.length≤2 ^ 60);.ret (.one (.d (.str (a++b))))|.eql=>.ret (iC (decide (a=b)))|.neq=>.ret (iC (!decide (a=b)))|.lss=>.ret (iC (lY a b))|.leq=>.ret (iC (lY a b||decide (a=b)))|.gtr=>.ret (iC (!(lY a b||decide (a=b))))|.geq=>.ret (iC (!lY a b))|_=>.fail
def vh:C→Q ao|.d .nil=>J W|.d (.sl e _)=>if isMap e=W then O else J I|.own e _=>if isMap e=W then O else J I|.aS _ _ _ _ e _ _=>if isMap e=W then O else J I|_=>O
def FD(cfg:bg)(t:aW)(op:iL)(x:C):Prog SV:=
 match cfg.ti t,op,vh x with|some {kind:=.slice _, ..},.eql,J b=>.ret (iC b)|some {kind:=.slice _, ..},.neq,J b=>.ret (iC (!b))|_,_,_=>.fail
def qK(cfg:bg)(t:aW)(op:iL)(x y:C):Prog SV:=
 match x,y with
 |.d (.int k a),.d (.int k' b)=>
  match op with|.shl=>do need (0≤b);.ret (ft k (k.wrap (a*2 ^ (min b.toNat k.bits))))|.shr=>do need (0≤b);.ret (ft k (a.fdiv (2 ^ (min b.toNat k.bits))))|op=>if k=k' then sc op k a b else .fail
 |.d (.str a),.d (.str b)=>AJ op a b|.d (.bool a),.d (.bool b)=>
  match cfg.ti t,op with|some {kind:=.bool, ..},.eql=>.ret (iC (a==b))|some {kind:=.bool, ..},.neq=>.ret (iC (!(a==b)))|_,_=>.fail
 |x,.d .nil=>FD cfg t op x|_,_=>.fail
def iD:D→D→ao|.int _ a,.int _ b=>a==b|.bool a,.bool b=>a==b|.str a,.str b=>decide (a=b)|_,_=>I
def cP:L D→L D→ao|[],[]=>W|x::xs,y::ys=>iD x y&&cP xs ys|_,_=>I
def iP:L C→Q (L D)
 |[]=>J []|.d x::cs=>match iP cs with|some ds=>J (x::ds)|none=>O
 |_::_=>O
def FE(cfg:bg)(t:aW)(op:iL)(xs ys:L C):Prog SV:=
 match lk t cfg.eqs,op,iP xs,iP ys with|some sh,.eql,J ds,J es=>if bM sh ds&&bM sh es then .ret (iC (cP ds es))else .fail|some sh,.neq,J ds,J es=>if bM sh ds&&bM sh es then .ret (iC (!cP ds es))else .fail|_,_,_,_=>.fail
def kL(i:TI)(cs:L C)(off:U):Prog SV:=do
 need (0<i.size∧off+i.size≤cs.length)
 if i.kind.agg then .ret (.agg ((cs.drop off).take i.size))
 else match cs[off]? with|some .dead=>.fail|some c=>.ret (.one c)|none=>.fail
def qL(i:TI):C→Prog SV
 |.ptr k off=>.get (.box k) λx=>
  match x.v with|.agg cs=>kL i (gI (.box k) x 0 cs) off|_=>.fail
 |.ea r j hv _ n off=>.get r λx=>do
  need (x.hv=hv)
  match x.at j with
  |.own _ ys|.d (.sl _ ys)=>match ys[n]? with|some ds=>kL i (ds.map .d) off|none=>.fail
  |_=>.fail
 |.da ds=>kL i (ds.map .d) 0|_=>.fail
def splice{α:Type}(l:L α)(off:U)(m:L α):L α:=l.take off++m++l.drop (off+m.length)
def AK(take:aD→ao)(i:TI)(a:C)(v:SV):Prog bu:=
 match a,v.ew with
 |.ptr k off,J cs=>do
  need (cs.length=i.size)
  let b ←np (λn=>(.box k,off+n)) take 0 cs
  .get (.box k) λx=>
   match x.v with
   |.agg old=>do
    need (off+i.size≤old.length)
    dn (.box k) {hv:=x.hv+1,cv:=x.cv,v:=.agg (splice old off b)}
   |_=>.fail
 |.ea r j hv _ n off,J cs=>do
  need (cs.length=i.size)
  let ds ←nr cs
  .get r λx=>do
   need (x.hv=hv∧r.isArg=I)
   match x.at j with
   |.own e ys=>match ys[n]? with
    |some row=>do
     need (off+i.size≤row.length)
     dn r {x with cv:=x.cv+1,v:=x.v.setCell j (.own e (ys.set n (splice row off ds)))}
    |none=>.fail
   |_=>.fail
 |_,_=>.fail
def AL(cfg:bg)(t:aW)(c:C)(f:U):Prog C:=
 match cfg.ti t with
 |some {kind:=.struct fs, ..}=>match fs[f]? with
  |some (o,a)=>match cfg.ti a with
   |some i=>do
    need (i.size≠0)
    match c with|.ptr k off=>.ret (.ptr k (off+o))|.ea r j hv e n off=>.ret (.ea r j hv e n (off+o))|.da ds=>do need (o≤ds.length);.ret (.da (ds.drop o))|_=>.fail
   |none=>.fail
  |none=>.fail
 |_=>.fail
def FF(cfg:bg)(t:aW)(g:U)(n:M):Prog C:=
 match lk g cfg.qJ,cfg.ti t with
 |some l,J {kind:=.array len a, ..}=>match cfg.ti a with|some i=>do need (0≤n∧n<len);need (len=l.length∧i.size=1);.ret (.da [.int .u64 (l.getD n.toNat 0)])|none=>.fail
 |_,_=>.fail
def AN(cfg:bg)(t:aW)(c:C)(n:M):Prog C:=
 match cfg.ti t with
 |some {kind:=.slice a, ..}=>match cfg.ti a with
  |some i=>match c with
   |.aS r j hv _ e k xs=>do need (0≤n∧n<xs.length);need (i.size=e∧isMap e=I);.ret (.ea r j hv e (k+n.toNat) 0)|.d (.sl e xs)=>do
    need (0≤n∧n<xs.length);need (i.size=e∧isMap e=I)
    match xs[n.toNat]? with|some ds=>.ret (.da ds)|none=>.fail
   |_=>.fail
  |none=>.fail
 |some {kind:=.array len a, ..}=>match cfg.ti a with
  |some i=>match c with|.ptr k off=>do need (0≤n∧n<len);.ret (.ptr k (off+n.toNat*i.size))|_=>.fail
  |none=>.fail
 |_=>.fail
def AO(cfg:bg)(t:aW)(v:SV)(n:M):Prog SV:=
 match cfg.ti t,v with
 |some {kind:=.str, ..},.one (.d (.str s))=>do
  need (0≤n)
  match s[n.toNat]? with|some b=>.ret (ft .u8 b.toNat)|none=>.fail
 |some {kind:=.array len a, ..},.agg cs=>match cfg.ti a with|some i=>do need (0≤n∧n<len);kL i cs (n.toNat*i.size)|none=>.fail
 |_,_=>.fail
def pG(a:ao)(v:SV):Prog SV:=
 match a,v with|true,.one (.d (.str s))=>.ret (ft .i64 s.length)|false,.one (.d .nil)=>.ret (ft .i64 0)|false,.one (.d (.sl e xs))=>do need (isMap e=I);.ret (ft .i64 xs.length)|false,.one (.aS _ _ _ _ e _ xs)=>do need (isMap e=I);.ret (ft .i64 xs.length)|_,_=>.fail
def fill(cells:L C):L (U×L C)→L C|[]=>cells|(off,cs)::r=>fill (splice cells off cs) r
def partsOf(fs:L (U×aW))(cfg:bg):L (U×bO)→Prog (L (U×L C))
 |[]=>.ret []|(i,o)::r=>do
  let v ←ev o
  match fs[i]?,v.ew with
  |some (off,t),J cs=>match cfg.ti t with|some ti=>do need (cs.length=ti.size);let rest ←partsOf fs cfg r;.ret ((off,cs)::rest)|none=>.fail
  |_,_=>.fail
def FG(cfg:bg)(t:aW)(parts:L (U×bO)):Prog SV:=
 match cfg.ti t with
 |some {kind:=.struct fs,size,zero:=J z, ..}=>do
  need (z.length=size∧∀p∈fs,(cfg.ti p.2).isSome=W)
  let ps ←partsOf fs cfg parts
  need (∀p∈ps,p.1+p.2.length≤size)
  .ret (.agg (fill (z.map .d) ps))
 |some {kind:=.array n a,size,zero:=J z, ..}=>match cfg.ti a with
  |some i=>do
   need (z.length=size)
   let ps ←partsOf ((List.range n).map λj=>(j*i.size,a)) cfg parts
   need (∀p∈ps,p.1+p.2.length≤size)
   .ret (.agg (fill (z.map .d) ps))
  |none=>.fail
 |_=>.fail
def rowsOf(size:U):L (U×bO)→L (L D)→Prog (L (L D))
 |[],rows=>.ret rows|(i,o)::r,rows=>do
  let v ←ev o
  match v.ew with
  |some cs=>do
   need (cs.length=size∧i<rows.length)
   let ds ←nr cs
   rowsOf size r (rows.set i ds)
  |none=>.fail
def FH(cfg:bg)(t:aW)(len:U)(parts:L (U×bO)):Prog SV:=
 match cfg.ti t with
 |some {kind:=.slice a, ..}=>match cfg.ti a with
  |some i=>match i.zero with
   |some z=>do
    need (z.length=i.size∧0<i.size∧len*i.size≤2 ^ 24∧isMap i.size=I)
    let rows ←rowsOf i.size parts (dk len z)
    .ret (.one (.own i.size rows))
   |none=>.fail
  |none=>.fail
 |_=>.fail
def FI(cfg:bg)(t:aW)(len cap:M):Prog SV:=
 match cfg.ti t with
 |some {kind:=.slice a, ..}=>match cfg.ti a with
  |some i=>match i.zero with
   |some z=>do
    need (z.length=i.size∧0<i.size∧i.bytes≤2 ^ 10∧isMap i.size=I)
    need (0≤len∧len≤cap∧cap≤2 ^ 36)
    .ret (.one (.own i.size (dk len.toNat z)))
   |none=>.fail
  |none=>.fail
 |_=>.fail
def vi(i:TI)(c:C)(ys:L (L D)):Prog SV:=do
 need (0<i.size∧0<i.bytes∧i.bytes≤2 ^ 10∧(i.zero.map (·.length))=J i.size∧isMap i.size=I)
 match c with
 |.d .nil=>do
  need (ys.length≤2 ^ 36)
  if ys=[]then .ret (.one (.d .nil))else .ret (.one (.own i.size ys))
 |.aS r j hv cv e k xs=>.get r λx=>do
  need (x.hv=hv∧x.cv=cv∧e=i.size∧r.isArg=I)
  match x.at j with
  |.own _ a=>do
   need (k+xs.length=a.length)
   need (xs.length+ys.length≤2 ^ 36)
   ov r j x
   .ret (.one (.own e (xs++ys)))
  |_=>.fail
 |_=>.fail
def L2(c:C):Prog SV:=
 match c with|.d .nil=>.ret (.one (.d (.int .i64 0)))|_=>.fail
def ye(i:TI)(c:C)(n:M):Prog SV:=
 match c,i.zero with
 |.d .nil,J z=>do
  need (z.length=i.size∧0<i.size∧0<i.bytes∧i.bytes≤2 ^ 10∧isMap i.size=I)
  need (0≤n∧n≤2 ^ 36)
  if n.toNat=0 then .ret (.one (.d .nil))else .ret (.one (.own i.size (dk n.toNat z)))
 |_,_=>.fail
def vj(cfg:bg)(i:TI)(t:aW)(c:C):Prog (L (L D)):=
 match cfg.ti t,c with|some {kind:=.str, ..},.d (.str s)=>do need (i.size=1);.ret (s.map λb=>[.int .u8 b.toNat])|some {kind:=.slice _, ..},c=>elems i.size c|_,_=>.fail
def FJ(v:SV)(lo hi:Q M):Prog SV:=
 match v with
 |.one (.d (.str s))=>do
  let h:=hi.getD s.length
  let l:=lo.getD 0
  need (0≤l∧l≤h∧h≤s.length)
  .ret (.one (.d (.str ((s.take h.toNat).drop l.toNat))))
 |_=>.fail
def pH(size:U)(v:SV)(lo hi:Q M):Prog SV:=
 match v with
 |.one (.d .nil)=>do
  need (lo.getD 0=0∧hi.getD 0=0)
  .ret (.one (.d .nil))
 |.one (.d (.sl e xs))=>do
  let h:=hi.getD xs.length
  let l:=lo.getD 0
  need (0≤l∧l≤h∧h≤xs.length)
  need (e=size∧isMap e=I)
  .ret (.one (.d (.sl e ((xs.take h.toNat).drop l.toNat))))
 |.one (.aS r j hv cv e k xs)=>do
  let h:=hi.getD xs.length
  let l:=lo.getD 0
  need (0≤l∧l≤h∧h≤xs.length)
  need (e=size∧isMap e=I)
  .ret (.one (.aS r j hv cv e (k+l.toNat) ((xs.take h.toNat).drop l.toNat)))
 |_=>.fail
def sd(cfg:bg)(src dst:aW)(v:SV):Prog SV:=
 match cfg.ti src,cfg.ti dst,v with
 |some _,J {kind:=.int k, ..},.one (.d (.int _ n))=>.ret (ft k (k.wrap n))|some _,J {kind:=.str, ..},.one (.d (.str s))=>.ret (.one (.d (.str s)))|some _,J {kind:=.slice a, ..},.one (.d (.str s))=>match cfg.ti a with|some {kind:=.int .u8,size:=1, ..}=>.ret (.one (.own 1 (s.map λb=>[.int .u8 b.toNat])))|_=>.fail
 |some {kind:=.slice a, ..},J {kind:=.str, ..},.one c=>match cfg.ti a with
  |some {kind:=.int .u8,size:=1, ..}=>do
   let xs ←elems 1 c
   match xs.mapM (λx=>match x with|[.int .u8 n]=>J (je n.toNat)|_=>O)with|some l=>.ret (.one (.d (.str l)))|none=>.fail
  |_=>.fail
 |_,_,_=>.fail
def cB(ki ei:TI):U:=ou ki.size ki.kind.agg ei.size ei.kind.agg
def ib(cfg:bg)(t:aW):Q (aW×TI×TI):=
 match cfg.ti t with
 |some {kind:=.map kt a, ..}=>match cfg.ti kt,cfg.ti a with|some ki,J ei=>if ki.size<32768∧ei.size<32768 then J (kt,ki,ei)else O|_,_=>O
 |_=>O
def pI(cfg:bg)(kt:aW):Q (L Sc):=
 match cfg.ti kt with|some {kind:=.int k, ..}=>J [.int k]|some {kind:=.str, ..}=>J [.str]|some {kind:=.bool, ..}=>J [.bool]|some {kind:=.struct _, ..}=>lk kt cfg.eqs|_=>O
def dv(n:U)(ks:L D):L (L D)→Q U|[]=>O|x::xs=>if cP ks (x.take n)=W then J 0 else(dv n ks xs).map (·+1)
def ly(e:U):C→Prog (L (L D))
 |.d (.ck .map)=>.ret []|.d (.sl a xs)=>do need (a=e∨a=iO e);.ret xs|.aS r j hv _ a _ _=>.get r λx=>do
  need (x.hv=hv∧(a=e∨a=iO e))
  match x.at j with|.own _ ys=>.ret ys|.d (.sl _ ys)=>.ret ys|_=>.fail
 |_=>.fail
def jH(sh:L Sc)(n:U)(xs:L (L D)):ao:=xs.all λx=>bM sh (x.take n)
def SV.isAgg:SV→ao|.agg _=>W|_=>I
def SV.key(v:SV):Q (L D):=match v.ew with|some cs=>iP cs|none=>O
def oy(agg:ao)(ds:L D):Prog SV:=
 match agg with
 |true=>.ret (.agg (ds.map .d))|false=>match ds with|[d]=>.ret (.one (.d d))|_=>.fail
def gv(n:U)(xs:L (L D))(z:L D):Q U→L D|some i=>(xs.getD i []).drop n|none=>z
def gX(cfg:bg)(t:aW)(c:C)(a:SV)(ok:ao):Prog SV:=
 match ib cfg t with
 |some (kt,ki,ei)=>match pI cfg kt,a.key,ei.zero with
  |some sh,J kd,J z=>do
   need (bM sh kd=W∧kd.length=ki.size∧a.isAgg=ki.kind.agg∧z.length=ei.size∧(ei.kind.agg=W∨ei.size=1))
   let xs ←ly (cB ki ei) c
   need (jH sh ki.size xs=W)
   match ok with|true=>.ret (.aX [(ei.kind.agg,(gv ki.size xs z (dv ki.size kd xs)).map .d),(I,[.d (.bool (dv ki.size kd xs).isSome)])])|false=>oy ei.kind.agg (gv ki.size xs z (dv ki.size kd xs))
  |_,_,_=>.fail
 |none=>.fail
def AP(n:U)(kd vd:L D)(xs:L (L D)):L (L D):=
 match dv n kd xs with|some i=>xs.set i (kd++vd)|none=>xs++[kd++vd]
def L4:L ai→L ai→ao|[],_::_=>W|a::l,b::m=>Nat.blt a.toNat b.toNat||(Nat.beq a.toNat b.toNat&&L4 l m)|_,[]=>I
def yf:D→D→ao|.int _ a,.int _ b=>decide (a<b)|.bool a,.bool b=> !a&&b|.str a,.str b=>L4 a b|_,_=>I
def nt:L D→L D→ao|a::l,b::m=>yf a b||(iD a b&&nt l m)|_,_=>I
def yg(n:U)(kd row:L D):L (L D)→L (L D)|[]=>[row]|x::xs=>if nt kd (x.take n)=W then row::x::xs else x::yg n kd row xs
def FK(n:U)(kd vd:L D)(xs:L (L D)):L (L D):=
 match dv n kd xs with|some i=>xs.set i (kd++vd)|none=>yg n kd (kd++vd) xs
def putRow(un:ao)(n:U)(kd vd:L D)(xs:L (L D)):L (L D):=
 match un with|true=>FK n kd vd xs|false=>AP n kd vd xs
def vk(cfg:bg)(t:aW)(c:C)(a b:SV):Prog bu:=
 match ib cfg t with
 |some (kt,ki,ei)=>match pI cfg kt,a.key,b.ew with
  |some sh,J kd,J d=>do
   need (bM sh kd=W∧kd.length=ki.size∧a.isAgg=ki.kind.agg∧d.length=ei.size∧b.isAgg=ei.kind.agg)
   let vd ←nr d
   match c with
   |.aS r j hv _ e _ _=>.get r λx=>do
    need (x.hv=hv∧r.isArg=I∧(e=cB ki ei∨e=iO (cB ki ei)))
    match x.at j with
    |.own f xs=>do
     need (jH sh ki.size xs=W)
     dn r {x with cv:=x.cv+1,v:=x.v.setCell j (.own f (putRow (fP f) ki.size kd vd xs))}
    |_=>.fail
   |_=>.fail
  |_,_,_=>.fail
 |none=>.fail
def vl(cfg:bg)(t:aW)(c:C)(a:SV):Prog SV:=
 match ib cfg t with
 |some (kt,ki,ei)=>match pI cfg kt,a.key,ei.zero with
  |some sh,J kd,J z=>do
   need (bM sh kd=W∧kd.length=ki.size∧a.isAgg=ki.kind.agg∧z.length=ei.size∧(ei.kind.agg=W∨ei.size=1))
   match c with
   |.aS r j hv _ e _ _=>.get r λx=>do
    need (x.hv=hv∧r.isArg=I∧e=cB ki ei)
    match x.at j with
    |.own b xs=>do
     need (jH sh ki.size xs=W)
     dn r {x with cv:=x.cv+1,v:=x.v.setCell j (.own b (if(dv ki.size kd xs).isSome=W then xs else xs++[kd++z]))}
     .ret (.aX [(ei.kind.agg,(gv ki.size xs z (dv ki.size kd xs)).map .d),(I,[.d (.int .i64 ((dv ki.size kd xs).getD xs.length:U))])])
    |_=>.fail
   |_=>.fail
  |_,_,_=>.fail
 |none=>.fail
def AQ(cfg:bg)(t:aW)(c st:C)(a:SV):Prog bu:=
 match ib cfg t,st,a.ew with
 |some (_,ki,ei),.d (.int _ n),J b=>do
  need (b.length=ei.size∧a.isAgg=ei.kind.agg)
  let vd ←nr b
  match c with
  |.aS r j hv _ e _ _=>.get r λx=>do
   need (x.hv=hv∧r.isArg=I∧e=cB ki ei)
   match x.at j with
   |.own f xs=>do
    need (0≤n∧n<xs.length)
    dn r {x with cv:=x.cv+1,v:=x.v.setCell j (.own f (xs.set n.toNat ((xs.getD n.toNat []).take ki.size++vd)))}
   |_=>.fail
  |_=>.fail
 |_,_,_=>.fail
def AU(cfg:bg)(t:aW)(dst:U):Prog SV:=
 match ib cfg t with|some (_,ki,ei)=>.ret (.one (.own (AH (cfg.un.contains dst) (cB ki ei)) []))|none=>.fail
def yh(cfg:bg)(t:aW)(c:C):Prog SV:=
 match ib cfg t with
 |some (_,ki,ei)=>do
  let xs ←ly (cB ki ei) c
  .ret (ft .i64 xs.length)
 |none=>.fail
def FL(cfg:bg)(t:aW)(c:C):Prog SV:=
 match ib cfg t with
 |some (_,ki,ei)=>do
  let d ←kK c
  match d with|.sl e xs=>do need (e=cB ki ei);.ret (.one (.own mg [[.sl e xs],[]]))|_=>.fail
 |none=>.fail
def oz(em:U)(row:L D):L (ao×L C):=[(va em,(row.take (r9 em)).map .d),(vf em,(row.drop (r9 em)).map .d)]
def TO(c:C):Prog SV:=
 match c with
 |.aS r j hv _ e _ _=>.get r λx=>do
  need (x.hv=hv∧r.isArg=I∧eC e=W)
  match x.at j with
  |.own a [[.sl em []],[]]=>do need (a=e);.ret (.aX [(I,[.d (.bool I)])])|.own a [[.sl em [row]],[]]=>do
   dn r {x with cv:=x.cv+1,v:=x.v.setCell j (.own a [[.sl em [row]],[.int .i64 0]])}
   .ret (.aX ((I,[.d (.bool W)])::oz em row))
  |.own a [[.sl em [row]],[.int .i64 0]]=>do need (a=e);.ret (.aX [(I,[.d (.bool I)])])|_=>.fail
 |_=>.fail
def FM(c:C):Prog SV:=
 match c with
 |.aS r j hv _ e _ _=>.get r λx=>do
  need (x.hv=hv∧r.isArg=I∧eC e=W)
  match x.at j with|.own _ [[.sl em rows],.int .i64 n::_]=>do need (0≤n∧n.toNat<rows.length);.ret (.aX (oz em (rows.getD n.toNat [])))|_=>.fail
 |_=>.fail
def fZ:L C→L Key|[]=>[]|.ptr k _::cs=>k::fZ cs|.cy _ caps::cs=>caps.map (·.1)++fZ cs|_::cs=>fZ cs
def dedup:L Key→L Key|[]=>[]|k::r=>k::(dedup r).filter (·≠k)
def idx(k:Key):L Key→U|[]=>0|k'::r=>if k=k' then 0 else idx k r+1
def nu(cfg:bg):C→Prog C|.aS (.tmp u) j hv cv e k xs=>if cfg.keep u then .ret (.aS (.tmp u) j hv cv e k xs)else do let x ←kK (.aS (.tmp u) j hv cv e k xs);.ret (.d x)|.aS (.box q) j hv cv e k xs=>if cfg.pE then(do let x ←kK (.aS (.box q) j hv cv e k xs);.ret (.d x))else .ret (.aS (.box q) j hv cv e k xs)|c=>.ret c
def vm(cfg:bg):L C→Prog (L C)|[]=>.ret []|c::cs=>do let a ←nu cfg c;let r ←vm cfg cs;.ret (a::r)
def oA(cfg:bg):SV→Prog SV|.one c=>do .ret (.one (←nu cfg c))|.agg cs=>do .ret (.agg (←vm cfg cs))|_=>.fail
def yi(cfg:bg):L SV→Prog (L SV)|[]=>.ret []|v::vs=>do let a ←oA cfg v;let r ←yi cfg vs;.ret (a::r)
def canon(ks:L Key):C→Prog C
 |.d x=>.ret (.d x)|.aS r j hv cv e _ xs=>.get r λx=>do
  need (x.hv=hv∧x.cv=cv)
  match x.at j with
  |.own _ _=>do
   need (∀k∈ks,r≠.box k)
   .ret (.own e xs)
  |.d (.sl _ _)=>.ret (.d (.sl e xs))|_=>.fail
 |.ptr k off=>.ret (.ptr (.inb (idx k ks)) off)|.cy f caps=>.ret (.cy f (caps.map λp=>(.inb (idx p.1 ks),p.2)))|_=>.fail
def qM(ks:L Key):L C→Prog (L C)|[]=>.ret []|c::cs=>do let a ←canon ks c;let r ←qM ks cs;.ret (a::r)
def mo(ks:L Key):SV→Prog SV|.one c=>do .ret (.one (←canon ks c))|.agg cs=>do .ret (.agg (←qM ks cs))|_=>.fail
def se(ks:L Key):L SV→Prog (L SV)|[]=>.ret []|v::vs=>do let a ←mo ks v;let r ←se ks vs;.ret (a::r)
def plain:C→ao|.d _|.own _ _=>W|_=>I
def tok(ks:L Key):C→ao|.d _|.own _ _|.dead=>W|.ptr k _=>ks.contains k|_=>I
def tc(ks:L Key):C→C|.ptr k off=>.ptr (.inb (idx k ks)) off|c=>c
def ic(n:U):C→ao|.d _|.own _ _|.dead=>W|.ptr (.inb i) _=>decide (i<n)|_=>I
def bc(ks:L Key):C→C|.ptr (.inb i) off=>.ptr (ks.getD i default) off|c=>c
def vn(a:L Key):L Key→Prog (L (L C))
 |[]=>.ret []|k::ks=>.get (.box k) λx=>match x.v with|.agg cs=>do need (cs.all (tok a)=W);let r ←vn a ks;.ret (cs.map (tc a)::r)|_=>.fail
def yj:L Key→Prog (L Key)
 |[]=>.ret []|k::ks=>.get (.box k) λx=>match x.v with|.agg cs=>do let r ←yj ks;.ret (fZ cs++r)|_=>.fail
def sf:SV→L C→ao|.agg [.ptr k off],[.ptr k' a]=>decide (k=k')&&Nat.beq off a|_,_=>I
def pJ(a:L Key):L Key→L (L C)→Prog bu
 |[],[]=>.ret ()|k::ks,b::c=>.get (.box k) λx=>do
  need (b.all (ic a.length)=W)
  match sf x.v (b.map (bc a))with|true=>pJ a ks c|false=>do dn (.box k) {hv:=x.hv+1,cv:=x.cv,v:=.agg (b.map (bc a))};pJ a ks c
 |_,_=>.fail
def escape(t:U):U→L (L C)→Prog bu
 |_,[]=>.ret ()|i,b::a=>.get (.box (.esc t i)) λx=>match x.v with|.undef=>do need (b.all plain=W);dn (.box (.esc t i)) {hv:=x.hv+1,cv:=x.cv,v:=.agg b};escape t (i+1) a|_=>.fail
def yk(args:L SV)(l:L (U×U)):ao:=
 l.all λp=>match(args.getD p.1 .undef).cells.getD p.2 .dead with|.d _=>W|_=>I
def nw(v:SV)(j:U):SV:=
 match v.cells.getD j .dead with|.own e ys=>v.setCell j (.d (.sl e ys))|_=>v
def jI:L (U×U)→L SV→L SV|[],args=>args|(i,j)::r,args=>jI r (args.set i (nw (args.getD i .undef) j))
def L5(ks:L Key)(t:U):Key→Key|.inb i=>if i<ks.length then ks.getD i default else .esc t (i-ks.length)|k=>k
def back(ks:L Key)(t:U):C→Prog C|.d x=>.ret (.d x)|.own e xs=>.ret (.own e xs)|.ptr (.inb i) off=>.ret (.ptr (L5 ks t (.inb i)) off)|.cy f caps=>do need (caps=[]);.ret (.cy f [])|_=>.fail
def pK(ks:L Key)(t:U):L C→Prog (L C)|[]=>.ret []|c::cs=>do let a ←back ks t c;let r ←pK ks t cs;.ret (a::r)
def qN(ks:L Key)(t:U):L (ao×L C)→Prog (L (ao×L C))|[]=>.ret []|(b,cs)::vs=>do let a ←pK ks t cs;let r ←qN ks t vs;.ret ((b,a)::r)
def jJ(ks:L Key)(t:U):SV→Prog SV|.one c=>do .ret (.one (←back ks t c))|.agg cs=>do .ret (.agg (←pK ks t cs))|.aX vs=>do .ret (.aX (←qN ks t vs))|.undef=>.fail
def FN(cfg:bg)(f:cY)(b:L SV)(t:U):Prog SV:=
 match cfg.Γ t f with
 |none=>.fail|some F=>do
  let args ←yi cfg b
  let more ←yj (dedup (fZ (args.flatMap SV.cells)))
  let ks:=dedup (fZ (args.flatMap SV.cells)++more)
  let a ←se ks args
  let c ←vn ks ks
  match F a c with
  |none=>.fail|some r=>do
   need (ks.length≤r.boxes.length∧yk a r.bR=W)
   pJ ks ks (r.boxes.take ks.length)
   escape t 0 (r.boxes.drop ks.length)
   jJ ks t r.v
def FO(o:bO):Prog (cY×L SV):=
 match o with
 |.func f=>.ret (f,[])|o=>do
  match ←dc o with|.cy f caps=>.ret (f,caps.map λp=>.one (.ptr p.1 p.2))|_=>.fail
def qO(u:bO)(r:aD):ao:=
 match u,r with|.tmp u,.tmp t=>t==u|_,_=>I
def isVar(cfg:bg)(o:bO):ao:=
 match o with|.tmp u=>cfg.var.contains u|_=>I
def TP(cfg:bg)(dst:U)(r:aD):ao:=
 match r with|.tmp u=> !cfg.var.contains u||cfg.res.contains dst|.box (.loc _)=>cfg.res.contains dst|_=>I
def AV(cfg:bg)(c:C)(r:aD):ao:=
 match r with
 |.tmp u=> !cfg.var.contains u||(match c with|.ptr (.loc t) _=>cfg.res.contains t|_=>I)
 |.box (.loc _)=>(match c with|.ptr (.loc t) _=>cfg.res.contains t|_=>I)
 |_=>I
def si(self:aD×U)(u:bO):C→Prog C|.aS r j hv cv e k xs=>if qO u r then mm (J self) (qO u) (.aS r j hv cv e k xs)else .ret (.aS r j hv cv e k xs)|c=>.ret c
def sj(r:aD)(u:bO):U→L C→Prog (L C)|_,[]=>.ret []|i,c::cs=>do let b ←si (r,i) u c;let a ←sj r u (i+1) cs;.ret (b::a)
def vo(r:aD)(u:bO):U→L (ao×L C)→Prog (L (ao×L C))|_,[]=>.ret []|i,(b,cs)::vs=>do let a ←sj r u i cs;let c ←vo r u (i+cs.length) vs;.ret ((b,a)::c)
def kq(r:aD)(u:bO):SV→Prog SV|.one c=>do .ret (.one (←si (r,0) u c))|.agg cs=>do .ret (.agg (←sj r u 0 cs))|.aX vs=>do .ret (.aX (←vo r u 0 vs))|.undef=>.fail
def sk:Q bO→Prog (Q M)|none=>.ret O|some o=>do .ret (J (←nk (←dc o)))
def AW(c:ao):L SV→Prog SV|[.one (.d (.int k a)),.one (.d (.int _ b))]=>.ret (ft k (if c then(if b<a then b else a)else(if b>a then b else a)))|_=>.fail
def bE(cfg:bg)(op:Op)(dst:U):Prog SV:=
 match op with
 |.move x=>do
  let v ←ev x
  if isVar cfg x then .ret v else kq (.tmp dst) x v
 |.assign x=>do
  let v ←ev x
  lx (.tmp dst) (TP cfg dst) v
 |.pick c a b=>do
  let b' ←yd (←dc c)
  if b'=W then ev a else ev b
 |.alloc t=>match cfg.ti t with
  |some {size,zero:=J z, ..}=>do
   need (z.length=size)
   .get (.box (.loc dst)) λx=>match x.v with|.undef=>do dn (.box (.loc dst)) {hv:=x.hv+1,cv:=x.cv,v:=.agg (z.map .d)};.ret (.one (.ptr (.loc dst) 0))|_=>.fail
  |_=>.fail
 |.box _ x=>do
  let v ←ev x
  match v.ew with
  |some cs=>do
   let cs' ←np (λn=>(.box (.loc dst),n)) (AV cfg (.ptr (.loc dst) 0)) 0 cs
   .get (.box (.loc dst)) λx=>match x.v with|.undef=>do dn (.box (.loc dst)) {hv:=x.hv+1,cv:=x.cv,v:=.agg cs'};.ret (.one (.ptr (.loc dst) 0))|_=>.fail
  |none=>.fail
 |.build t ps=>FG cfg t ps.toList|.buildSlice t len ps=>FH cfg t len ps.toList|.load t a=>match cfg.ti t with|some i=>do qL i (←dc a)|none=>.fail
 |.nilCheck x=>do
  match ←dc x with|.ptr k o=>.ret (.one (.ptr k o))|.ea r j hv e i o=>.ret (.one (.ea r j hv e i o))|.da ds=>.ret (.one (.da ds))|_=>.fail
 |.binOp op t x y _=>do
  match ←ev x,←ev y with|.one a,.one b=>qK cfg t op a b|.agg xs,.agg ys=>FE cfg t op xs ys|_,_=>.fail
 |.unOp op _ x=>do
  match op,←dc x with|.neg,.d (.int k n)=>.ret (ft k (k.wrap (0-n)))|.xor,.d (.int k n)=>sc .xor k (if k.signed then-1 else k.max) n|.not,.d (.bool b)=>.ret (iC (!b))|_,_=>.fail
 |.convert s t x=>do sd cfg s t (←ev x)|.makeFunc (.func f) first captured=>do
  need (first=#[])
  let vs ←pF captured.toList
  match vs.mapM (λv=>match v with|.one (.ptr k o)=>J (k,o)|_=>O)with|some l=>.ret (.one (.cy f l))|none=>.fail
 |.makeSlice t l c=>do
  let n ←nk (←dc l)
  let m ←nk (←dc c)
  FI cfg t n m
 |.slice t x lo hi O=>match cfg.ti t with
  |some {kind:=.str, ..}=>do
   let v ←ev x
   let l ←sk lo
   let h ←sk hi
   FJ v l h
  |some {kind:=.slice et, ..}=>match cfg.ti et with
   |some i=>do
    let v ←ev x
    let l ←sk lo
    let h ←sk hi
    pH i.size v l h
   |none=>.fail
  |_=>.fail
 |.fieldAddr t x f=>do .ret (.one (←AL cfg t (←dc x) f))|.field t x f=>do
  match cfg.ti t,←ev x with
  |some {kind:=.struct fs, ..},.agg cs=>match fs[f]? with
   |some (o,ft')=>match cfg.ti ft' with|some i=>kL i cs o|none=>.fail
   |none=>.fail
  |_,_=>.fail
 |.indexAddr t x ix=>match x with
  |.global g=>do
   let n ←nk (←dc ix)
   .ret (.one (←FF cfg t g n))
  |x=>do
   let c ←dc x
   let n ←nk (←dc ix)
   .ret (.one (←AN cfg t c n))
 |.index t x ix=>do
  let v ←ev x
  let n ←nk (←dc ix)
  AO cfg t v n
 |.extract x n=>do
  match ←ev x with
  |.aX vs=>match vs[n]? with|some (W,cs)=>kq (.tmp dst) x (.agg cs)|some (I,[c])=>kq (.tmp dst) x (.one c)|_=>.fail
  |_=>.fail
 |.call {callee:=.builtin .len,args,argTypes}=>match args.toList,argTypes.toList with
  |[x],[t]=>match cfg.ti t with|some {kind:=.str, ..}=>do pG W (←ev x)|some {kind:=.slice _, ..}=>do pG I (←ev x)|some {kind:=.map _ _, ..}=>do yh cfg t (←dc x)|_=>.fail
  |_,_=>.fail
 |.makeMap t O=>AU cfg t dst|.lookup t x ix ok=>do
  let c ←dc x
  let v ←ev ix
  gX cfg t c v ok
 |.range t x=>do FL cfg t (←dc x)|.next x I=>do TO (←dc x)|.entry x=>do FM (←dc x)|.mapEntry t m k=>do
  let c ←dc m
  let v ←ev k
  vl cfg t c v
 |.call {callee:=.builtin .append,args,argTypes}=>match args.toList,argTypes.toList with
  |[x,y],[t,t2]=>match cfg.ti t with
   |some {kind:=.slice et, ..}=>match cfg.ti et with
    |some i=>match cfg.ti t2 with
     |some {kind:=.int .i64, ..}=>do
      let c ←dc x
      let n ←nk (←dc y)
      ye i c n
     |_=>do
      let c ←dc x
      let c2 ←dc y
      let ys ←vj cfg i t2 c2
      vi i c ys
    |none=>.fail
   |_=>.fail
  |_,_=>.fail
 |.call {callee:=.builtin .cap,args,argTypes}=>match args.toList,argTypes.toList with
  |[x],[t]=>match cfg.ti t with|some {kind:=.slice _, ..}=>do L2 (←dc x)|_=>.fail
  |_,_=>.fail
 |.call {callee:=.builtin .min,args, ..}=>do AW W (←pF args.toList)|.call {callee:=.builtin .max,args, ..}=>do AW I (←pF args.toList)|.call {callee:=.value o,args, ..}=>do
  let (f,caps) ←FO o
  let vs ←pF args.toList
  FN cfg f (vs++caps) dst
 |_=>.fail
def iQ(cfg:bg)(t:U)(v:SV):Prog bu:=
 .get (.tmp t) λx=>do
  need (t<cfg.N)
  dn (.tmp t) {hv:=x.hv+1,cv:=x.cv,v}
def L6(a:bv ch)(j:U):Prog (Q ao):=
 match(a[j]?).bind (·.dst)with
 |some t=>.get (.tmp t) λx=>match x.v with|.one (.d (.bool b))=>.ret (J b)|.aX []=>.ret O|_=>.fail
 |none=>.fail
def kM(cfg:bg)(o:ch):Prog bu:=
 match o.op,o.dst with
 |.store t a x,O=>match cfg.ti t with
  |some i=>do
   let c ←dc a
   let v ←ev x
   AK (AV cfg c) i c v
  |none=>.fail
 |.mapUpdate t m k x,O|.insert t m k x,O=>do
  let c ←dc m
  let b ←ev k
  let vx ←ev x
  vk cfg t c b vx
 |.entryStore t m st x,O=>do
  let c ←dc m
  let s ←dc st
  let vx ←ev x
  AQ cfg t c s vx
 |op,J d=>do iQ cfg d (←bE cfg op d)|_,O=>.fail
def lz(cfg:bg)(c:bv ch)(o:ch):Prog bu:=
 match o.guard with
 |none=>kM cfg o|some (j,a)=>do
  let b ←L6 c j
  if b=J a then kM cfg o
  else match o.dst with|some d=>iQ cfg d (.aX [])|none=>.ret ()
def pL(cfg:bg)(a:bv ch):L ch→St→Q St
 |[],s=>J s|o::r,s=>match(lz cfg a o).exec s with|some (_,s')=>pL cfg a r s'|none=>O
structure PS where
 slots:List (Nat×SV)
 boxes:List (Key×List C)
 args:List SV
def mq{α:Type}(k:Key):L (Key×α)→Q α|[]=>O|(u,a)::r=>if k=u then J a else mq k r
def PS.st(p:PS):St
 |.tmp t=>{v:=(lk t p.slots).getD .undef}|.box k=>{v:=match mq k p.boxes with|some cs=>.agg cs|none=>.undef}
 |.arg i=>{v:=p.args.getD i .undef}
def iR(s:St)(bk:L Key):C→C|.aS r j hv cv e k xs=>if(s r).hv=hv∧(s r).cv=cv then .aS r j 0 0 e k xs else .dead|.ea _ _ _ _ _ _=>.dead|.ptr k off=>if bk.contains k then .ptr k off else .dead|.cy f caps=>if caps.all (λp=>bk.contains p.1)then .cy f caps else .dead|c=>c
def ie(s:St)(bk:L Key):L C→L C|[]=>[]|c::cs=>iR s bk c::ie s bk cs
def sq(s:St)(bk:L Key):L (ao×L C)→L (ao×L C)|[]=>[]|(b,cs)::r=>(b,ie s bk cs)::sq s bk r
def gJ(s:St)(bk:L Key):SV→SV|.one c=>.one (iR s bk c)|.agg cs=>.agg (ie s bk cs)|.aX vs=>.aX (sq s bk vs)|.undef=>.undef
def AX(t:U)(v:SV)(r:L (U×SV)):L (U×SV):=
 match v with|.undef=>r|v=>(t,v)::r
def vp(k:Key)(v:SV)(r:L (Key×L C)):L (Key×L C):=
 match v with|.agg cs=>(k,cs)::r|_=>r
def yl(s:St)(bk:L Key):L U→L (U×SV)|[]=>[]|t::ts=>AX t (gJ s bk (s (.tmp t)).v) (yl s bk ts)
def ym(s:St)(bk:L Key):L Key→L (Key×L C)|[]=>[]|k::ks=>vp k (gJ s bk (s (.box k)).v) (ym s bk ks)
def sr(s:St)(bk:L Key):U→U→L SV|_,0=>[]|i,n+1=>gJ s bk (s (.arg i)).v::sr s bk (i+1) n
def fin(s:St)(keys:L U)(fQ:L Key)(a:U):PS:={slots:=yl s fQ keys,boxes:=ym s fQ fQ,args:=sr s fQ 0 a}
def aG{α β:Type}(R:α→β→Prop):L α→L β→Prop|[],[]=>cZ|a::as,b::c=>R a b∧aG R as c|_,_=>gT
def L7:NK→Value→Prop|.ptr,v=>v=.pointer O|.func,v=>v=.nilFunc|.iface,v=>v=.nilIface|.map,v=>v=.map O|.chan,v=>v=.chan O
def fH:Value→ao|.agg _|.tuple _=>I|_=>W
def dB:Value→Option Nat|.slice (J a) _ _=>J a.block|.map (J b)=>J b|.pointer (J a)=>J a.block|_=>O
def fu(e b:Nat):Value:=
 match eC e with|true=>.pointer (J ⟨b,0,O⟩)|false=>.map (J b)
theorem kr(e b:Nat):dB (fu e b)=J b:=by unfold fu;split<;>rfl
theorem Ma(e b:Nat):fH (fu e b)=W:=by unfold fu;split<;>rfl
theorem ny{e:Nat}(h:eC e=I)(b:Nat):fu e b=.map (J b):=by simp only[fu,h]
def Mb{e:Nat}(h:eC e=W)(b:Nat):fu e b=.pointer (J ⟨b,0,O⟩):=by simp only[fu,h]
theorem AY{e b c:Nat}(h:fu e b=fu e c):b=c:=by grind [kr]
theorem TQ{e b:Nat}{a:Option dt}{l c:Nat}(h:Value.slice a l c=fu e b):gT:=by grind [fu]
def ae1(x:L D)(rest:L (L D))(since:Nat)(seen:bv Nat)(a:Nat):Prop:=∃e ys,x=[.sl e ys]∧isMap e=W∧eC e=I∧fP e=I∧since=ys.length∧a=ys.length∧rest=[kn seen.toList.reverse]
def gl(agg:ao)(n:Nat)(v:Value):Prop:=
 match agg with|true=>∃cs:bv Value,v=.agg cs∧cs.size=n|false=>fH v=W∧n=1
def nz(en:c7):L Value:=en.key.cells.toList++en.val.cells.toList
def oC(e:Nat)(en:c7):Prop:=gl (va e) (r9 e) en.key∧gl (vf e) (FA e) en.val
structure iS(e bF:Nat)(es:List MapEntry):Prop where
 ok:∀en∈es,oC e en
 born:∀(i:Nat)en,es[i]?=some en→en.born=i
 bF:bF=es.length
 nd:es.Pairwise λa b=>a.key≠b.key
def dK(ps:L (ai×L ai))(c:ai):Option (L ai):=match ps.find? λp=>p.1==c with|some p=>J p.2|none=>O
def AZ(w:World)(Z:Nat→Prop)(l:L ai)(v:Value):Prop:=∃(b o cap:Nat),v=.slice (J ⟨b,o,O⟩) l.length cap∧Z b∧∀(i:Nat)x,l[i]?=J x→w.cell? ⟨b,o+i,O⟩=J (.int .u8 x.toNat)
def pM(w:World)(Z:Nat→Prop)(ps:L (ai×L ai))(b:Nat):Prop:=
 (∀c:ai,∃v,w.cell? ⟨b,c.toNat,O⟩=J v∧match dK ps c with|none=>v=.slice O 0 0|some l=>AZ w Z l v)∧
 ∃(q o cap:Nat),w.cell? ⟨b,256,O⟩=J (.slice (J ⟨q,o,O⟩) ps.length cap)∧Z q∧
  ∀(i:Nat)(c:ai),(ps.reverse.map (·.1))[i]?=J c→w.cell? ⟨q,o+i,O⟩=J (.string ⟨#[c]⟩)
def kN(w:World)(Z:Nat→Prop)(u:aW)(ps:L (ai×L ai))(v:Value):Prop:=
 match ps with|[]=>v=.nilIface|_=>∃b,v=.iface u (.pointer (J ⟨b,0,O⟩))∧Z b∧pM w Z ps b
mutual
def a6(w:World)(Z:Nat→Prop):D→Value→Prop
 |.int k n,v=>v=.int k n|.bool b,v=>v=.bool b|.str s,v=>v=.string ⟨s.toArray⟩|.nil,v=>v=.slice O 0 0|.sl e xs,v=>match isMap e with
  |false=>∃(c:dt)(cap:Nat),v=.slice (J c) xs.length cap∧(cap=0∨c.spot=O∧Z c.block)∧xs.length≤cap∧cH w Z e xs c.block c.off|true=>∃b,v=fu e b∧Z b∧match eC e with|false=>∃(es:bv c7)(bF:Nat)(a:L c7),w.heap[b]?=J (.map es bF)∧iS (oE e) bF es.toList∧eD w Z xs a∧a.Perm es.toList∧(fP e=I→a=es.toList)|true=>ss w Z xs b
 |.ck k,v=>L7 k v|.rep u ps,v=>kN w Z u ps v
def ed(w:World)(Z:Nat→Prop):L D→Nat→Nat→Prop|[],_,_=>cZ|d::ds,b,o=>(∃v,w.cell? ⟨b,o,O⟩=J v∧a6 w Z d v)∧ed w Z ds b (o+1)
def cH(w:World)(Z:Nat→Prop)(e:Nat):L (L D)→Nat→Nat→Prop|[],_,_=>cZ|x::xs,b,o=>x.length=e∧ed w Z x b o∧cH w Z e xs b (o+e)
def iU(w:World)(Z:Nat→Prop):L D→L Value→Prop|[],[]=>cZ|d::ds,v::vs=>a6 w Z d v∧iU w Z ds vs|_,_=>gT
def ss(w:World)(Z:Nat→Prop):L (L D)→Nat→Prop|x::rest,b=>∃(m since:Nat)(seen:bv Nat)(a:Nat),w.heap[b]?=J (.mapIter (J m) since seen a)∧iU w Z x [.map (J m)]∧ae1 x rest since seen a|[],_=>gT
def eD(w:World)(Z:Nat→Prop):L (L D)→L c7→Prop|[],[]=>cZ|x::xs,en::es=>iU w Z x (nz en)∧eD w Z xs es|_,_=>gT
end
def dh(w:World)(Z:Nat→Prop)(e:Nat)(xs:L (L D))(b:Nat):Prop:=
 match eC e with|true=>ss w Z xs b|false=>∃(es:bv c7)(bF:Nat)(a:L c7),w.heap[b]?=J (.map es bF)∧iS (oE e) bF es.toList∧eD w Z xs a∧a.Perm es.toList∧(fP e=I→a=es.toList)
theorem dh.mu{w:World}{Z:Nat→Prop}{e:Nat}{xs:L (L D)}{b:Nat}(a:eC e=I):dh w Z e xs b↔ ∃(es:bv c7)(bF:Nat)(es':L c7),w.heap[b]?=J (.map es bF)∧iS (oE e) bF es.toList∧eD w Z xs es'∧es'.Perm es.toList∧(fP e=I→es'=es.toList):=by simp only[dh,a]
def TR{e:Nat}(h:fP e=I):oE e=e:=by unfold oE;rw[h]
def dh.mp{w:World}{Z:Nat→Prop}{e:Nat}{xs:L (L D)}{b:Nat}(a:eC e=I)(c:fP e=I):dh w Z e xs b↔ ∃(es:bv c7)(bF:Nat),w.heap[b]?=J (.map es bF)∧iS e bF es.toList∧eD w Z xs es.toList:=by rw[dh.mu a];rw[TR c];simp_all
theorem dh.it{w:World}{Z:Nat→Prop}{e:Nat}{xs:L (L D)}{b:Nat}(a:eC e=W):dh w Z e xs b↔ss w Z xs b:=by simp only[dh,a]
def a6.fR{w:World}{Z:Nat→Prop}{e:Nat}{xs:L (L D)}{v:Value}(b:isMap e=I):a6 w Z (.sl e xs) v↔ ∃(a:dt)(cap:Nat),v=.slice (J a) xs.length cap∧(cap=0∨a.spot=O∧Z a.block)∧xs.length≤cap∧cH w Z e xs a.block a.off:=by simp only[a6,b]
theorem a6.mr{w:World}{Z:Nat→Prop}{e:Nat}{xs:L (L D)}{v:Value}(a:isMap e=W):a6 w Z (.sl e xs) v↔ ∃b,v=fu e b∧Z b∧dh w Z e xs b:=by simp only[a6,a,dh];cases eC e<;>rfl
theorem cell_of_heap{w w':World}{b:Nat}(h:w'.heap[b]?=w.heap[b]?)(o:Nat)(sp:Option Nat):w'.cell? ⟨b,o,sp⟩=w.cell? ⟨b,o,sp⟩:=by simp only[World.cell?,h]
section mono
variable{w w':World}{Z Z':Nat→Prop}(hZ:∀b,Z b→w'.heap[b]?=w.heap[b]? ∧Z' b)
include hZ
theorem AZ.mono{l:L ai}{v:Value}(h:AZ w Z l v):AZ w' Z' l v:=by let⟨b,o,cap,h1,h2,h3⟩:=h;exact⟨b,o,cap,h1,(hZ b h2).2,λi x a=>by rw[cell_of_heap (hZ b h2).1];exact h3 i x a⟩
theorem pM.mono{ps:L (ai×L ai)}{b:Nat}(a:Z b)(h:pM w Z ps b):pM w' Z' ps b:=by let⟨h1,q,o,cap,h2,h3,d⟩:=h;refine⟨λc=>?_,q,o,cap,by rw[cell_of_heap (hZ b a).1];exact h2,(hZ q h3).2,λi c e=>by rw[cell_of_heap (hZ q h3).1];exact d i c e⟩;let⟨v,f,g⟩:=h1 c;refine⟨v,by rw[cell_of_heap (hZ b a).1];exact f,?_⟩;split<;>simp_all only;exact AZ.mono hZ g
theorem kN.mono{u:aW}{ps:L (ai×L ai)}{v:Value}(h:kN w Z u ps v):kN w' Z' u ps v:=by
 cases ps with|nil=>exact h|cons p ps=>let⟨b,h1,h2,h3⟩:=h;exact⟨b,h1,(hZ b h2).2,pM.mono hZ h2 h3⟩
mutual
theorem a6.mono:∀(d:D)(v:Value),a6 w Z d v→a6 w' Z' d v
 |.int _ _,_,h=>h|.bool _,_,h=>h|.str _,_,h=>h|.nil,_,h=>h|.ck _,_,h=>h|.rep _ _,_,h=>kN.mono hZ h|.sl e xs,v,h=>by
  by_cases a:isMap e=W;rw[a6.mr a]at h ⊢;let⟨b,h1,h2,h3⟩:=h;refine⟨b,h1,(hZ _ h2).2,?_⟩;by_cases hi:eC e=W;exact(dh.it hi).2 (ss.mono xs b (hZ _ h2).1 ((dh.it hi).1 h3));have hi:eC e=I:=by simpa using hi
  let⟨es,bF,f,h3,c,g,j⟩:=(dh.mu hi).1 h3;exact(dh.mu hi).2 ⟨es,bF,f,by grind,c,eD.mono xs _ g,j⟩;have a:isMap e=I:=by simpa using a
  rw[a6.fR a]at h ⊢;let⟨i,cap,h1,h2,h3,g⟩:=h;rcases h2 with h2|⟨h2,c⟩
  have:xs=[]:=List.length_eq_zero_iff.1 (by omega);subst this;exact⟨i,cap,h1,.inl h2,h3,trivial⟩;exact⟨i,cap,h1,.inr ⟨h2,(hZ _ c).2⟩,h3,cH.mono e xs _ _ (hZ _ c).1 g⟩
theorem ed.mono:∀(ds:L D)(b o:Nat),w'.heap[b]?=w.heap[b]? →ed w Z ds b o→ed w' Z' ds b o|[],_,_,_,_=>trivial|d::ds,b,o,a,h=>by let⟨⟨v,h1,h2⟩,h3⟩:=h;exact⟨⟨v,by rw[cell_of_heap a];exact h1,a6.mono d v h2⟩,ed.mono ds b (o+1) a h3⟩
theorem cH.mono(e:Nat):∀(xs:L (L D))(b o:Nat),w'.heap[b]?=w.heap[b]? →cH w Z e xs b o→cH w' Z' e xs b o|[],_,_,_,_=>trivial|x::xs,b,o,a,h=>⟨h.1,ed.mono x b o a h.2.1,cH.mono e xs b (o+e) a h.2.2⟩
theorem iU.mono:∀(ds:L D)(vs:L Value),iU w Z ds vs→iU w' Z' ds vs|[],[],_=>trivial|d::ds,v::vs,h=>⟨a6.mono d v h.1,iU.mono ds vs h.2⟩
theorem ss.mono:∀(xs:L (L D))(b:Nat),w'.heap[b]?=w.heap[b]? →ss w Z xs b→ss w' Z' xs b|[],_,_,h=>h.elim|x::rest,b,c,h=>by let⟨m,since,seen,a,h1,h2,h3⟩:=h;exact⟨m,since,seen,a,by rw[c];exact h1,iU.mono x _ h2,h3⟩
theorem eD.mono:∀(xs:L (L D))(es:L c7),eD w Z xs es→eD w' Z' xs es|[],[],_=>trivial|x::xs,en::es,h=>⟨iU.mono x _ h.1,eD.mono xs es h.2⟩
end
theorem dh.mono(e:Nat)(xs:L (L D))(b:Nat)(a:w'.heap[b]?=w.heap[b]?)(h:dh w Z e xs b):dh w' Z' e xs b:=by by_cases hi:eC e=W;grind [dh.it,ss.mono];grind [dh.mu,eD.mono]
end mono
section rows
variable{w:World}{Z:Nat→Prop}{b e:Nat}
theorem ed.get:∀{ds:L D}{o j:Nat}{d:D},ed w Z ds b o→ds[j]?=J d→∃v,w.cell? ⟨b,o+j,O⟩=J v∧a6 w Z d v|[],_,_,_,_,h=>by simp at h|x::ds,o,0,d,h,a=>by simp only[fY,Option.some.injEq]at a;subst a;exact h.1|x::ds,o,j+1,d,h,a=>by have:=ed.get (j:=j) h.2 (by simpa using a);grind
def ed.drop:∀{ds:L D}{o:Nat}(j:Nat),ed w Z ds b o→ed w Z (ds.drop j) b (o+j)|ds,o,0,h=>by simpa using h|[],o,j+1,_=>by simp[ed]|x::ds,o,j+1,h=>by have:=ed.drop (ds:=ds) (o:=o+1) j h.2;grind
def ed.take:∀{ds:L D}{o:Nat}(j:Nat),ed w Z ds b o→ed w Z (ds.take j) b o|ds,o,0,h=>by simp[ed]|[],o,j+1,_=>by simp[ed]|x::ds,o,j+1,h=>⟨h.1,ed.take j h.2⟩
theorem cH.append:∀{xs ys:L (L D)}{o:Nat},cH w Z e xs b o→cH w Z e ys b (o+xs.length*e)→cH w Z e (xs++ys) b o|[],ys,o,_,h=>by simpa using h|x::xs,ys,o,h,k=>⟨h.1,h.2.1,cH.append h.2.2 (by grind)⟩
theorem cH.get:∀{xs:L (L D)}{o i:Nat}{x:L D},cH w Z e xs b o→xs[i]?=J x→x.length=e∧ed w Z x b (o+i*e)|[],_,_,_,_,h=>by simp at h|y::xs,o,0,x,h,a=>by simp only[fY,Option.some.injEq]at a;subst a;exact⟨h.1,by simpa using h.2.1⟩|y::xs,o,i+1,x,h,a=>by have:=cH.get (i:=i) h.2.2 (by simpa using a);grind
def cH.drop:∀{xs:L (L D)}{o:Nat}(k:Nat),cH w Z e xs b o→cH w Z e (xs.drop k) b (o+k*e)|xs,o,0,h=>by simpa using h|[],o,k+1,_=>by simp[cH]|x::xs,o,k+1,h=>by have:=cH.drop (xs:=xs) (o:=o+e) k h.2.2;grind
def cH.take:∀{xs:L (L D)}{o:Nat}(k:Nat),cH w Z e xs b o→cH w Z e (xs.take k) b o|xs,o,0,h=>by simp[cH]|[],o,k+1,_=>by simp[cH]|x::xs,o,k+1,h=>⟨h.1,h.2.1,cH.take k h.2.2⟩
theorem cH.c8:∀{xs:L (L D)}{o:Nat},(∀(i:Nat)x,xs[i]?=J x→x.length=e∧ed w Z x b (o+i*e))→cH w Z e xs b o|[],_,_=>trivial|x::xs,o,h=>⟨(h 0 x rfl).1,by simpa using(h 0 x rfl).2,cH.c8 λi y hy=>by have:=h (i+1) y (by simpa using hy);grind⟩
theorem ed.c8:∀{ds:L D}{o:Nat},(∀(j:Nat)d,ds[j]?=J d→∃v,w.cell? ⟨b,o+j,O⟩=J v∧a6 w Z d v)→ed w Z ds b o|[],_,_=>trivial|d::ds,o,h=>⟨h 0 d rfl,ed.c8 λj y hy=>by have:=h (j+1) y (by simpa using hy);grind⟩
def cH.len{xs:L (L D)}{o:Nat}(h:cH w Z e xs b o):∀x∈xs,x.length=e:=by intro x a;let⟨i,hi⟩:=lZ a;exact(h.get hi).1
end rows
structure Ctx where
 P:Program
 N:Nat
 base:Nat
 w0:World
 E0:Nat→Prop
 Z0:Nat→Prop
 argv:Array Value
 iV:Key→Option Nat
def ae2(n:String):Option (L Value):=if n== "internal/strconv.uint64pow10" then J (([1,10,100,1000,10000,100000,1000000,10000000,100000000,1000000000,10000000000,100000000000,1000000000000,10000000000000,100000000000000,1000000000000000,10000000000000000,100000000000000000,1000000000000000000,10000000000000000000]:L M).map λn=>.int .u64 n)else O
def Mc:Nat→L Global→L (Nat×L Value)
 |_,[]=>[]|i,g::r=>match ae2 g.name with|some l=>(i,l)::Mc (i+1) r|none=>Mc (i+1) r
def su(P:dr):L (Nat×L Value):=Mc 0 P.globals.toList
def oD(w:World)(g:Nat)(l:L Value):Prop:=∀j:Nat,w.cell? ⟨g,j,O⟩=l[j]?
theorem oD.get{w:World}{g:Nat}{l:L Value}(h:oD w g l){j:Nat}{v:Value}(a:l[j]?=J v):w.cell? ⟨g,j,O⟩=J v:=by rw[h j,a]
def Me:Nat→L Global→L Nat|_,[]=>[]|i,g::r=>if g.name== "internal/bytealg.MaxLen" then i::Me (i+1) r else Me (i+1) r
def vq(P:dr):L Nat:=Me 0 P.globals.toList
def vr(w:World)(g:Nat):Prop:=∃m,w.cell? ⟨g,0,O⟩=J (.int .i64 m)
def ae3(K:Ctx):Prop:=(∀g l,(g,l)∈su K.P→g<K.base∧K.Z0 g∧¬K.E0 g∧oD K.w0 g l)∧∀g,g∈vq K.P→g<K.base∧K.Z0 g∧¬K.E0 g∧vr K.w0 g
abbrev cj:=aD×Option Nat
def flat:Value→L Value|.agg cs=>cs.toList|.tuple vs=>vs.toList.flatMap λv=>v.cells.toList|v=>[v]
def ku{v:Value}(h:fH v=W):v.cells=#[v]:=by cases v<;>simp_all [fH,Value.cells]
def yn{v:Value}(h:fH v=W):flat v=[v]:=by cases v<;>simp_all [fH,flat]
def bU(K:Ctx)(β:Key→Option Nat)(a:Act)(w:World):aD→Nat→Option Value|.tmp t,j=>(flat (a.tmps.getD t undef))[j]?|.box k,j=>(β k).bind λb=>w.cell? ⟨b,j,O⟩|.arg i,j=>(flat (K.argv.getD i undef))[j]?
def aH(K:Ctx)(β:Key→Option Nat)(Z:Nat→Prop)(s:St)(a:Act)(w:World):C→Value→Prop
 |.d x,v=>a6 w Z x v|.own e xs,v=>match isMap e with|false=>∃(c:dt)(cap:Nat),v=.slice (J c) xs.length cap∧c.spot=O∧xs.length≤cap∧cH w Z e xs c.block c.off|true=>∃b,v=fu e b∧dh w Z e xs b
 |.aS r j hv cv e k xs,v=>match isMap e with
  |true=>∃b,v=fu e b∧hv≤(s r).hv∧cv≤(s r).cv∧
   ((s r).hv=hv→(s r).at j≠.dead→bU K β a w r j=J (fu e b)∧∃ys,((s r).at j=.own e ys∨(s r).at j=.d (.sl e ys))∧((s r).cv=cv→xs=ys))
  |false=>∃(h:dt)(g:Nat),v=.slice (J h) xs.length g∧h.spot=O∧xs.length≤g∧hv≤(s r).hv∧cv≤(s r).cv∧
   ((s r).hv=hv→(s r).at j≠.dead→∃(c:dt)(len cap:Nat),bU K β a w r j=J (.slice (J c) len cap)∧c.spot=O∧h.block=c.block∧
     (h.off=c.off+k*e∨g=0)∧h.off≤c.off+cap*e∧g+k=cap∧k+xs.length≤len∧len≤cap∧
     ∃ys,((s r).at j=.own e ys∨(s r).at j=.d (.sl e ys))∧((s r).cv=cv→xs=(ys.drop k).take xs.length))
 |.ea r j hv e i off,v=>∃(b o:Nat),v=.pointer (J ⟨b,o,O⟩)∧hv≤(s r).hv∧
   ((s r).hv=hv→(s r).at j≠.dead→∃(c:dt)(len cap:Nat),bU K β a w r j=J (.slice (J c) len cap)∧c.spot=O∧b=c.block∧o=c.off+i*e+off∧
     ∃ys,(s r).at j=.own e ys∨(s r).at j=.d (.sl e ys))
 |.da xs,v=>∃(b o:Nat),v=.pointer (J ⟨b,o,O⟩)∧Z b∧ed w Z xs b o|.ptr k off,v=>∃b,β k=J b∧v=.pointer (J ⟨b,off,O⟩)|.cy f caps,v=>∃vs:bv Value,v=.func (.func f) #[] vs∧aG (λu p=>∃b,β p.1=J b∧u=.pointer (J ⟨b,p.2,O⟩)) vs.toList caps|.dead,_=>cZ
section
variable{K:Ctx}{β:Key→Option Nat}{Z:Nat→Prop}{s:St}{a:Act}{w:World}{e:Nat}{v:Value}
theorem aH.gY{xs:L (L D)}(c:isMap e=I):aH K β Z s a w (.own e xs) v↔ ∃(b:dt)(cap:Nat),v=.slice (J b) xs.length cap∧b.spot=O∧xs.length≤cap∧cH w Z e xs b.block b.off:=by simp only[aH,c]
theorem aH.jh{xs:L (L D)}(c:isMap e=W):aH K β Z s a w (.own e xs) v↔ ∃b,v=fu e b∧dh w Z e xs b:=by simp only[aH,c]
theorem aH.nA{r:aD}{j hv cv k:Nat}{xs:L (L D)}(g:isMap e=I):aH K β Z s a w (.aS r j hv cv e k xs) v↔
  ∃(c:dt)(b:Nat),v=.slice (J c) xs.length b∧c.spot=O∧xs.length≤b∧hv≤(s r).hv∧cv≤(s r).cv∧
   ((s r).hv=hv→(s r).at j≠.dead→∃(f:dt)(len cap:Nat),bU K β a w r j=J (.slice (J f) len cap)∧f.spot=O∧c.block=f.block∧
     (c.off=f.off+k*e∨b=0)∧c.off≤f.off+cap*e∧b+k=cap∧k+xs.length≤len∧len≤cap∧
     ∃ys,((s r).at j=.own e ys∨(s r).at j=.d (.sl e ys))∧((s r).cv=cv→xs=(ys.drop k).take xs.length)):=by
 simp only[aH,g]
theorem aH.pN{r:aD}{j hv cv k:Nat}{xs:L (L D)}(c:isMap e=W):aH K β Z s a w (.aS r j hv cv e k xs) v↔
  ∃b,v=fu e b∧hv≤(s r).hv∧cv≤(s r).cv∧
   ((s r).hv=hv→(s r).at j≠.dead→bU K β a w r j=J (fu e b)∧∃ys,((s r).at j=.own e ys∨(s r).at j=.d (.sl e ys))∧((s r).cv=cv→xs=ys)):=by
 simp only[aH,c]
end
theorem aG.length{α β:Type}{R:α→β→Prop}:∀{as:L α}{a:L β},aG R as a→as.length=a.length|[],[],_=>rfl|_::_,_::_,h=>by simp[aG.length h.2]
theorem aG.mono{α β:Type}{R c:α→β→Prop}(d:∀a b,R a b→c a b):∀{as:L α}{e:L β},aG R as e→aG c as e|[],[],_=>trivial|_::_,_::_,h=>⟨d _ _ h.1,aG.mono d h.2⟩
def aG.ju{α β:Type}{R d:α→β→Prop}:∀{as:L α}{c:L β},(∀a b,b∈c→R a b→d a b)→aG R as c→aG d as c|[],[],_,_=>trivial|_::_,_::_,e,h=>⟨e _ _ (jq ..) h.1,aG.ju (λa b f=>e a b (gU _ f)) h.2⟩
theorem aG.get{α β:Type}{R:α→β→Prop}:∀{as:L α}{d:L β}{j:Nat}{b:β},aG R as d→d[j]?=J b→∃a,as[j]?=J a∧R a b|[],[],_,_,_,h=>by simp at h|a::as,b::d,0,c,h,e=>by simp only[fY,Option.some.injEq]at e;subst e;exact⟨a,rfl,h.1⟩|a::as,b::d,j+1,c,h,e=>by obtain⟨x,h1,h2⟩:=aG.get (j:=j) h.2 (by simpa using e);grind
theorem aG.c8{α β:Type}{R:α→β→Prop}:∀{as:L α}{d:L β},as.length=d.length→(∀(j:Nat)a b,as[j]?=J a→d[j]?=J b→R a b)→aG R as d|[],[],_,_=>trivial|a::as,b::d,c,h=>⟨h 0 a b rfl rfl,aG.c8 (by simpa using c) λj x y e hy=>h (j+1) x y (by simpa using e) (by simpa using hy)⟩|[],_::_,c,_=>by simp at c|_::_,[],c,_=>by simp at c
theorem aG.append{α β:Type}{R:α→β→Prop}:∀{as a:L α}{b bs':L β},aG R as b→aG R a bs'→aG R (as++a) (b++bs')|[],_,[],_,_,h=>h|_::_,_,_::_,_,h,k=>⟨h.1,aG.append h.2 k⟩
def aG.drop{α β:Type}{R:α→β→Prop}:∀{as:L α}{a:L β}(n:Nat),aG R as a→aG R (as.drop n) (a.drop n)|_,_,0,h=>h|[],[],_+1,_=>trivial|_::_,_::_,n+1,h=>aG.drop n h.2
def aG.take{α β:Type}{R:α→β→Prop}:∀{as:L α}{a:L β}(n:Nat),aG R as a→aG R (as.take n) (a.take n)|as,a,0,h=>by simp[aG]|[],[],_+1,_=>trivial|_::_,_::_,n+1,h=>⟨h.1,aG.take n h.2⟩
def dx(R:C→Value→Prop)(v:Value)(x:ao×L C):Prop:=if x.1 then ∃ws:bv Value,v=.agg ws∧aG (λu c=>R c u) ws.toList x.2 else ∃c,x.2=[c]∧fH v=W∧R c v
def bj(R:C→Value→Prop)(v:Value):SV→Prop|.one c=>fH v=W∧R c v|.agg cs=>∃ws:bv Value,v=.agg ws∧aG (λu c=>R c u) ws.toList cs|.aX xs=>∃vs:bv Value,v=.tuple vs∧aG (dx R) vs.toList xs|.undef=>cZ
theorem dx.flat{R:C→Value→Prop}{v:Value}{x:ao×L C}(h:dx R v x):aG (λu c=>R c u) v.cells.toList x.2:=by unfold dx at h;split at h;obtain⟨ws,rfl,h⟩:=h;exact h;let⟨c,h1,h2,h3⟩:=h;rw[ku h2,h1];exact⟨h3,trivial⟩
def TS{R:C→Value→Prop}:∀{vs:L Value}{xs:L (ao×L C)},aG (dx R) vs xs→aG (λu c=>R c u) (vs.flatMap λv=>v.cells.toList) (xs.flatMap (·.2))|[],[],_=>trivial|_::_,_::_,h=>by simp only[lq];exact aG.append (dx.flat h.1) (TS h.2)
theorem bj.flat{R:C→Value→Prop}{v:Value}{a:SV}(h:bj R v a)(b:a≠.undef):aG (λu c=>R c u) (flat v) a.cells:=by
 cases a with
 |one c=>rw[yn h.1];exact⟨h.2,trivial⟩|agg cs=>obtain⟨ws,rfl,h⟩:=h;exact h
 |aX xs=>obtain⟨vs,rfl,h⟩:=h;exact TS h
 |undef=>exact bX rfl b
theorem bj.cell{R:C→Value→Prop}{v:Value}{a:SV}{j:Nat}{c:C}(h:bj R v a)(b:a.cells[j]?=J c):∃u,(Vs.flat v)[j]?=J u∧R c u:=by by_cases d:a=.undef;subst d;simp[SV.cells]at b;exact(h.flat d).get b
theorem bj.mono{R g:C→Value→Prop}{v:Value}{sv:SV}(b:∀c u,c∈sv.cells→R c u→g c u)(h:bj R v sv):bj g v sv:=by
 cases sv with
 |one c=>exact⟨h.1,b _ _ (by simp[SV.cells]) h.2⟩|agg cs=>let⟨ws,h1,h2⟩:=h;exact⟨ws,h1,h2.ju λu c d a=>b c u d a⟩
 |aX xs=>let⟨vs,h1,h2⟩:=h;refine⟨vs,h1,h2.ju λv x i a=>?_⟩;unfold dx at a ⊢;split;rename_i e;simp only[e,bf]at a;let⟨ws,h3,f⟩:=a;exact⟨ws,h3,f.ju λu c d a=>b c u (E9.2 ⟨x,i,d⟩) a⟩;rename_i e;simp only[e]at a;let⟨c,h3,f,j⟩:=a;exact⟨c,h3,f,b c _ (E9.2 ⟨x,i,by simp[h3]⟩) j⟩
 |undef=>trivial
theorem aG.set{α β:Type}{R:α→β→Prop}:∀{as:L α}{d:L β}{j:Nat}{b:β},aG R as d→(∀a,as[j]?=J a→R a b)→aG R as (d.set j b)|[],[],_,_,_,_=>trivial|a::as,c::d,0,b,h,e=>⟨e a rfl,h.2⟩|a::as,c::d,j+1,b,h,e=>⟨h.1,aG.set h.2 λx f=>e x (by simpa using f)⟩
theorem dx.set{R:C→Value→Prop}{v:Value}{b:ao}{cs:L C}{j:Nat}{c:C}(h:dx R v (b,cs))(e:j<cs.length)(a:∀u,(v.cells.toList)[j]?=J u→R c u):dx R v (b,cs.set j c):=by
 unfold dx at *;cases b with
 |true=>simp only[bf]at h ⊢;obtain⟨ws,rfl,h⟩:=h;exact⟨ws,rfl,h.set a⟩
 |false=>simp only[bh,bC]at h ⊢;let⟨d,h1,h2,h3⟩:=h;simp_all [ku]
def TT{R:C→Value→Prop}:∀{vs:L Value}{xs:L (ao×L C)}{j:Nat}{c:C},aG (dx R) vs xs→(∀u,(vs.flatMap λv=>v.cells.toList)[j]?=J u→R c u)→aG (dx R) vs (pB xs j c)|[],[],_,_,_,_=>trivial|v::vs,(b,cs)::xs,j,c,h,a=>by simp only[pB];have f:v.cells.toList.length=cs.length:=(dx.flat h.1).length;split;rename_i d;exact⟨dx.set h.1 d λu e=>a u (by grind),h.2⟩;rename_i d;exact⟨h.1,TT h.2 λu e=>a u (by grind)⟩
theorem bj.setCell{R:C→Value→Prop}{v:Value}{a:SV}{j:Nat}{c:C}(h:bj R v a)(b:∀u,(Vs.flat v)[j]?=J u→R c u):bj R v (a.setCell j c):=by
 cases a with
 |one d=>simp only[SV.setCell];split;rename_i e;subst e;exact⟨h.1,b v (by rw[yn h.1];rfl)⟩;exact h
 |agg cs=>obtain⟨ws,rfl,h⟩:=h;exact⟨ws,rfl,h.set b⟩
 |aX xs=>obtain⟨vs,rfl,h⟩:=h;exact⟨vs,rfl,TT h b⟩
 |undef=>trivial
def TU:∀(xs:L (ao×L C))(j:Nat)(c:C),(pB xs j c).flatMap (·.2)=(xs.flatMap (·.2)).set j c|[],j,c=>by simp[pB]|(b,cs)::xs,j,c=>by simp only[pB];split;grind;rename_i h;simp only[lq,TU xs,List.set_append,aK h]
theorem pO(a:SV)(j:Nat)(c:C):(a.setCell j c).cells=a.cells.set j c:=by
 cases a with
 |one d=>
  simp only[SV.setCell];split;simp_all [SV.cells];rename_i h;cases j with|zero=>exact bX rfl h|succ j=>simp[SV.cells]
 |agg cs=>simp[SV.setCell,SV.cells]|aX xs=>simp[SV.setCell,SV.cells,TU]|undef=>simp[SV.setCell,SV.cells]
theorem aG.split{α β:Type}{R:α→β→Prop}:∀{as c:L α}{e bs':L β},as.length=e.length→aG R (as++c) (e++bs')→aG R as e∧aG R c bs'
 |[],_,[],_,_,h=>⟨trivial,h⟩|a::as,_,b::e,_,d,h=>by let⟨h1,h2⟩:=h;let⟨h3,f⟩:=aG.split (by simpa using d) h2;exact⟨⟨h1,h3⟩,f⟩
 |[],_,_::_,_,d,_=>by simp at d|_::_,_,[],_,d,_=>by simp at d
def kx(_:C)(_:az):Prop:=cZ
def TV{R:C→az→Prop}:∀{vs:L az}{xs:L (ao×L C)},aG (dx kx) vs xs→aG (λu c=>R c u) (vs.flatMap λv=>v.cells.toList) (xs.flatMap (·.2))→aG (dx R) vs xs|[],[],_,_=>trivial|v::vs,x::xs,h,k=>by simp only[lq]at k;let⟨k1,k2⟩:=aG.split (dx.flat h.1).length k;refine⟨?_,TV h.2 k2⟩;have h1:=h.1;unfold dx at h1 ⊢;split;rename_i a;simp only[a,bf]at h1;obtain⟨ws,rfl,_⟩:=h1;exact⟨ws,rfl,k1⟩;rename_i a;simp only[a]at h1;let⟨c,h2,h3,_⟩:=h1;rw[ku h3,h2]at k1;exact⟨c,h2,h3,k1.1⟩
def bj.of_flat{R:C→az→Prop}{v:az}{sv:SV}(h:bj kx v sv)(k:sv≠.undef→aG (λu c=>R c u) (Vs.flat v) sv.cells):bj R v sv:=by
 cases sv with
 |one c=>have:=k (by simp);rw[yn h.1]at this;exact⟨h.1,this.1⟩|agg cs=>obtain⟨ws,rfl,_⟩:=h;exact⟨ws,rfl,k (by simp)⟩
 |aX xs=>obtain⟨vs,rfl,h⟩:=h;exact⟨vs,rfl,TV h (k (by simp))⟩
 |undef=>trivial
def bj.shape{R:C→az→Prop}{v:az}{sv:SV}(h:bj R v sv):bj kx v sv:=bj.mono (λ_ _ _ _=>trivial) h
def bj.mv{R a:C→az→Prop}{v:az}{sv:SV}(f:∀(j:Nat)c u,sv.cells[j]?=J c→(Vs.flat v)[j]?=J u→R c u→a c u)(h:bj R v sv):bj a v sv:=by refine bj.of_flat h.shape λb=>?_;have d:=h.flat b;exact aG.c8 d.length λj u c b e=>by let⟨g,h1,h2⟩:=d.get e;grind
def gK{x:RV}{j:Nat}{c:C}(h:x.at j=c)(a:c≠.dead):x.v.cells[j]?=J c:=by grind [RV.at]
theorem sw{x:RV}{j:Nat}{c:C}(h:x.v.cells[j]?=J c):x.at j=c:=by simp[RV.at,iy,h]
def qP(same:Prop)(c c':C):Prop:=c=c'∨(∃e ys,c=.own e ys∧c'=.d (.sl e ys))∨(¬same∧∃e ys a,c=.own e ys∧(c'=.own e a∨c'=.d (.sl e a)))
def fA(x a:RV):Prop:=x.hv≤a.hv∧x.cv≤a.cv∧(a.hv=x.hv→∀j,a.at j≠.dead→qP (a.cv=x.cv) (x.at j) (a.at j))
theorem fA.refl(x:RV):fA x x:=⟨Nat.le_refl _,Nat.le_refl _,λ_ _ _=>.inl rfl⟩
theorem fA.bump{x x':RV}(h:x'.hv=x.hv+1)(a:x'.cv=x.cv):fA x x':=⟨by omega,by omega,λe=>by omega⟩
def aH.step{K K':Ctx}{β B:Key→Option Nat}{Z Z':Nat→Prop}{s s':St}{a a':Act}{w w':World}(F:∀k b,β k=J b→B k=J b) (hZ:∀b,Z b→w'.heap[b]?=w.heap[b]? ∧Z' b)(V:∀r,fA (s r) (s' r)) (hh:∀r j,(s' r).hv=(s r).hv→(s' r).at j≠.dead→bU K' B a' w' r j=bU K β a w r j){c:C}{v:az} (G:∀(e:Nat)(xs:L (L D))(b:Nat),c=.own e xs→dB v=J b→w'.heap[b]?=w.heap[b]?) (h:aH K β Z s a w c v):aH K' B Z' s' a' w' c v:=by
 cases c with
 |d x=>exact a6.mono hZ x v h|own e xs=>
  by_cases z:isMap e=W;grind [aH.jh,dh.mono,kr];have z:isMap e=I:=by simpa using z
  rw[aH.gY z]at h ⊢;let⟨E,cap,h1,h2,h3,H⟩:=h;exact⟨E,cap,h1,h2,h3,cH.mono hZ e xs _ _ (G e xs E.block rfl (by rw[h1];rfl)) H⟩
 |aS r j hv cv e k xs=>
  have y:∀t:(s' r).hv=hv,hv≤(s r).hv→(s' r).at j≠.dead→(s' r).hv=(s r).hv∧(s r).hv=hv∧qP ((s' r).cv=(s r).cv) ((s r).at j) ((s' r).at j)∧(s r).at j≠.dead:=by
   intro t hle l;let⟨Y,e2,N⟩:=V r;have g:(s' r).hv=(s r).hv:=(by omega);have m:=N g j l;refine⟨g,by omega,m,?_⟩;rcases m with h|⟨e,ys,h,_⟩|⟨_,e,ys,q,h,_⟩
   rw[h];exact l;rw[h];simp;rw[h];simp
  by_cases z:isMap e=W;rw[aH.pN z]at h ⊢;let⟨b,h1,H,h5,h6⟩:=h;let⟨Y,e2,N⟩:=V r;refine⟨b,h1,by omega,by omega,λt l=>?_⟩;let⟨g,A,m,n⟩:=y t H l;let⟨X,ys,g9,g10⟩:=h6 A n;refine⟨by grind,?_⟩;rcases m with h|⟨P,q,h,R⟩|⟨hn,P,q,zs,h,R⟩
  grind;grind;grind;have z:isMap e=I:=by simpa using z
  rw[aH.nA z]at h ⊢;let⟨U2,S,h1,h2,h3,H,h5,h6⟩:=h;let⟨Y,e2,N⟩:=V r;refine⟨U2,S,h1,h2,h3,by omega,by omega,λt l=>?_⟩;let⟨g,A,m,n⟩:=y t H l;let⟨E,len,cap,X,T,g3,g4,g4b,g5,g6,g7,g8⟩:=h6 (by omega) n;let⟨ys,g9,g10⟩:=g8;refine⟨E,len,cap,by grind,T,g3,g4,g4b,g5,g6,g7,?_⟩;rcases m with h|⟨P,q,h,R⟩|⟨hn,P,q,zs,h,R⟩
  grind;grind;grind
 |ea r j hv e i off=>
  let⟨b,o,h1,h2,h3⟩:=h;let⟨Y,e2,N⟩:=V r;refine⟨b,o,h1,by omega,λt l=>?_⟩;have g:(s' r).hv=(s r).hv:=by omega
  have m:=N g j l;have n:(s r).at j≠.dead:=by
   rcases m with h|⟨e,ys,h,_⟩|⟨_,e,ys,q,h,_⟩
   rw[h];exact l;rw[h];simp;rw[h];simp
  let⟨E,len,cap,X,T,g3,g4,ys,g5⟩:=h3 (by omega) n;refine⟨E,len,cap,by grind,T,g3,g4,?_⟩;rcases m with h|⟨P,q,h,R⟩|⟨_,P,q,zs,h,R⟩
  grind;grind;grind
 |da xs=>let⟨b,o,h1,h2,h3⟩:=h;exact⟨b,o,h1,(hZ b h2).2,ed.mono hZ xs b o (hZ b h2).1 h3⟩
 |ptr k off=>let⟨b,h1,h2⟩:=h;exact⟨b,F k b h1,h2⟩
 |cy f caps=>let⟨vs,h1,h2⟩:=h;exact⟨vs,h1,h2.mono λu p⟨b,X,T⟩=>⟨b,F _ b X,T⟩⟩
 |dead=>trivial
def Wr(w:World)(b n:Nat):Prop:=∃(cs:bv az)(el:aW)(lo hi:Nat),w.heap[b]?=J (.cells cs el (lo,hi))∧n≤cs.size∧∀o,o<cs.size→¬(lo≤o∧o<hi)
theorem Wr.mono{w w':World}{b n m:Nat}(h:Wr w b n)(a:w'.heap[b]?=w.heap[b]?)(hm:m≤n):Wr w' b m:=by let⟨cs,el,lo,hi,h1,h2,h3⟩:=h;exact⟨cs,el,lo,hi,by rw[a];exact h1,by omega,h3⟩
def kO(w:World)(e:Nat):az→Prop|.slice (J a) _ cap=>Wr w a.block (a.off+cap*e)|.map (J b)=>∃(es:bv c7)(bF:Nat),w.heap[b]?=J (.map es bF)|.pointer (J _)=>cZ|_=>gT
theorem kO.mono{w w':World}{e b:Nat}{u:az}(h:kO w e u)(a:dB u=J b)(c:w'.heap[b]?=w.heap[b]?):kO w' e u:=by unfold kO at *;split at h;rename_i d len cap;simp only[dB,Option.some.injEq]at a;subst a;exact h.mono c (Nat.le_refl _);simp_all [dB];trivial;exact h
def Live:az→Prop|.slice (J _) _ cap=>cap≠0|_=>cZ
theorem TW(e b:Nat):Live (fu e b):=by unfold fu;split<;>trivial
def ae4{w:World}{Z:Nat→Prop}{e b:Nat}{xs:L (L D)}(a:Nat)(h:dh w Z e xs b):kO w a (fu e b):=by
 by_cases hi:eC e=W;rw[Mb hi];trivial;have hi:eC e=I:=by simpa using hi
 rw[ny hi];let⟨es,bF,_,h1,_⟩:=(dh.mu hi).1 h;exact⟨es,bF,h1⟩
def a6.live{w:World}{Z:Nat→Prop}{e b:Nat}{ys:L (L D)}{u:az}(h:a6 w Z (.sl e ys) u)(a:dB u=J b)(d:Live u):Z b:=by by_cases f:isMap e=W;grind [a6.mr,kr];obtain⟨g,c,rfl,h3,_⟩:=(a6.fR (by simpa using f)).1 h;simp only[dB,Option.some.injEq]at a;exact a▸(h3.resolve_left d).2
def di(K:Ctx)(β:Key→Option Nat)(ω:Nat→Option cj)(Z:Nat→Prop)(s:St)(a:Act)(w:World)(k:Key):SV→Prop
 |.agg cs=>∃(b:Nat)(ws:bv az)(el:aW)(lo hi:Nat),β k=J b∧ω b=J (.box k,O)∧w.heap[b]?=J (.cells ws el (lo,hi))∧
   (∀o,o<ws.size→¬(lo≤o∧o<hi))∧aG (λu c=>aH K β Z s a w c u) ws.toList cs
 |.undef=>β k=O|_=>gT
structure Rel(K:Ctx)(β:Key→Option Nat)(ω:Nat→Option cj)(Z:Nat→Prop)(s:St)(a:Act)(w:World):Prop where
 size:a.tmps.size=K.N
 defers:a.defers=[]∧ae3 K
 os:w.os=K.w0.os
 tape:w.tape=K.w0.tape
 output:w.output=K.w0.output
 base:K.base≤w.heap.size
 frame:∀b,b<K.base→¬K.E0 b→w.heap[b]?=K.w0.heap[b]?
 cD:∀b,Z b→b<w.heap.size
 ky:∀b,K.Z0 b→Z b
 lA:∀b,Z b→K.Z0 b∨K.base≤b∨K.E0 b∨∃(i j e:Nat)(ys:List (List D))(u:Value),(s (.arg i)).v.cells[j]?=some (.d (.sl e ys))∧(flat (K.argv.getD i undef))[j]?=some u∧dB u=some b∧Live u
 tmps:∀t,bj (aH K β Z s a w) (a.tmps.getD t undef) (s (.tmp t)).v
 args:∀i,bj (aH K β Z s a w) (K.argv.getD i undef) (s (.arg i)).v
 boxes:∀k,di K β ω Z s a w k (s (.box k)).v
 own:∀(r:aD)(j e:Nat)(xs:List (List D))(u:Value)(b:Nat),r.isArg=false→(s r).v.cells[j]?=some (.own e xs)→bU K β a w r j=some u→dB u=some b→ω b=some (r,some j)∧kO w e u
 gw:∀(i j e:Nat)(xs:List (List D))(u:Value)(b:Nat),(s (.arg i)).v.cells[j]?=some (.own e xs)→(flat (K.argv.getD i undef))[j]?=some u→dB u=some b→b<K.base∧¬K.E0 b
 c9:∀b h,ω b=some h→¬Z b∧b<w.heap.size∧(b<K.base→K.E0 b)
 mx:∀k b,K.iV k=some b→β k=some b
section
variable{K:Ctx}{β:Key→Option Nat}{ω:Nat→Option cj}{Z:Nat→Prop}{s:St}{a:Act}{w:World}
def Rel.still(h:Rel K β ω Z s a w){g:Nat}(h1:g<K.base)(h2:K.Z0 g)(h3:¬K.E0 g):g<w.heap.size∧Z g∧ω g=O∧w.heap[g]?=K.w0.heap[g]? :=by
 have b:=h.ky g h2;refine⟨Nat.lt_of_lt_of_le h1 h.base,b,?_,h.frame g h1 h3⟩;cases c:ω g with|none=>rfl|some x=>exact bX b (h.c9 g x c).1
def Rel.laid(h:Rel K β ω Z s a w)(g:Nat)(l:L az)(b:(g,l)∈su K.P):g<w.heap.size∧Z g∧ω g=O∧oD w g l:=by let⟨h1,h2,h3,c⟩:=h.defers.2.1 g l b;let⟨d,e,f,i⟩:=h.still h1 h2 h3;exact⟨d,e,f,λj=>by rw[cell_of_heap i];exact c j⟩
def Rel.opens(h:Rel K β ω Z s a w)(g:Nat)(b:g∈vq K.P):g<w.heap.size∧Z g∧ω g=O∧vr w g:=by let⟨h1,h2,h3,m,c⟩:=h.defers.2.2 g b;let⟨d,e,f,i⟩:=h.still h1 h2 h3;exact⟨d,e,f,m,by rw[cell_of_heap i];exact c⟩
theorem di.cell(h:Rel K β ω Z s a w){k:Key}{cs:L C}(hv:(s (.box k)).v=.agg cs):∃(b:Nat)(ws:bv az)(el:aW)(lo hi:Nat),β k=J b∧ω b=J (.box k,O)∧w.heap[b]?=J (.cells ws el (lo,hi))∧(∀o,o<ws.size→¬(lo≤o∧o<hi))∧aG (λu c=>aH K β Z s a w c u) ws.toList cs:=by have:=h.boxes k;rw[hv]at this;exact this
theorem lB{k:Key}{b j:Nat}{ws:bv az}{el:aW}{lo hi:Nat}(c:β k=J b)(d:w.heap[b]?=J (.cells ws el (lo,hi))):bU K β a w (.box k) j=ws.toList[j]? :=by simp[bU,c,World.cell?,d]
theorem Rel.cell(h:Rel K β ω Z s a w){r:aD}{j:Nat}{c:C}(d:(s r).v.cells[j]?=J c):∃u,bU K β a w r j=J u∧aH K β Z s a w c u:=by
 cases r with
 |tmp t=>exact(h.tmps t).cell d|arg i=>exact(h.args i).cell d|box k=>
  have e:=h.boxes k;cases hv:(s (.box k)).v with
  |agg cs=>let⟨b,ws,el,lo,hi,h1,h2,h3,g,f⟩:=di.cell h hv;rw[hv]at d;let⟨u,l,m⟩:=f.get d;grind [lB]
  |one c=>rw[hv]at e;exact e.elim|aX x=>rw[hv]at e;exact e.elim|undef=>simp_all [SV.cells]
def Rel.ownRow(h:Rel K β ω Z s a w){r:aD}{j:Nat}{e:Nat}{ys:L (L D)}(f:isMap e=I)(c:(s r).at j=.own e ys):∃b cap,bU K β a w r j=J (.slice (J b) ys.length cap)∧b.spot=O∧ys.length≤cap∧cH w Z e ys b.block b.off:=by let⟨u,h1,d⟩:=h.cell (gK c (by simp));simp_all [aH.gY]
def Rel.FQ(h:Rel K β ω Z s a w){r:aD}{j:Nat}{e:Nat}{ys:L (L D)}(f:isMap e=W)(c:(s r).at j=.own e ys):∃b,bU K β a w r j=J (fu e b)∧dh w Z e ys b:=by let⟨u,h1,d⟩:=h.cell (gK c (by simp));simp_all [aH.jh]
def aH.TX{e:Nat}{xs:L (L D)}{u:az}(c:aH K β Z s a w (.own e xs) u):∃b,dB u=J b:=by by_cases d:isMap e=W;grind [aH.jh,kr];let⟨f,cap,h1,_⟩:=(aH.gY (by simpa using d)).1 c;exact⟨f.block,by rw[h1];rfl⟩
end
section
variable{K:Ctx}{β:Key→Option Nat}{ω:Nat→Option cj}{Z:Nat→Prop}{s:St}{a:Act}{w:World}
def jK(K:Ctx)(β:Key→Option Nat)(s:St)(a:Act)(w:World)(b:Nat):Prop:=∀(r:aD)(j e:Nat)(xs:L (L D))(u:az)(c:Nat),r.isArg=I→(s r).v.cells[j]?=J (.own e xs)→bU K β a w r j=J u→dB u=J c→c≠b
def jL(K:Ctx)(β:Key→Option Nat)(ω:Nat→Option cj)(Z:Nat→Prop)(s:St)(a:Act)(w:World)(r:aD)(i:Nat)(c:C)(u:az):Prop:=aH K β Z s a w c u∧∀(e:Nat)(xs:L (L D))(b:Nat),c=.own e xs→dB u=J b→ω b=J (r,J i)∧kO w e u∧jK K β s a w b
structure Calm(K:Ctx)(β:Key→Option Nat)(a:Act)(ω:Nat→Option cj)(Z:Nat→Prop)(s:St)(w:World)(ω':Nat→Option cj)(Z':Nat→Prop)(s':St)(w':World):Prop where
 z:∀b,Z b→Z' b
 heap:∀b,b<w.heap.size→w'.heap[b]?=w.heap[b]?
 size:w.heap.size≤w'.heap.size
 Mf:∀r,fA (s r) (s' r)
 bU:∀r j,bU K β a w' r j=bU K β a w r j
 fr:∀b,b<w.heap.size→jK K β s a w b→ω' b=ω b∧jK K β s' a w' b
theorem Calm.refl:Calm K β a ω Z s w ω Z s w:=⟨λ_ h=>h,λ_ _=>rfl,Nat.le_refl _,λ_=>fA.refl _,λ_ _=>rfl,λ_ _ h=>⟨rfl,h⟩⟩
theorem qP.trans{p q t:Prop}(hp:t→p)(j:t→q){c c' c'':C}(h:qP p c c')(k:qP q c' c''):qP t c c'':=by
 rcases h with rfl|⟨e,ys,rfl,rfl⟩|⟨hn,e,ys,a,rfl,rfl|rfl⟩
 rcases k with k|k|⟨hn,k⟩
 exact .inl k;exact .inr (.inl k);exact .inr (.inr ⟨λb=>hn (j b),k⟩);rcases k with rfl|⟨f,a,h1,rfl⟩|⟨hn,f,a,g,h1,h2⟩
 exact .inr (.inl ⟨e,ys,rfl,rfl⟩);cases h1;cases h1;rcases k with rfl|⟨f,d,h1,rfl⟩|⟨i,f,d,g,h1,h2⟩
 exact .inr (.inr ⟨λb=>hn (hp b),e,ys,a,rfl,.inl rfl⟩);cases h1;exact .inr (.inr ⟨λb=>hn (hp b),e,ys,a,rfl,.inr rfl⟩);cases h1;exact .inr (.inr ⟨λb=>hn (hp b),e,ys,g,rfl,h2⟩);rcases k with rfl|⟨f,d,h1,rfl⟩|⟨i,f,d,g,h1,h2⟩
 exact .inr (.inr ⟨λb=>hn (hp b),e,ys,a,rfl,.inr rfl⟩);cases h1;cases h1
theorem qP.alive{p:Prop}{c c':C}(h:qP p c c')(a:c'≠.dead):c≠.dead:=by
 rcases h with rfl|⟨e,ys,rfl,_⟩|⟨_,e,ys,b,rfl,_⟩
 exact a;simp;simp
theorem fA.trans{x y z:RV}(h:fA x y)(k:fA y z):fA x z:=by let⟨h1,h2,h3⟩:=h;let⟨k1,k2,k3⟩:=k;refine⟨by omega,by omega,λe j a=>?_⟩;have hk:=k3 (by omega) j a;exact qP.trans (λ_=>by omega) (λ_=>by omega) (h3 (by omega) j (hk.alive a)) hk
theorem Calm.trans{ω' d:Nat→Option cj}{Z' e:Nat→Prop}{s' f:St}{w' w'':World}(h:Calm K β a ω Z s w ω' Z' s' w')(k:Calm K β a ω' Z' s' w' d e f w''):Calm K β a ω Z s w d e f w'':=⟨λb c=>k.z b (h.z b c),λb c=>(k.heap b (Nat.lt_of_lt_of_le c h.size)).trans (h.heap b c),Nat.le_trans h.size k.size,λr=>(h.Mf r).trans (k.Mf r),λr j=>(k.bU r j).trans (h.bU r j),λb c g=>⟨((k.fr b (Nat.lt_of_lt_of_le c h.size) (h.fr b c g).2).1).trans (h.fr b c g).1,(k.fr b (Nat.lt_of_lt_of_le c h.size) (h.fr b c g).2).2⟩⟩
def Calm.jM{ω':Nat→Option cj}{Z':Nat→Prop}{s':St}{w':World}(k:Calm K β a ω Z s w ω' Z' s' w')(g:∀b,Z b→b<w.heap.size){c:C}{u:az} (d:∀(e:Nat)(xs:L (L D))(b:Nat),c=.own e xs→dB u=J b→b<w.heap.size)(h:aH K β Z s a w c u):aH K β Z' s' a w' c u:=aH.step (λ_ _ h=>h) (λb f=>⟨k.heap b (g b f),k.z b f⟩) k.Mf (λr j _ _=>k.bU r j) (λe xs b h1 h2=>k.heap _ (d e xs b h1 h2)) h
def Calm.Mg{ω':Nat→Option cj}{Z':Nat→Prop}{s':St}{w':World}(k:Calm K β a ω Z s w ω' Z' s' w')(g:Rel K β ω Z s a w){r:aD}{i:Nat}{c:C}{u:az}(h:jL K β ω Z s a w r i c u):jL K β ω' Z' s' a w' r i c u:=by have d:∀(e:Nat)(xs:L (L D))(b:Nat),c=.own e xs→dB u=J b→b<w.heap.size:=λe xs b h1 h2=>(g.c9 _ _ (h.2 e xs b h1 h2).1).2.1;refine⟨k.jM g.cD d h.1,λe xs b h1 h2=>?_⟩;let⟨l,m,j⟩:=h.2 e xs b h1 h2;have f:=d e xs b h1 h2;exact⟨by rw[(k.fr _ f j).1];exact l,m.mono h2 (k.heap _ f),(k.fr _ f j).2⟩
def jL.yo{r:aD}{i:Nat}{c:C}{u:az}(b:∀e xs,c≠.own e xs)(h:aH K β Z s a w c u):jL K β ω Z s a w r i c u:=⟨h,λe xs _ h1 _=>bX h1 (b e xs)⟩
def A0(s:St)(r q:aD)(x:RV):(s.set r x q).v=if q=r then x.v else(s q).v:=by grind [St.set]
theorem FR{b:SV}{j a:Nat}{c d:C}(h:(b.setCell j c).cells[a]?=J d):(a=j∧d=c)∨(a≠j∧b.cells[a]?=J d):=by grind [pO]
def Rel.TY(h:Rel K β ω Z s a w){r:aD}{j e:Nat}{ys:L (L D)}{c':C}(hc:(s r).at j=.own e ys)(hr:r.isArg=I)(S:c'=.dead∨c'=.d (.sl e ys)) {u0:az}{b0:Nat}(hh:bU K β a w r j=J u0)(A:dB u0=J b0){ω':Nat→Option cj}{Z':Nat→Prop} (hZ:∀b,Z' b↔Z b∨(c'≠.dead∧b=b0))(H:∀b,b≠b0→ω' b=ω b)(awD:c'≠.dead→ω' b0=O):Rel K β ω' Z' (s.set r {s r with v:=(s r).v.setCell j c'}) a w∧Calm K β a ω Z s w ω' Z' (s.set r {s r with v:=(s r).v.setCell j c'}) w∧jK K β (s.set r {s r with v:=(s r).v.setCell j c'}) a w b0:=by
 have z:=gK hc (by simp);let⟨F6,hwr⟩:=h.own r j e ys u0 b0 hr z hh A;let⟨hnz,hlt,hE⟩:=h.c9 _ _ F6;let⟨u,hu1,P⟩:=h.cell z;rw[hh]at hu1;cases hu1;have hno:∀e xs,c'≠.own e xs:=by rcases S with rfl|rfl<;>simp
 generalize T:s.set r {s r with v:=(s r).v.setCell j c'}=s';have n:∀q,(s' q).v=if q=r then(s r).v.setCell j c' else(s q).v:=λq=>by rw[←T];exact A0 ..
 have l:∀(q:aD)(i e:Nat)(xs:L (L D)),(s' q).v.cells[i]?=J (.own e xs)→(s q).v.cells[i]?=J (.own e xs)∧¬(q=r∧i=j):=by grind [FR]
 have R:∀q,fA (s q) (s' q):=by
  intro q;by_cases N:q=r;subst N;rw[←T,kl];refine⟨Nat.le_refl _,Nat.le_refl _,λ_ i hi=>?_⟩;have Mh:∀i,({s q with v:=(s q).v.setCell j c'}:RV).at i=if i=j∧i<(s q).v.cells.length then c' else(s q).at i:=by grind [RV.at,pO]
  rw[Mh]at hi ⊢;by_cases hx:i=j∧i<(s q).v.cells.length;rw[ax hx]at hi ⊢;obtain⟨rfl,_⟩:=hx;rw[hc];rcases S with rfl|rfl
  exact bX rfl hi;exact .inr (.inl ⟨e,ys,rfl,rfl⟩);rw[aK hx];exact .inl rfl;rw[←T,km _ _ N];exact fA.refl _
 have F:∀b,Z b→Z' b:=λb f=>(hZ b).2 (.inl f);have hfr:∀b,b<w.heap.size→jK K β s a w b→ω' b=ω b∧jK K β s' a w b:=by intro b _ hf;have hne:b≠b0:=λf=>hf r j e ys u0 b0 hr z hh A f.symm;exact⟨H b hne,λq i B xs E G N o p y=>hf q i B xs E G N (l q i B xs o).1 p y⟩
 have V:Calm K β a ω Z s w ω' Z' s' w:=⟨F,λ_ _=>rfl,Nat.le_refl _,R,λ_ _=>rfl,hfr⟩;have m:∀(c:C)(u:az),aH K β Z s a w c u→aH K β Z' s' a w c u:=λc u pP=>aH.step (λ_ _ h=>h) (λb f=>⟨rfl,F b f⟩) R (λ_ _ _ _=>rfl) (λ_ _ _ _ _=>rfl) pP;have hnew:aH K β Z' s' a w c' u0:=by
  rcases S with rfl|rfl
  trivial;by_cases he:isMap e=W;obtain⟨b,rfl,g⟩:=(aH.jh he).1 P;rw[kr,Option.some.injEq]at A;subst A;exact(a6.mr he).2 ⟨b,rfl,(hZ _).2 (.inr ⟨by simp,rfl⟩),dh.mono (λb f=>⟨rfl,F b f⟩) e ys _ rfl g⟩;have he:isMap e=I:=by simpa using he
  obtain⟨ad,cap,rfl,hsp,hle,X⟩:=(aH.gY he).1 P;simp only[dB,Option.some.injEq]at A;subst A;exact(a6.fR he).2 ⟨ad,cap,rfl,.inr ⟨hsp,(hZ _).2 (.inr ⟨by simp,rfl⟩)⟩,hle,cH.mono (λb f=>⟨rfl,F b f⟩) e ys _ _ rfl X⟩
 have hne_of:∀(q:aD)(i B:Nat)(xs:L (L D))(E:az)(G:Nat),q.isArg=I→(s q).v.cells[i]?=J (.own B xs)→¬(q=r∧i=j)→bU K β a w q i=J E→dB E=J G→G≠b0:=by intro q i B xs E G N o hn p y f;have:=(h.own q i B xs E G N o p y).1;grind
 have FT:∀(v:az),bj (aH K β Z s a w) v (s r).v→(∀u,(flat v)[j]?=J u→u=u0)→bj (aH K β Z' s' a w) v ((s r).v.setCell j c'):=λv hv hu=>bj.setCell (bj.mono (λc u _=>m c u) hv) λu T0=>by grind
 refine⟨⟨h.size,h.defers,h.os,h.tape,h.output,h.base,h.frame,?_,λb f=>F b (h.ky b f),?_,?_,?_,?_,?_,?_,?_,h.mx⟩,V,?_⟩;intro b f;rcases(hZ b).1 f with f|⟨_,rfl⟩
 exact h.cD b f;exact hlt;intro b f;rcases(hZ b).1 f with f|⟨_,rfl⟩
 rcases h.lA b f with g|g|g|⟨i,j',B,ys',E,Y,g2,g3⟩
 exact .inl g;exact .inr (.inl g);grind;grind [aD.isArg];grind;intro t;rw[n];split;rename_i ht;have ht':(s (.tmp t)).v=(s r).v:=by rw[ht]
 refine FT _ (ht'▸h.tmps t) λu hu=>?_;grind [bU];exact bj.mono (λc u _=>m c u) (h.tmps t);intro i;rw[n,aK (by grind [aD.isArg])];exact bj.mono (λc u _=>m c u) (h.args i);intro k;have f:=h.boxes k;rw[n];split;rename_i hk;subst hk;cases hv:(s (.box k)).v with
 |agg cs=>let⟨b,ws,el,lo,hi,Y,g2,g3,g4,g5⟩:=di.cell h hv;refine⟨b,ws,el,lo,hi,Y,?_,g3,g4,?_⟩;rw[H b];exact g2;grind;refine aG.set (g5.mono λu c=>m c u) λu hu=>?_;grind [lB]
 |one c=>rw[hv]at f;exact f.elim|aX x=>rw[hv]at f;exact f.elim|undef=>simp_all [SV.cells]
 cases hv:(s (.box k)).v with
 |agg cs=>let⟨b,ws,el,lo,hi,Y,g2,g3,g4,g5⟩:=di.cell h hv;refine⟨b,ws,el,lo,hi,Y,?_,g3,g4,g5.mono λu c=>m c u⟩;rw[H b];exact g2;grind
 |one c=>rw[hv]at f;exact f.elim|aX x=>rw[hv]at f;exact f.elim|undef=>rw[hv]at f;exact f
 intro q i B xs E G N o p y;let⟨Y,g2⟩:=l q i B xs o;let⟨g3,g4⟩:=h.own q i B xs E G N Y p y;grind;intro i j' B xs E G o p y;exact h.gw i j' B xs E G (l _ _ _ _ o).1 p y;intro b g f;by_cases hbb:b=b0;grind;rw[H b hbb]at f;let⟨Y,g2,g3⟩:=h.c9 b g f;grind;intro q i B xs E G N o p y;grind
end
section
variable{K:Ctx}{β:Key→Option Nat}{ω:Nat→Option cj}{Z:Nat→Prop}{s:St}{a:Act}{w:World}
def Rel.iQ(h:Rel K β ω Z s a w){t:Nat}(Y:t<K.N){u:az}{v:SV}(hv:bj (aH K β Z s a w) u v) (ho:∀(j e:Nat)(xs:L (L D))(p:az)(b:Nat),v.cells[j]?=J (.own e xs)→(flat u)[j]?=J p→dB p=J b→ω b=J (.tmp t,J j)∧kO w e p):Rel K β ω Z (s.set (.tmp t) {hv:=(s (.tmp t)).hv+1,cv:=(s (.tmp t)).cv,v}) (a.put (J t) u) w:=by
 generalize m:s.set (.tmp t) {hv:=(s (.tmp t)).hv+1,cv:=(s (.tmp t)).cv,v}=s';have d:∀q,(s' q).v=if q=.tmp t then v else(s q).v:=λq=>by rw[←m];exact A0 ..
 have A:∀n,(a.put (J t) u).tmps.getD n undef=if n=t then u else a.tmps.getD n undef:=by intro n;simp only[Act.put,Array.getD_eq_getD_getElem?,Array.getElem?_setIfInBounds];grind [Rel.size]
 have o:∀r j,r≠.tmp t→bU K β (a.put (J t) u) w r j=bU K β a w r j:=by
  intro r j F;cases r with|tmp n=>simp_all [bU]|box k=>rfl|arg i=>rfl
 have B:∀q,fA (s q) (s' q):=by intro q;by_cases y:q=.tmp t;subst y;rw[←m,kl];exact fA.bump rfl rfl;rw[←m,km _ _ y];exact fA.refl _
 have f:∀(c:C)(x:az),aH K β Z s a w c x→aH K β Z s' (a.put (J t) u) w c x:=λc x G=>aH.step (λ_ _ h=>h) (λb l=>⟨rfl,l⟩) B (λr j F _=>by by_cases y:r=.tmp t;subst y;rw[←m,kl]at F;simp at F;exact o r j y) (λ_ _ _ _ _=>rfl) G;refine⟨by simpa[Act.put]using h.size,h.defers,h.os,h.tape,h.output,h.base,h.frame,h.cD,h.ky,?_,?_,?_,?_,?_,?_,h.c9,h.mx⟩;intro b l;rcases h.lA b l with g|g|g|⟨i,j',H,T,u',P,R,S⟩
 exact .inl g;exact .inr (.inl g);grind;grind;intro n;rw[d,A];by_cases e:n=t;grind [bj.mono];rw[aK e,aK (by simpa using e)];exact bj.mono (λc x _=>f c x) (h.tmps n);intro i;rw[d,aK (by simp)];exact bj.mono (λc x _=>f c x) (h.args i);intro k;rw[d,aK (by simp)];have l:=h.boxes k;cases hv:(s (.box k)).v with
 |agg cs=>let⟨b,ws,el,lo,hi,P,R,S,V,X⟩:=di.cell h hv;exact⟨b,ws,el,lo,hi,P,R,S,V,X.mono λu c=>f c u⟩
 |one c=>rw[hv]at l;exact l.elim|aX x=>rw[hv]at l;exact l.elim|undef=>rw[hv]at l;exact l
 intro q i e xs p b y z E l;rw[d]at z;by_cases H:q=.tmp t;grind [bU];rw[aK H]at z;rw[o q i H]at E;exact h.own q i e xs p b y z E l;intro i j e xs p b z E l;rw[d,aK (by simp)]at z;exact h.gw i j e xs p b z E l
def Rel.ae5(h:Rel K β ω Z s a w){i j e:Nat}{ys:L (L D)}(hc:(s (.arg i)).at j=.own e ys){u0:az}{A:Nat}(hh:(flat (K.argv.getD i undef))[j]?=J u0)(F:dB u0=J A):Rel K β ω (λb=>Z b∨(b=A∧Live u0)) (s.set (.arg i) {s (.arg i)with v:=(s (.arg i)).v.setCell j (.d (.sl e ys))}) a w∧Calm K β a ω Z s w ω (λb=>Z b∨(b=A∧Live u0)) (s.set (.arg i) {s (.arg i)with v:=(s (.arg i)).v.setCell j (.d (.sl e ys))}) w:=by
 have n:=gK hc (by simp);let⟨u,G,T⟩:=h.cell n;simp only[bU]at G;rw[hh]at G;cases G;let⟨V,hE⟩:=h.gw i j e ys u0 A n hh F;generalize H:s.set (.arg i) {s (.arg i)with v:=(s (.arg i)).v.setCell j (.d (.sl e ys))}=s';have o:∀q,(s' q).v=if q=.arg i then(s (.arg i)).v.setCell j (.d (.sl e ys))else(s q).v:=λq=>by rw[←H];exact A0 ..
 have awE:ω A=O:=by
  cases hω:ω A with|none=>rfl|some g=>exact bX ((h.c9 _ _ hω).2.2 V) hE
 have f:∀(q:aD)(l e:Nat)(xs:L (L D)),(s' q).v.cells[l]?=J (.own e xs)→(s q).v.cells[l]?=J (.own e xs):=by grind [FR]
 have B:∀q,fA (s q) (s' q):=by intro q;by_cases R:q=.arg i;subst R;rw[←H,kl];refine⟨Nat.le_refl _,Nat.le_refl _,λ_ l hl=>?_⟩;simp only[RV.at,pO,iy,xO]at hl ⊢;by_cases X:j=l;subst X;have Y:j<(s (.arg i)).v.cells.length:=(gi.1 n).1;simp only[bf,Y,Option.getD_some];exact .inr (.inl ⟨e,ys,by rw[n];rfl,rfl⟩);simp only[X,bC];exact .inl rfl;rw[←H,km _ _ R];exact fA.refl _
 have hfr:∀b,b<w.heap.size→jK K β s a w b→ω b=ω b∧jK K β s' a w b:=λb _ hf=>⟨rfl,λq l E xs S b' R r y z=>hf q l E xs S b' R (f q l E xs r) y z⟩;have N:Calm K β a ω Z s w ω (λb=>Z b∨(b=A∧Live u0)) s' w:=⟨λb m=>.inl m,λ_ _=>rfl,Nat.le_refl _,B,λ_ _=>rfl,hfr⟩;have p:∀(c:C)(u:az),aH K β Z s a w c u→aH K β (λb=>Z b∨(b=A∧Live u0)) s' a w c u:=λc u pP=>aH.step (λ_ _ h=>h) (λb m=>⟨rfl,.inl m⟩) B (λ_ _ _ _=>rfl) (λ_ _ _ _ _=>rfl) pP;have hnew:aH K β (λb=>Z b∨(b=A∧Live u0)) s' a w (.d (.sl e ys)) u0:=by
  show a6 w (λb=>Z b∨(b=A∧Live u0)) (.sl e ys) u0;by_cases he:isMap e=W;grind [aH.jh,kr,a6.mr,TW];have he:isMap e=I:=by simpa using he
  obtain⟨ad,cap,rfl,hsp,hle,P⟩:=(aH.gY he).1 T;simp only[dB,Option.some.injEq]at F;subst F;exact(a6.fR he).2 ⟨ad,cap,rfl,(Nat.eq_zero_or_pos cap).imp id λhc=>⟨hsp,.inr ⟨rfl,Nat.ne_of_gt hc⟩⟩,hle,cH.mono (λb m=>⟨rfl,.inl m⟩) e ys _ _ rfl P⟩
 refine⟨⟨h.size,h.defers,h.os,h.tape,h.output,h.base,h.frame,?_,λb m=>.inl (h.ky b m),?_,?_,?_,?_,?_,?_,?_,h.mx⟩,N⟩;rintro b (m|⟨rfl,hcap⟩);exact h.cD b m;exact Nat.lt_of_lt_of_le V h.base;rintro b (m|⟨rfl,hcap⟩);rcases h.lA b m with g|g|g|⟨i',j',E,ys',S,g1,g2,g3⟩
 exact .inl g;exact .inr (.inl g);grind;grind [pO];grind [pO];intro t;rw[o,aK (by simp)];exact bj.mono (λc u _=>p c u) (h.tmps t);intro i';rw[o];split;rename_i hi;cases hi;refine bj.setCell (bj.mono (λc u _=>p c u) (h.args i)) λu hu=>?_;grind;exact bj.mono (λc u _=>p c u) (h.args i');intro k;have m:=h.boxes k;rw[o,aK (by simp)];cases hv:(s (.box k)).v with
 |agg cs=>let⟨b,ws,el,lo,hi,g1,g2,g3,g4,g5⟩:=di.cell h hv;exact⟨b,ws,el,lo,hi,g1,g2,g3,g4,g5.mono λu c=>p c u⟩
 |one c=>rw[hv]at m;exact m.elim|aX x=>rw[hv]at m;exact m.elim|undef=>rw[hv]at m;exact m
 intro q l E xs S b' R r y z;exact h.own q l E xs S b' R (f q l E xs r) y z;intro i' j' E xs S b' r y z;exact h.gw i' j' E xs S b' (f _ _ _ _ r) y z;intro b g m;let⟨g1,g2,g3⟩:=h.c9 b g m;grind
def Rel.Mi(h:Rel K β ω Z s a w){w':World}(e:∀b,b<w.heap.size→w'.heap[b]?=w.heap[b]?)(r:aD)(j:Nat):bU K β a w' r j=bU K β a w r j:=by
 cases r with
 |tmp t=>rfl|arg i=>rfl|box k=>
  have d:=h.boxes k;cases hv:(s (.box k)).v with|agg cs=>grind [di.cell,bU,cell_of_heap]|one c=>rw[hv]at d;exact d.elim|aX x=>rw[hv]at d;exact d.elim|undef=>rw[hv]at d;simp only[di]at d;simp[bU,d]
theorem Rel.grow(h:Rel K β ω Z s a w){w':World}(d:∀b,b<w.heap.size→w'.heap[b]?=w.heap[b]?)(n:w.heap.size≤w'.heap.size)(S:w'.os=w.os)(D:w'.tape=w.tape)(F:w'.output=w.output) {ω':Nat→Option cj}(G:∀b,b<w.heap.size→ω' b=ω b)(H:∀b g,w.heap.size≤b→ω' b=J g→b<w'.heap.size):Rel K β ω' Z s a w'∧Calm K β a ω Z s w ω' Z s w':=by
 have B:=h.Mi d;have T:∀b,b<w.heap.size→jK K β s a w b→ω' b=ω b∧jK K β s a w' b:=λb f hf=>⟨G b f,λq l e' xs P V X Y hh1 z=>hf q l e' xs P V X Y (by grind) z⟩;have p:Calm K β a ω Z s w ω' Z s w':=⟨λb f=>f,d,n,λ_=>fA.refl _,B,T⟩;have m:∀(r:aD)(j:Nat)(c:C)(u:az),(s r).v.cells[j]?=J c→bU K β a w r j=J u→aH K β Z s a w c u→aH K β Z s a w' c u:=by
  intro r j c u y A pP;refine p.jM h.cD (λe xs b h1 h2=>?_) pP;subst h1;by_cases hr:r.isArg=W;cases r with|arg i=>exact Nat.lt_of_lt_of_le (h.gw i j e xs u b y A h2).1 h.base|tmp t=>simp[aD.isArg]at hr|box k=>simp[aD.isArg]at hr
  exact(h.c9 _ _ (h.own r j e xs u b (by simpa using hr) y A h2).1).2.1
 refine⟨⟨h.size,h.defers,S.trans h.os,D.trans h.tape,F.trans h.output,Nat.le_trans h.base n,?_,λb f=>Nat.lt_of_lt_of_le (h.cD b f) n,h.ky,h.lA,?_,?_,?_,?_,h.gw,?_,h.mx⟩,p⟩;intro b f hE;rw[d b (Nat.lt_of_lt_of_le f h.base)];exact h.frame b f hE;intro t;exact bj.mv (λj c u y A=>m (.tmp t) j c u y A) (h.tmps t);intro i;exact bj.mv (λj c u y A=>m (.arg i) j c u y A) (h.args i);intro k;have f:=h.boxes k;cases hv:(s (.box k)).v with
 |agg cs=>let⟨b,ws,el,lo,hi,N,R,g3,g4,g5⟩:=di.cell h hv;have o:=(h.c9 _ _ R).2.1;refine⟨b,ws,el,lo,hi,N,by grind,by grind,g4,aG.c8 g5.length λj u c A y=>?_⟩;let⟨P,h1,h2⟩:=g5.get y;rw[A]at h1;cases h1;exact m (.box k) j c u (by rw[hv];exact y) (by rw[lB N g3];exact A) h2
 |one c=>rw[hv]at f;exact f.elim|aX x=>rw[hv]at f;exact f.elim|undef=>rw[hv]at f;exact f
 intro q i e xs P V X y hh z;rw[B]at hh;let⟨N,R⟩:=h.own q i e xs P V X y hh z;have o:=(h.c9 _ _ N).2.1;exact⟨by grind,R.mono z (d _ o)⟩;intro b g f;by_cases o:b<w.heap.size;rw[G b o]at f;let⟨N,R,g3⟩:=h.c9 b g f;grind;exact⟨λhz=>o (h.cD b hz),H b g (by omega) f,λE=>bX (Nat.lt_of_lt_of_le E h.base) o⟩
def Rel.newObj(h:Rel K β ω Z s a w)(o:Obj)(g:cj):Rel K β (λb=>if b=w.heap.size then J g else ω b) Z s a (w.alloc o)∧Calm K β a ω Z s w (λb=>if b=w.heap.size then J g else ω b) Z s (w.alloc o)∧jK K β s a (w.alloc o) w.heap.size∧(w.alloc o).heap[w.heap.size]?=J o:=by
 have c:∀b,b<w.heap.size→(w.alloc o).heap[b]?=w.heap[b]? :=λb e=>by show(w.heap.push _)[b]?=_;grind
 let⟨h1,h2⟩:=h.grow (w':=w.alloc o) (ω':=λb=>if b=w.heap.size then J g else ω b) c (by simp) rfl rfl rfl (λb e=>by simp[Nat.ne_of_lt e]) (λb t e k=>by simp only[World.size_alloc];by_cases f:b=w.heap.size;omega;rw[aK f]at k;have:=(h.c9 b _ k).2.1;omega);refine⟨h1,h2,?_,?_⟩;intro q l m xs n p r i d j e;rw[h.Mi c]at d;have:=(h.c9 _ _ (h.own q l m xs n p r i d j).1).2.1;omega;show(w.heap.push _)[w.heap.size]?=_;simp
def Rel.alloc(h:Rel K β ω Z s a w)(cs:bv az)(el:aW)(g:cj):Rel K β (λb=>if b=w.heap.size then J g else ω b) Z s a (w.alloc (.cells cs el))∧Calm K β a ω Z s w (λb=>if b=w.heap.size then J g else ω b) Z s (w.alloc (.cells cs el))∧jK K β s a (w.alloc (.cells cs el)) w.heap.size∧(w.alloc (.cells cs el)).heap[w.heap.size]?=J (.cells cs el (0,0)):=h.newObj _ g
def Rel.drew(h:Rel K β ω Z s a w):Rel K β ω Z s a {w with drawn:=w.drawn+1}∧Calm K β a ω Z s w ω Z s {w with drawn:=w.drawn+1}:=h.grow (w':={w with drawn:=w.drawn+1}) (ω':=ω) (λ_ _=>rfl) (Nat.le_refl _) rfl rfl rfl (λ_ _=>rfl) (λb g d c=>by have:=(h.c9 b g c).2.1;omega)
end
theorem vt(b o n:Nat):Addr.add ⟨b,o,O⟩ n=⟨b,o+n,O⟩:=by simp_all [Addr.add]
theorem pQ{a:dt}(h:a.spot=O)(n:Nat):a.add n=⟨a.block,a.off+n,O⟩:=by let⟨b,o,c⟩:=a;simp_all [vt]
def run_loadCellsFrom{P:dr}{w:World}{b o:Nat}{ws:bv az}{el:aW}{fz:Nat×Nat}(d:w.heap[b]?=J (.cells ws el fz)):∀(n i:Nat)(acc:bv az),o+i+n≤ws.size→(loadCellsFrom ⟨b,o,O⟩ i n acc).run P w=.ok (acc++(ws.extract (o+i) (o+i+n))) w:=by
 intro n;induction n with
 |zero=>simp_all [loadCellsFrom]|succ n a=>
  intro i acc h;have c:w.cell? ⟨b,o+i,O⟩=J ws[o+i]:=by grind [World.cell?]
  simp only[loadCellsFrom,cL,vt,load,Sem.run,c,cO];rw[a (i+1) _ (by omega)];congr 1;grind
def run_loadCells{P:dr}{w:World}{b o n:Nat}{ws:bv az}{el:aW}{fz:Nat×Nat}(a:w.heap[b]?=J (.cells ws el fz))(h:o+n≤ws.size):(loadCells ⟨b,o,O⟩ n).run P w=.ok (ws.extract o (o+n)) w:=by have:=run_loadCellsFrom (P:=P) a n 0 #[] (by omega);simpa[loadCells]using this
structure A1(w w':World)(b:Nat)(ws ga:Array Value)(el:TypeId)(fz:Nat×Nat):Prop where
 os:w'.os=w.os
 tape:w'.tape=w.tape
 output:w'.output=w.output
 size:w'.heap.size=w.heap.size
 other:∀c,c≠b→w'.heap[c]?=w.heap[c]?
 here:w'.heap[b]?=some (.cells ga el fz)
 len:ga.size=ws.size
def heap_setCell{w:World}{b o:Nat}{v:az}{ws:bv az}{el:aW}{fz:Nat×Nat}(a:w.heap[b]?=J (.cells ws el fz)):(w.setCell ⟨b,o,O⟩ v).heap[b]?=J (.cells (ws.setIfInBounds o v) el fz)∧∀c,c≠b→(w.setCell ⟨b,o,O⟩ v).heap[c]?=w.heap[c]? :=by simp_all [World.setCell,Array.getElem?_modify,Ne.symm]
theorem T3{l:L az}{o:Nat}{v:az}{vs:L az}(h:o<l.length):splice (l.set o v) (o+1) vs=splice l o (v::vs):=by
 have h1:(l.set o v).take (o+1)=l.take o++[v]:=by rw[List.take_set,List.take_succ_eq_append_getElem h,List.set_append_right _ _ (by simp;omega)];simp[Nat.min_eq_left (Nat.le_of_lt h)]
 grind [splice,List.drop_set_of_lt]
def Mj{P:dr}{b o:Nat}{el:aW}{lo hi:Nat}:∀(vs:L az)(i:Nat)(w:World)(ws:bv az),w.heap[b]?=J (.cells ws el (lo,hi))→(∀x,x<ws.size→¬(lo≤x∧x<hi))→o+i+vs.length≤ws.size→(∀v∈vs,fH v=W)→∃w' ga,(storeCells ⟨b,o,O⟩ vs i).run P w=.ok () w'∧A1 w w' b ws ga el (lo,hi)∧ga.toList=splice ws.toList (o+i) vs:=by
 intro vs;induction vs with
 |nil=>intro i w ws e h j hv;exact⟨w,ws,by simp[storeCells],⟨rfl,rfl,rfl,rfl,λ_ _=>rfl,e,rfl⟩,by simp[splice]⟩
 |cons v vs l=>
  intro i w ws e h j hv;simp only[jr]at j;have f:o+i<ws.size:=by omega
  have g:w.cell? ⟨b,o+i,O⟩=J ws[o+i]:=by simp[World.cell?,e,Array.getElem?_eq_getElem f]
  have m:w.frozen? ⟨b,o+i,O⟩=I:=by simp_all [World.frozen?]
  have k:=hv v (jq ..);have a:(store ⟨b,o+i,O⟩ v).run P w=.ok () (w.setCell ⟨b,o+i,O⟩ v):=by cases v<;>simp_all [store,Sem.run,fH]
  let⟨h1,h2⟩:=heap_setCell (w:=w) (v:=v) (o:=o+i) e;let⟨w',ga,n,d,q⟩:=l (i+1) (w.setCell ⟨b,o+i,O⟩ v) (ws.setIfInBounds (o+i) v) h1 (by simpa using h) (by simp;omega) (λx p=>hv x (gU _ p));refine⟨w',ga,?_,⟨d.os,d.tape,d.output,by rw[d.size];simp[World.setCell],λc g=>(d.other c g).trans (h2 c g),d.here,by rw[d.len];simp⟩,?_⟩;simp only[storeCells,cL,vt,a,cO];exact n;grind [T3]
section
variable{K:Ctx}{β:Key→Option Nat}{ω:Nat→Option cj}{Z:Nat→Prop}{s:St}{a:Act}{w:World}
def Rel.awF(h:Rel K β ω Z s a w){k k':Key}{b d:Nat}(i:β k=J b)(f:ω b=J (.box k,O))(hk:k'≠k)(g:β k'=J d):d≠b:=by
 intro e;subst e;have:=h.boxes k';cases hv:(s (.box k')).v with|agg cs=>grind [di.cell]|one c=>rw[hv]at this;exact this.elim|aX x=>rw[hv]at this;exact this.elim|undef=>rw[hv]at this;simp only[di]at this;grind
def Rel.Mk(h:Rel K β ω Z s a w){k:Key}{b:Nat}{ws:bv az}{el:aW}{lo hi:Nat}{w':World}{cs:L C} (hω:ω b=J (.box k,O))(T4:β k=O∨β k=J b) (hos:w'.os=w.os)(T:w'.tape=w.tape)(hout:w'.output=w.output)(z:w'.heap.size=w.heap.size)(d:∀c,c≠b→w'.heap[c]?=w.heap[c]?) (F:w'.heap[b]?=J (.cells ws el (lo,hi)))(hfz:∀o,o<ws.size→¬(lo≤o∧o<hi)) (hcs:aG (λu c=>aH K β Z s a w c u) ws.toList cs) (V:∀(j e:Nat)(xs:L (L D))(E:az)(m:Nat),cs[j]?=J (.own e xs)→ws.toList[j]?=J E→dB E=J m→ω m=J (.box k,J j)∧kO w e E):Rel K (λk'=>if k'=k then J b else β k') ω Z (s.set (.box k) {hv:=(s (.box k)).hv+1,cv:=(s (.box k)).cv,v:=.agg cs}) a w'∧
  (∀(c:C)(u:az),(∀(e:Nat)(xs:L (L D))(m:Nat),c=.own e xs→dB u=J m→m≠b)→aH K β Z s a w c u→
    aH K (λk'=>if k'=k then J b else β k') Z (s.set (.box k) {hv:=(s (.box k)).hv+1,cv:=(s (.box k)).cv,v:=.agg cs}) a w' c u):=by
 generalize P:s.set (.box k) {hv:=(s (.box k)).hv+1,cv:=(s (.box k)).cv,v:=.agg cs}=s'
 generalize T5:(λk'=>if k'=k then J b else β k')=B
 have R:B k=J b:=by rw[←T5];simp
 have A2:∀k',k'≠k→B k'=β k':=λk' hk=>by grind
 have f:∀q,(s' q).v=if q=.box k then .agg cs else(s q).v:=λq=>by rw[←P];exact A0 ..
 let⟨hnz,hlt,hE⟩:=h.c9 _ _ hω
 have awG:∀k' b',k'≠k→β k'=J b'→b'≠b:=by
  intro k' b' hk l e;subst e;have:=h.boxes k';cases hv:(s (.box k')).v with|agg cs'=>grind [di.cell]|one c=>rw[hv]at this;exact this.elim|aX x=>rw[hv]at this;exact this.elim|undef=>rw[hv]at this;simp only[di]at this;grind
 have S:∀r j,r≠.box k→bU K B a w' r j=bU K β a w r j:=by
  intro r j hr;cases r with
  |tmp t=>rfl|arg i=>rfl|box k'=>
   have hk:k'≠k:=λe=>hr (by rw[e]);simp only[bU,A2 k' hk];cases l:β k' with|none=>rfl|some b'=>grind [cell_of_heap]
 have Ml:∀q,fA (s q) (s' q):=by intro q;by_cases X:q=.box k;subst X;rw[←P,kl];exact fA.bump rfl rfl;rw[←P,km _ _ X];exact fA.refl _
 have y:∀k' b',β k'=J b'→B k'=J b':=by grind
 have G:∀(c:C)(u:az),(∀(e:Nat)(xs:L (L D))(m:Nat),c=.own e xs→dB u=J m→m≠b)→aH K β Z s a w c u→aH K B Z s' a w' c u:=λc u pP h1=>
  aH.step y (λb' l=>⟨d b' (λe=>hnz (e▸l)),l⟩) Ml (λr j hr _=>by
   by_cases X:r=.box k
   subst X;rw[←P,kl]at hr;simp at hr
   exact S r j X) (λe xs m h2 h3=>d _ (pP e xs m h2 h3)) h1
 have p:∀(r:aD)(j:Nat)(c:C)(u:az),r≠.box k→(s r).v.cells[j]?=J c→bU K β a w r j=J u→aH K β Z s a w c u→aH K B Z s' a w' c u:=by
  intro r j c u hr n N;refine G c u λe xs m h1 h2 Y=>?_;subst h1;by_cases oH:r.isArg=W;cases r with
  |arg i=>let⟨g1,g2⟩:=h.gw i j e xs u m n N h2;grind
  |tmp t=>simp[aD.isArg]at oH|box k=>simp[aD.isArg]at oH
  have:=(h.own r j e xs u m (by simpa using oH) n N h2).1;grind
 have H:∀(j e:Nat)(xs:L (L D))(E:az)(m:Nat),cs[j]?=J (.own e xs)→ws.toList[j]?=J E→dB E=J m→m≠b:=by grind
 refine⟨⟨h.size,h.defers,hos.trans h.os,T.trans h.tape,hout.trans h.output,by rw[z];exact h.base,?_,λb' l=>by rw[z];exact h.cD b' l,h.ky,?_,?_,?_,?_,?_,?_,?_,λk' b' l=>y k' b' (h.mx k' b' l)⟩,G⟩
 intro b' l Mm
 rw[d b' (λe=>by grind)]
 exact h.frame b' l Mm
 intro b' l
 rcases h.lA b' l with g|g|g|⟨i,j',e',ys',u',g1,g2,g3⟩
 exact .inl g
 exact .inr (.inl g)
 grind
 grind
 intro t
 rw[f,aK (by simp)]
 exact bj.mv (λj c u n N=>p (.tmp t) j c u (by simp) n N) (h.tmps t)
 intro i
 rw[f,aK (by simp)]
 exact bj.mv (λj c u n N=>p (.arg i) j c u (by simp) n N) (h.args i)
 intro k'
 rw[f]
 by_cases hk:k'=k
 subst hk
 rw[ax rfl]
 refine⟨b,ws,el,lo,hi,R,hω,F,hfz,aG.c8 hcs.length λj u c N n=>?_⟩
 let⟨u',h1,h2⟩:=hcs.get n
 grind
 rw[aK (by simpa using hk)]
 have Y:=h.boxes k'
 cases hv:(s (.box k')).v with
 |agg cs'=>let⟨b2,yp,A3,A4,hi2,g1,g2,g3,g4,g5⟩:=di.cell h hv;refine⟨b2,yp,A3,A4,hi2,by grind,g2,by grind,g4,aG.c8 g5.length λj u c N n=>?_⟩;let⟨u',h1,h2⟩:=g5.get n;rw[N]at h1;cases h1;exact p (.box k') j c u (by simpa using hk) (by rw[hv];exact n) (by rw[lB g1 g3];exact N) h2
 |one c=>rw[hv]at Y;exact Y.elim|aX x=>rw[hv]at Y;exact Y.elim|undef=>rw[hv]at Y;simp only[di]at Y ⊢;grind
 intro q i e xs E m X n hh A
 rw[f]at n
 by_cases hqk:q=.box k
 subst hqk
 rw[ax rfl]at n
 rw[lB R F]at hh
 let⟨g1,g2⟩:=V i e xs E m n hh A
 exact⟨g1,g2.mono A (d _ (H i e xs E m n hh A))⟩
 rw[aK hqk]at n
 rw[S q i hqk]at hh
 let⟨g1,g2⟩:=h.own q i e xs E m X n hh A
 exact⟨g1,g2.mono A (d _ (λe=>by grind))⟩
 intro i j e xs E m n hh A
 rw[f,aK (by simp)]at n
 exact h.gw i j e xs E m n hh A
 intro b' g l
 rw[z]
 exact h.c9 b' g l
structure FU(w w':World)(b:Nat):Prop where
 os:w'.os=w.os
 tape:w'.tape=w.tape
 output:w'.output=w.output
 size:w'.heap.size=w.heap.size
 other:∀c,c≠b→w'.heap[c]?=w.heap[c]?
def A1.chg{w w':World}{b:Nat}{ws ga:bv az}{el:aW}{fz:Nat×Nat}(h:A1 w w' b ws ga el fz):FU w w' b:=⟨h.os,h.tape,h.output,h.size,h.other⟩
def Rel.T6(h:Rel K β ω Z s a w){r:aD}{j e:Nat}{ys ys':L (L D)}(hc:(s r).at j=.own e ys)(hr:r.isArg=I){u0:az}{b0:Nat}(hh:bU K β a w r j=J u0)(hb0:dB u0=J b0) {w':World}(B:FU w w' b0)(awH:kO w' e u0) (hnew:∀(s':St),aH K β Z s' a w' (.own e ys') u0):Rel K β ω Z (s.set r {s r with cv:=(s r).cv+1,v:=(s r).v.setCell j (.own e ys')}) a w':=by
 have p:=gK hc (by simp);let⟨F6,hwr⟩:=h.own r j e ys u0 b0 hr p hh hb0;let⟨hnz,hlt,hE⟩:=h.c9 _ _ F6;generalize X:s.set r {s r with cv:=(s r).cv+1,v:=(s r).v.setCell j (.own e ys')}=s';have d:∀q,(s' q).v=if q=r then(s r).v.setCell j (.own e ys')else(s q).v:=λq=>by rw[←X];exact A0 ..
 have l:∀(q:aD)(i F:Nat)(xs:L (L D)),(s' q).v.cells[i]?=J (.own F xs)→(q=r∧i=j∧F=e∧xs=ys')∨((s q).v.cells[i]?=J (.own F xs)∧¬(q=r∧i=j)):=by grind [FR]
 have Ml:∀q,fA (s q) (s' q):=by intro q;by_cases y:q=r;subst y;rw[←X,kl];refine⟨Nat.le_refl _,by simp,λ_ i hi=>?_⟩;simp only[RV.at,pO,iy,xO]at hi ⊢;by_cases hij:j=i;subst hij;have hl:j<(s q).v.cells.length:=(gi.1 p).1;simp only[bf,hl,Option.getD_some];exact .inr (.inr ⟨by omega,e,ys,ys',by rw[p];rfl,.inl rfl⟩);simp only[hij,bC];exact .inl rfl;rw[←X,km _ _ y];exact fA.refl _
 have m:∀k' f,β k'=J f→f≠b0:=by
  intro k' f b e;subst e;have:=h.boxes k';cases hv:(s (.box k')).v with|agg G=>grind [di.cell]|one c=>rw[hv]at this;exact this.elim|aX x=>rw[hv]at this;exact this.elim|undef=>rw[hv]at this;simp only[di]at this;grind
 have V:∀q i,bU K β a w' q i=bU K β a w q i:=by
  intro q i;cases q with
  |tmp t=>rfl|arg i=>rfl|box k'=>
   simp only[bU];cases b:β k' with|none=>rfl|some f=>simp only[Option.bind_some];exact cell_of_heap (B.other f (m k' f b)) _ _
 have T7:∀(c:C)(u:az),(∀(e:Nat)(xs:L (L D))(H:Nat),c=.own e xs→dB u=J H→H≠b0)→aH K β Z s a w c u→aH K β Z s' a w' c u:=λc u pP h1=>aH.step (λ_ _ h=>h) (λf b=>⟨B.other f (λe=>hnz (e▸b)),b⟩) Ml (λq i _ _=>V q i) (λe xs H h2 h3=>B.other _ (pP e xs H h2 h3)) h1;have N:∀(q:aD)(i e':Nat)(xs:L (L D))(u':az)(f:Nat),(s q).v.cells[i]?=J (.own e' xs)→¬(q=r∧i=j)→bU K β a w q i=J u'→dB u'=J f→f≠b0:=by
  intro q i e' xs u' f A hn n o Y;by_cases y:q.isArg=W;cases q with
  |arg i'=>let⟨E,g2⟩:=h.gw i' i e' xs u' f A n o;grind
  |tmp t=>simp[aD.isArg]at y|box k=>simp[aD.isArg]at y
  have:=(h.own q i e' xs u' f (by simpa using y) A n o).1;grind
 have FV:∀(q:aD)(i:Nat)(c:C)(u:az),¬(q=r∧i=j)→(s q).v.cells[i]?=J c→bU K β a w q i=J u→aH K β Z s a w c u→aH K β Z s' a w' c u:=by grind
 have z:∀(q:aD)(i:Nat)(c:C)(u:az),(s' q).v.cells[i]?=J c→bU K β a w q i=J u→(∀c0,(s q).v.cells[i]?=J c0→aH K β Z s a w c0 u)→aH K β Z s' a w' c u:=by grind [FR]
 have P:∀(q:aD)(v:az),bj kx v (s q).v→bj kx v (s' q).v:=by intro q v hv;rw[d];split;rename_i y;subst y;exact bj.setCell hv λ_ _=>trivial;exact hv
 have hlenc:∀q,(s' q).v.cells.length=(s q).v.cells.length:=by grind [pO]
 have R:∀q,(s' q).v≠.undef→(s q).v≠.undef:=by intro q y e;apply y;rw[d];split;rename_i Mn;subst Mn;rw[e];rfl;exact e
 have FT:∀(q:aD)(v:az),(∀i,bU K β a w q i=(flat v)[i]?)→bj (aH K β Z s a w) v (s q).v→bj (aH K β Z s' a w') v (s' q).v:=by intro q v y hv;refine bj.of_flat (P q v hv.shape) λhu=>?_;have hf:=hv.flat (R q hu);refine aG.c8 (by rw[hf.length,hlenc]) λi u c MQ Ng=>?_;refine z q i c u Ng (by rw[y];exact MQ) λc0 S=>?_;let⟨u2,h1,h2⟩:=hf.get S;grind
 refine⟨h.size,h.defers,B.os.trans h.os,B.tape.trans h.tape,B.output.trans h.output,by rw[B.size];exact h.base,?_,λf b=>by rw[B.size];exact h.cD f b,h.ky,?_,?_,?_,?_,?_,?_,?_,h.mx⟩;intro f b Mm;rw[B.other f (λe=>by grind)];exact h.frame f b Mm;intro f b;rcases h.lA f b with g|g|g|⟨i,j',e',ys',u',E,g2,g3⟩
 exact .inl g;exact .inr (.inl g);grind;grind [aD.isArg];intro t;exact FT (.tmp t) _ (λ_=>rfl) (h.tmps t);intro i;exact FT (.arg i) _ (λ_=>rfl) (h.args i);intro k;have Y:=h.boxes k;cases hv:(s (.box k)).v with
 |agg cs=>
  let⟨b2,yp,A3,A4,hi2,E,g2,g3,g4,g5⟩:=di.cell h hv;have T:∃G,(s' (.box k)).v=.agg G∧G.length=cs.length:=by rw[d];split;rename_i hk;rw[←hk,hv];exact⟨_,rfl,by simp⟩;grind
  let⟨G,T,hl'⟩:=T;rw[T];refine⟨b2,yp,A3,A4,hi2,E,g2,by rw[B.other b2 (m k b2 E)];exact g3,g4,aG.c8 (by rw[g5.length,hl']) λi u c MQ Ng=>?_⟩;refine z (.box k) i c u (by rw[T];exact Ng) (by rw[lB E g3];exact MQ) λc0 S=>?_;rw[hv]at S;let⟨u2,h1,h2⟩:=g5.get S;grind
 |one c=>rw[hv]at Y;exact Y.elim|aX x=>rw[hv]at Y;exact Y.elim|undef=>rw[hv]at Y;rw[d];split;grind [SV.cells];rw[hv];exact Y
 intro q i F xs u1 H y A n o;rw[V]at n;rcases l q i F xs A with⟨rfl,rfl,rfl,rfl⟩|⟨E,g2⟩
 grind;let⟨f1,f2⟩:=h.own q i F xs u1 H y E n o;exact⟨f1,f2.mono o (B.other _ (N q i F xs u1 H E g2 n o))⟩;intro i j' F xs u1 H A n o;rcases l _ _ _ _ A with⟨rfl,_⟩|⟨E,g2⟩
 simp[aD.isArg]at hr;exact h.gw i j' F xs u1 H E n o;intro f g b;rw[B.size];exact h.c9 f g b
def Rel.setRow(h:Rel K β ω Z s a w){r:aD}{j e:Nat}{ys ys':L (L D)}(hm:isMap e=I)(x:(s r).at j=.own e ys)(y:r.isArg=I){d:dt}{len cap:Nat}(l:bU K β a w r j=J (.slice (J d) len cap)) {ga ws:bv az}{el:aW}{fz:Nat×Nat}{w':World}(i:A1 w w' d.block ws ga el fz)(hold:w.heap[d.block]?=J (.cells ws el fz))(c:ys'.length=ys.length) (f:cH w' Z e ys' d.block d.off):Rel K β ω Z (s.set r {s r with cv:=(s r).cv+1,v:=(s r).v.setCell j (.own e ys')}) a w':=by have b:=gK x (by simp);let⟨z,m⟩:=h.own r j e ys _ d.block y b l rfl;let⟨u,g,n⟩:=h.cell b;let⟨B,A,p,q,t,k⟩:=(aH.gY hm).1 n;rw[l]at g;cases g;cases p;refine h.T6 x y l rfl i.chg ?_ λs'=>(aH.gY hm).2 ⟨d,cap,by rw[c],q,by rw[c];exact t,f⟩;let⟨cs,C,lo,hi,f1,f2,f3⟩:=m;rw[hold]at f1;cases f1;exact⟨ga,_,lo,hi,i.here,by rw[i.len];exact f2,λo E=>f3 o (by rw[←i.len];exact E)⟩
def Rel.Mp(h:Rel K β ω Z s a w){r:aD}{j e:Nat}{ys ys':L (L D)}(hm:isMap e=W)(d:(s r).at j=.own e ys)(f:r.isArg=I){b:Nat}(g:bU K β a w r j=J (fu e b)) {w':World}(i:FU w w' b)(c:dh w' Z e ys' b):Rel K β ω Z (s.set r {s r with cv:=(s r).cv+1,v:=(s r).v.setCell j (.own e ys')}) a w':=by exact h.T6 d f g (kr ..) i (ae4 _ c) λs'=>(aH.jh hm).2 ⟨b,rfl,c⟩
def Rel.ae7(h:Rel K β ω Z s a w){b:Nat}{r0:aD}{i0:Nat}(T:ω b=J (r0,J i0))(E:jK K β s a w b){ga ws:bv az}{el:aW}{fz:Nat×Nat}{w':World}(r:A1 w w' b ws ga el fz):Rel K β ω Z s a w'∧jK K β s a w' b∧(∀(c:C)(u:az),(∀(e:Nat)(xs:L (L D))(y:Nat),c=.own e xs→dB u=J y→y≠b)→aH K β Z s a w c u→aH K β Z s a w' c u)∧(∀q i,bU K β a w' q i=bU K β a w q i):=by
 let⟨V,hlt,hE⟩:=h.c9 _ _ T;have m:∀k' f,β k'=J f→f≠b:=by
  intro k' f d e;subst e;have:=h.boxes k';cases hv:(s (.box k')).v with|agg cs'=>grind [di.cell]|one c=>rw[hv]at this;exact this.elim|aX x=>rw[hv]at this;exact this.elim|undef=>rw[hv]at this;simp only[di]at this;grind
 have z:∀q i,bU K β a w' q i=bU K β a w q i:=by
  intro q i;cases q with
  |tmp t=>rfl|arg i=>rfl|box k'=>
   simp only[bU];cases d:β k' with|none=>rfl|some f=>simp only[Option.bind_some];exact cell_of_heap (r.other f (m k' f d)) _ _
 have F:∀(c:C)(u:az),(∀(e:Nat)(xs:L (L D))(y:Nat),c=.own e xs→dB u=J y→y≠b)→aH K β Z s a w c u→aH K β Z s a w' c u:=λc u X h1=>aH.step (λ_ _ h=>h) (λf d=>⟨r.other f (λe=>V (e▸d)),d⟩) (λ_=>fA.refl _) (λq i _ _=>z q i) (λe xs y h2 h3=>r.other _ (X e xs y h2 h3)) h1;have A:∀(q:aD)(i R:Nat)(xs:L (L D))(G:az)(f:Nat),(s q).v.cells[i]?=J (.own R xs)→bU K β a w q i=J G→dB G=J f→f≠b:=by
  intro q i R xs G f p n o B;by_cases H:q.isArg=W;cases q with
  |arg i'=>let⟨S,g2⟩:=h.gw i' i R xs G f p n o;grind
  |tmp t=>simp[aD.isArg]at H|box k=>simp[aD.isArg]at H
  exact E q i R xs G f (by simpa using H) p n o B
 have l:∀(q:aD)(i:Nat)(c:C)(u:az),(s q).v.cells[i]?=J c→bU K β a w q i=J u→aH K β Z s a w c u→aH K β Z s a w' c u:=by grind
 refine⟨⟨h.size,h.defers,r.os.trans h.os,r.tape.trans h.tape,r.output.trans h.output,by rw[r.size];exact h.base,?_,λf d=>by rw[r.size];exact h.cD f d,h.ky,h.lA,?_,?_,?_,?_,h.gw,?_,h.mx⟩,?_,F,z⟩;intro f d Y;rw[r.other f (λe=>by grind)];exact h.frame f d Y;intro t;exact bj.mv (λj c u N P=>l (.tmp t) j c u N P) (h.tmps t);intro i;exact bj.mv (λj c u N P=>l (.arg i) j c u N P) (h.args i);intro k;have B:=h.boxes k;cases hv:(s (.box k)).v with
 |agg cs=>let⟨b2,yp,A3,A4,hi2,S,g2,g3,g4,g5⟩:=di.cell h hv;refine⟨b2,yp,A3,A4,hi2,S,g2,by rw[r.other b2 (m k b2 S)];exact g3,g4,aG.c8 g5.length λj u c P N=>?_⟩;let⟨G,h1,h2⟩:=g5.get N;rw[P]at h1;cases h1;exact l (.box k) j c u (by rw[hv];exact N) (by rw[lB S g3];exact P) h2
 |one c=>rw[hv]at B;exact B.elim|aX x=>rw[hv]at B;exact B.elim|undef=>rw[hv]at B;exact B
 intro q i e1 xs u1 y H p n o;rw[z]at n;let⟨f1,f2⟩:=h.own q i e1 xs u1 y H p n o;exact⟨f1,f2.mono o (r.other _ (A q i e1 xs u1 y p n o))⟩;intro f g d;rw[r.size];exact h.c9 f g d;intro q i e1 xs u1 y H p n o;grind
end
def ca(c:C):Prop:=∀e xs,c≠.own e xs
section
variable{K:Ctx}{β:Key→Option Nat}{ω:Nat→Option cj}{Z:Nat→Prop}{s:St}{a:Act}{w:World}
theorem Mq(r:aD)(x:RV)(j:Nat)(c:C):ca (mj r x j c):=by intro e xs h;cases c<;>simp[mj]at h
def Rel.mj(h:Rel K β ω Z s a w){r:aD}{j:Nat}{c:C}{u:az}(d:(s r).v.cells[j]?=J c)(f:bU K β a w r j=J u)(b:aH K β Z s a w c u):aH K β Z s a w (Vs.mj r (s r) j c) u:=by
 cases c with|own e xs=>simp only[Vs.mj];by_cases g:isMap e=W;grind [aH.jh,aH.pN,sw];grind [aH.gY,aH.nA,sw]|_=>exact b
def A5(r:aD)(x:RV):∀(cs:L C)(j:Nat),(gI r x j cs).length=cs.length|[],_=>rfl|c::cs,j=>by simp[gI,A5 r x cs (j+1)]
theorem vu(r:aD)(x:RV):∀(cs:L C)(j i:Nat),(gI r x j cs)[i]?=(cs[i]?).map (mj r x (j+i))|[],_,_=>by simp[gI]|c::cs,j,0=>by simp[gI]|c::cs,j,i+1=>by simp only[gI,pr];rw[vu r x cs (j+1) i,show j+1+i=j+(i+1) by omega]
theorem T8(r:aD)(x:RV):∀(vs:L (ao×L C))(j:Nat),(sa r x j vs).flatMap (·.2)=gI r x j (vs.flatMap (·.2))
 |[],_=>by simp[sa,gI]|(b,cs)::vs,j=>by
  simp only[sa,lq,T8 r x vs];have:∀(l m:L C)(j:Nat),gI r x j (l++m)=gI r x j l++gI r x (j+l.length) m:=by
   intro l;induction l with
   |nil=>intro m j;simp[gI]
   |cons c l a=>grind [gI]
  rw[this]
theorem FW(x:RV)(r:aD):(x.copy r).cells=gI r x 0 x.v.cells:=by grind [RV.copy,SV.cells,gI,T8]
def T9(r:aD)(x:RV):∀{vs:L az}{xs:L (ao×L C)}(j:Nat),aG (dx kx) vs xs→aG (dx kx) vs (sa r x j xs)
 |[],[],_,_=>trivial|v::vs,(b,cs)::xs,j,h=>by
  refine⟨?_,T9 r x _ h.2⟩;have h1:=h.1;unfold dx at h1 ⊢;cases b with
  |true=>simp only[bf]at h1 ⊢;obtain⟨ws,rfl,g⟩:=h1;exact⟨ws,rfl,aG.c8 (by rw[g.length,A5]) λ_ _ _ _ _=>trivial⟩
  |false=>simp only[bh,bC]at h1 ⊢;obtain⟨c,rfl,g,_⟩:=h1;exact⟨mj r x j c,by simp[gI],g,trivial⟩
def ae8{x:RV}{r:aD}{v:az}(h:bj kx v x.v):bj kx v (x.copy r):=by
 unfold RV.copy;cases a:x.v with
 |one c=>rw[a]at h;exact⟨h.1,trivial⟩|agg cs=>rw[a]at h;let⟨ws,h1,h2⟩:=h;exact⟨ws,h1,aG.c8 (by rw[h2.length,A5]) λ_ _ _ _ _=>trivial⟩
 |aX vs=>rw[a]at h;let⟨ws,h1,h2⟩:=h;exact⟨ws,h1,T9 r x 0 h2⟩
 |undef=>trivial
theorem Rel.copy(h:Rel K β ω Z s a w){r:aD}{v:az}(hv:bj (aH K β Z s a w) v (s r).v)(k:∀j,bU K β a w r j=(flat v)[j]?):bj (aH K β Z s a w) v ((s r).copy r)∧(∀c∈((s r).copy r).cells,ca c):=by
 constructor;refine bj.of_flat (ae8 hv.shape) λl=>?_;have g:(s r).v≠.undef:=λe=>l (by simp[RV.copy,e]);have i:=hv.flat g;rw[FW];refine aG.c8 (by rw[i.length,A5]) λj u c d f=>?_;rw[vu]at f;cases b:(s r).v.cells[j]? with|none=>grind|some c0=>rw[b]at f;simp only[Option.map_some,Nat.zero_add,Option.some.injEq]at f;subst f;let⟨m,h1,h2⟩:=i.get b;rw[d]at h1;cases h1;exact h.mj b (by rw[k];exact d) h2
 grind [FW,lZ,vu,Mq]
def Mr{v:az}{d:D}(h:reflect v=J d):fH v=W∧a6 w Z d v:=by unfold reflect at h;split at h<;>first|(cases h;exact⟨rfl,rfl⟩)|(cases h;done)|skip;all_goals (cases h;exact⟨rfl,by simp[a6,L7]⟩)
def FX:∀{vs:L az}{ds:L D},ko vs=J ds→aG (λu c=>aH K β Z s a w c u) vs (ds.map .d)|[],ds,h=>by simp[ko]at h;subst h;trivial|v::vs,ds,h=>by unfold ko at h;split at h;rename_i d b h1 h2;cases h;exact⟨(Mr h1).2,FX h2⟩;cases h
def gx(h:Rel K β ω Z s a w){x:bO}{v:SV}{s':St}(b:(ev x).exec s=J (v,s')):s'=s∧bj (aH K β Z s a w) (a.eval x) v∧(∀c∈v.cells,ca c)∧v≠.undef:=by
 cases x with
 |tmp t=>
  simp only[ev,Prog.exec]at b;have e:=h.copy (r:=.tmp t) (h.tmps t) (λ_=>rfl);have key:∀q:SV,(s (.tmp t)).v≠.undef→(Prog.ret ((s (.tmp t)).copy (.tmp t))).exec s=J (v,s')→s'=s∧bj (aH K β Z s a w) (a.eval (.tmp t)) v∧(∀c∈v.cells,ca c)∧v≠.undef:=by intro _ j b;simp only[Prog.exec,Option.some.injEq,fj]at b;obtain⟨rfl,rfl⟩:=b;refine⟨rfl,e.1,e.2,?_⟩;grind [RV.copy]
  cases k:(s (.tmp t)).v with|undef=>simp_all [Prog.exec]|one c=>simp_all|agg c=>simp_all|aX c=>simp_all
 |const v0=>
  have one:∀d,reflect v0=J d→(Prog.ret (SV.one (.d d))).exec s=J (v,s')→s'=s∧bj (aH K β Z s a w) (a.eval (.const v0)) v∧(∀c∈v.cells,ca c)∧v≠.undef:=by intro d hd b;simp only[Prog.exec,Option.some.injEq,fj]at b;obtain⟨rfl,rfl⟩:=b;let⟨h1,h2⟩:=Mr (w:=w) (Z:=Z) hd;exact⟨rfl,⟨h1,h2⟩,by simp[SV.cells,ca],by simp⟩
  cases v0 with
  |agg cs=>
   simp only[ev]at b;cases i:ko cs.toList with|none=>simp_all [Prog.exec]|some ds=>rw[i]at b;simp only[Prog.exec,Option.some.injEq,fj]at b;obtain⟨rfl,rfl⟩:=b;exact⟨rfl,⟨cs,rfl,FX i⟩,by simp[SV.cells,ca],by simp⟩
  |_=>simp only[ev]at b;split at b;rename_i d hd;exact one d hd b;simp[Prog.exec]at b
 |func f=>simp only[ev,Prog.exec,Option.some.injEq,fj]at b;obtain⟨rfl,rfl⟩:=b;exact⟨rfl,⟨rfl, #[],rfl,trivial⟩,by simp[SV.cells,ca],by simp⟩
 |global g=>simp[ev,Prog.exec]at b
def A6{α c:Type}(p:Prog α)(f:α→Prog c):∀(s:St),(p.bind f).exec s=(p.exec s).bind λx=>(f x.1).exec x.2:=by
 induction p with
 |ret a=>intro s;simp[Prog.bind,Prog.exec]
 |fail=>intro s;simp[Prog.bind,Prog.exec]
 |get r k b=>intro s;simp[Prog.bind,Prog.exec,b]
 |put r x k b=>intro s;simp[Prog.bind,Prog.exec,b]
def aI{α a:Type}{p:Prog α}{f:α→Prog a}{s s':St}{y:a}(h:(p >>= f).exec s=J (y,s')):∃x b,p.exec s=J (x,b)∧(f x).exec b=J (y,s'):=by
 change (p.bind f).exec s=_ at h;rw[A6]at h;cases hp:p.exec s with
 |none=>rw[hp]at h;cases h
 |some x=>grind
theorem aQ{α:Type}{x y:α}{s s':St}(h:(Prog.ret x).exec s=J (y,s')):y=x∧s'=s:=by simp_all [Prog.exec]
theorem bW{p:Prop}[Decidable p]{y:bu}{s s':St}(h:(need p).exec s=J (y,s')):p∧s'=s:=by grind [need,Prog.exec]
def eV(h:Rel K β ω Z s a w){x:bO}{c:C}{s':St}(b:(dc x).exec s=J (c,s')):s'=s∧fH (a.eval x)=W∧aH K β Z s a w c (a.eval x)∧ca c:=by
 let⟨v,d,h1,h2⟩:=aI b;obtain⟨rfl,hv,hn,_⟩:=gx h h1;cases v with
 |one e=>obtain⟨rfl,rfl⟩:=aQ h2;exact⟨rfl,hv.1,hv.2,hn _ (by simp[SV.cells])⟩
 |_=>simp[yc,Prog.exec]at h2
def Ua(h:Rel K β ω Z s a w){r:aD}{j:Nat}{y:bu}{s':St}(f:(nn r j (s r)).exec s=J (y,s')):∃ω' Z',Rel K β ω' Z' s' a w∧Calm K β a ω Z s w ω' Z' s' w∧(∃e ys,(s' r).at j=.d (.sl e ys)∧((s r).at j=.own e ys∨(s r).at j=.d (.sl e ys))):=by
 unfold nn at f;split at f;rename_i e ys g;simp only[dn,Prog.exec,Option.some.injEq,fj]at f;obtain⟨_,rfl⟩:=f;have c:=gK g (by simp);have p:(s.set r {s r with v:=(s r).v.setCell j (.d (.sl e ys))} r).at j=.d (.sl e ys):=by grind [kl,sw,pO]
 let⟨x,m,q⟩:=h.cell c;let⟨n,o⟩:=aH.TX q;by_cases l:r.isArg=W;cases r with
 |arg i=>let⟨f1,f2⟩:=h.ae5 g m o;grind
 |tmp t=>simp[aD.isArg]at l|box k=>simp[aD.isArg]at l
 let⟨f1,f2,f3⟩:=h.TY (c':=.d (.sl e ys)) g (by simpa using l) (.inr rfl) m o (ω':=λb=>if b=n then O else ω b) (Z':=λb=>Z b∨b=n) (λb=>by simp) (λb u=>by simp[u]) (λ_=>by simp);grind;grind [aQ,Calm.refl];simp[Prog.exec]at f
def nB(w:World)(Z:Nat→Prop)(e:Nat)(xs:L (L D))(u:az):Prop:=(isMap e=I∧∃(a:dt)(cap:Nat),u=.slice (J a) xs.length cap∧a.spot=O∧xs.length≤cap∧cH w Z e xs a.block a.off)∨(isMap e=W∧∃b,u=fu e b∧dh w Z e xs b)
def nB.iff{e:Nat}{xs:L (L D)}{u:az}:aH K β Z s a w (.own e xs) u↔nB w Z e xs u:=by
 by_cases b:isMap e=W;rw[aH.jh b];simp[nB,b];have b:isMap e=I:=by simpa using b
 rw[aH.gY b];simp[nB,b]
theorem nB.mono{Z':Nat→Prop}(hZ:∀b,Z b→Z' b){e:Nat}{xs:L (L D)}{u:az}(h:nB w Z e xs u):nB w Z' e xs u:=by
 rcases h with⟨a,d,cap,h1,h2,h3,f⟩|⟨a,b,h1,h2⟩
 exact .inl ⟨a,d,cap,h1,h2,h3,cH.mono (λb c=>⟨rfl,hZ b c⟩) _ _ _ _ rfl f⟩;exact .inr ⟨a,b,h1,dh.mono (λb c=>⟨rfl,hZ b c⟩) _ _ _ rfl h2⟩
def Ub(h:Rel K β ω Z s a w){r:aD}{j:Nat}(l:r.isArg=I){y:bu}{s':St}(d:(ov r j (s r)).exec s=J (y,s'))(g:cj):
  ∃e ys u b ω',(s r).at j=.own e ys∧bU K β a w r j=J u∧dB u=J b∧nB w Z e ys u∧
   Rel K β ω' Z s' a w∧Calm K β a ω Z s w ω' Z s' w∧ω' b=J g∧kO w e u∧jK K β s' a w b:=by
 unfold ov at d
 split at d
 rename_i e ys f
 simp only[dn,Prog.exec,Option.some.injEq,fj]at d
 obtain⟨_,rfl⟩:=d
 have c:=gK f (by simp)
 let⟨u,i,m⟩:=h.cell c
 let⟨b,k⟩:=aH.TX m
 let⟨f1,f2,f3⟩:=h.TY (c':=.dead) f l (.inl rfl) i k (ω':=λn=>if n=b then J g else ω n) (Z':=Z) (λb=>by simp) (λb o=>by simp[o]) (λp=>bX rfl p)
 exact⟨e,ys,u,b,_,f,i,k,nB.iff.1 m,f1,f2,by simp,(h.own r j e ys u b l c i k).2,f3⟩
 simp[Prog.exec]at d
def Ms(h:Rel K β ω Z s a w){r:aD}{j hv cv e k:Nat}(hm:isMap e=I){xs:L (L D)}{u:az}(x:aH K β Z s a w (.aS r j hv cv e k xs) u)(h1:(s r).hv=hv)(h2:(s r).cv=cv)(q:(s r).at j≠.dead):
  ∃b cap,u=.slice (J b) xs.length cap∧b.spot=O∧xs.length≤cap∧(cap≠0→cH w Z e xs b.block b.off)∧
   ∃f l c ys,bU K β a w r j=J (.slice (J f) l c)∧b.block=f.block∧(b.off=f.off+k*e∨cap=0)∧b.off+cap*e≤f.off+c*e∧cap+k=c∧((s r).at j=.own e ys∨(s r).at j=.d (.sl e ys))∧xs=(ys.drop k).take xs.length:=by
 let⟨m,n,y,z,A,_,_,B⟩:=(aH.nA hm).1 x
 let⟨b,len,cap,f1,f2,f3,f4,C,f5,f6,f7,f8⟩:=B h1 q
 let⟨ys,f9,o⟩:=f8
 have f10:=o h2
 refine⟨m,n,y,z,A,λt=>?_,b,len,cap,ys,f1,f3,f4,?_,f5,f9,f10⟩
 rotate_left
 grind [Nat.add_mul]
 have p:m.off=b.off+k*e:=f4.resolve_right t
 have i:cH w Z e ys b.block b.off:=by
  rcases f9 with f9|f9
  let⟨u2,E,g⟩:=h.cell (gK f9 (by simp));grind [aH.gY];let⟨u2,E,g⟩:=h.cell (gK f9 (by simp));let⟨F,v,G,_,_,H⟩:=(a6.fR hm).1 g;grind
 rw[f10,f3,p]
 exact(i.drop k).take _
theorem Mt(h:Rel K β ω Z s a w){r:aD}{j hv cv e k:Nat}(hm:isMap e=I){xs:L (L D)}{u:az}(f:aH K β Z s a w (.aS r j hv cv e k xs) u)(h1:(s r).hv=hv)(h2:(s r).cv=cv)(d:(s r).at j≠.dead):∃c cap,u=.slice (J c) xs.length cap∧c.spot=O∧xs.length≤cap∧cH w Z e xs c.block c.off:=by let⟨c,cap,g,i,l,m,_⟩:=Ms h hm f h1 h2 d;refine⟨c,cap,g,i,l,?_⟩;by_cases b:cap=0;subst b;have:xs=[]:=List.length_eq_zero_iff.1 (by omega);subst this;trivial;exact m b
def ae9(h:Rel K β ω Z s a w){r:aD}{j hv cv e k:Nat}(hm:isMap e=W){xs:L (L D)}{u:az}(g:aH K β Z s a w (.aS r j hv cv e k xs) u)(h1:(s r).hv=hv)(h2:(s r).cv=cv)(f:(s r).at j≠.dead):∃b,u=fu e b∧bU K β a w r j=J (fu e b)∧((s r).at j=.own e xs∨(s r).at j=.d (.sl e xs))∧dh w Z e xs b:=by
 let⟨b,i,_,_,l⟩:=(aH.pN hm).1 g;let⟨f1,ys,f2,f3⟩:=l h1 f;have:=f3 h2;subst this;refine⟨b,i,f1,f2,?_⟩;rcases f2 with f2|f2
 let⟨u2,m,c⟩:=h.cell (gK f2 (by simp));grind [aH.jh,AY];let⟨u2,m,c⟩:=h.cell (gK f2 (by simp));let⟨n,o,_,p⟩:=(a6.mr hm).1 c;grind [AY]
def FY(h:Rel K β ω Z s a w){r:aD}{j hv cv e k:Nat}{xs:L (L D)}{u:az}(q:aH K β Z s a w (.aS r j hv cv e k xs) u)(h1:(s r).hv=hv)(h2:(s r).cv=cv)(f:(s r).at j≠.dead):
  ∃ys m t,((s r).at j=.own e ys∨(s r).at j=.d (.sl e ys))∧bU K β a w r j=J m∧dB m=J t∧dB u=J t∧nB w Z e xs u∧(kO w e m→kO w e u)∧
   ∀Z':Nat→Prop,(∀b,Z b→Z' b)→(Live m→Z' t)→a6 w Z' (.sl e xs) u:=by
 by_cases c:isMap e=W
 obtain⟨b,rfl,n,o,g⟩:=ae9 h c q h1 h2 f
 exact⟨xs,_,b,o,n,kr ..,kr ..,.inr ⟨c,b,rfl,g⟩,id,λZ' hZ v=>(a6.mr c).2 ⟨b,rfl,v (TW ..),dh.mono (λb x=>⟨rfl,hZ b x⟩) _ _ _ rfl g⟩⟩
 have c:isMap e=I:=by simpa using c
 obtain⟨p,cap,rfl,n,o,g⟩:=Mt h c q h1 h2 f
 let⟨B,z,f1,_,_,_,y,A,i,ys,f2,f3,f4,f5,f6,f7,f8⟩:=Ms h c q h1 h2 f
 cases f1
 refine⟨ys,_,y.block,f7,f2,rfl,by rw[←f3];rfl,.inl ⟨c,p,cap,rfl,n,o,g⟩,λC=>?_,λZ' hZ v=>(a6.fR c).2 ⟨p,cap,rfl,?_,o,cH.mono (λb x=>⟨rfl,hZ b x⟩) _ _ _ _ rfl g⟩⟩
 show Wr w p.block (p.off+cap*e)
 rw[f3]
 exact Wr.mono C rfl f5
 by_cases l:cap=0
 exact .inl l
 exact .inr ⟨n,by rw[f3];exact v (show i≠0 by omega)⟩
end
section
variable{K:Ctx}{β:Key→Option Nat}{ω:Nat→Option cj}{Z:Nat→Prop}{s:St}{a:Act}{w:World}
def vw{x:RV}{j e:Nat}{ys:L (L D)}(h:x.at j=.own e ys):x.at j≠.dead:=by rw[h];simp
def afa{x:RV}{j:Nat}{d:D}(h:x.at j=.d d):x.at j≠.dead:=by rw[h];simp
def Rel.frozen(h:Rel K β ω Z s a w){r:aD}{j e:Nat}{ys:L (L D)}(l:(s r).at j=.d (.sl e ys)){f:az}{b0:Nat}(m:bU K β a w r j=J f)(g:dB f=J b0):Live f→Z b0:=by let⟨u,h1,c⟩:=h.cell (gK l (by simp));rw[m]at h1;cases h1;by_cases i:isMap e=W;obtain⟨b,rfl,h2,_⟩:=(a6.mr i).1 c;simp_all [kr];obtain⟨n,k,rfl,h3,_⟩:=(a6.fR (by simpa using i)).1 c;simp only[dB,Option.some.injEq]at g;subst g;exact λo=>(h3.resolve_left o).2
theorem Mu(h:Rel K β ω Z s a w){self:aD×Nat}{take:aD→ao}{c c':C}{u:az}{s':St}(g:aH K β Z s a w c u)(i:ca c) (d:(mm (J self) take c).exec s=J (c',s')):∃ω' Z',Rel K β ω' Z' s' a w∧Calm K β a ω Z s w ω' Z' s' w∧jL K β ω' Z' s' a w self.1 self.2 c' u:=by
 have t:c'=c→s'=s→∃ω' Z',Rel K β ω' Z' s' a w∧Calm K β a ω Z s w ω' Z' s' w∧jL K β ω' Z' s' a w self.1 self.2 c' u:=by rintro rfl rfl;exact⟨ω,Z,h,Calm.refl,jL.yo i g⟩
 cases c with
 |aS r j hv cv e k xs=>
  simp only[mm]at d;split at d;grind [aQ];rename_i x;have o:r.isArg=I:=by simpa using x
  simp only[Prog.exec]at d;let⟨_,G,h1,d⟩:=aI d;obtain⟨⟨l,m⟩,rfl⟩:=bW h1;split at d;rename_i v n f;let⟨ys,y,A,f7,f2,f3,f4,f5,f6,f8⟩:=FY h g l m (vw f);have p:v=e∧n=ys:=by grind
  obtain⟨rfl,rfl⟩:=p;split at d;let⟨_,B,h2,d⟩:=aI d;obtain⟨rfl,rfl⟩:=aQ d;let⟨H,D,N,P,ω',t1,t2,t3,t4,t6,t7,t8,t9,t10⟩:=Ub h o h2 (self.1,J self.2);rw[f]at t1;cases t1;rw[t2]at f2;cases f2;rw[t3]at f3;cases f3;refine⟨ω',Z,t6,t7,nB.iff.2 f5,λe E b R S=>?_⟩;grind;let⟨_,B,h2,d⟩:=aI d;obtain⟨rfl,rfl⟩:=aQ d;let⟨ω',Z',t1,t2,T,F,t3,t4⟩:=Ua h h2;refine⟨ω',Z',t1,t2,jL.yo (by simp[ca]) ?_⟩;exact f8 Z' (λb q=>t2.z b q) (t1.frozen t3 (by rw[t2.bU];exact f2) f3);rename_i v n f;obtain⟨rfl,rfl⟩:=aQ d;let⟨ys,y,A,f7,f2,f3,f4,f5,f6,f8⟩:=FY h g l m (afa f);refine⟨ω,Z,h,Calm.refl,jL.yo (by simp[ca]) ?_⟩;exact f8 Z (λb q=>q) (h.frozen f f2 f3);simp[Prog.exec]at d
 |own e xs=>exact bX rfl (i e xs)|dead=>simp[mm,Prog.exec]at d|_=>grind [mm,aQ]
def afb{self:Option (aD×Nat)}{take:aD→ao}{c c':C}{s s':St}(a:(mm self take c).exec s=J (c',s')):c≠.dead:=by rintro rfl;simp[mm,Prog.exec]at a
def Uc{mk:Nat→aD×Nat}{take:aD→ao}:∀{cs cs':L C}{i:Nat}{s s':St},(np mk take i cs).exec s=J (cs',s')→∀c∈cs,c≠.dead
 |[],_,_,_,_,_,_,h=>by simp at h|c::cs,cs',i,s,s',a,x,b=>by
  simp only[np]at a;let⟨c1,e,h1,a⟩:=aI a;let⟨d,f,h2,a⟩:=aI a;rcases iA.1 b with rfl|b
  exact afb h1;exact Uc h2 x b
def fS(K:Ctx)(β:Key→Option Nat)(ω:Nat→Option cj)(Z:Nat→Prop)(s:St)(a:Act)(w:World)(mk:Nat→aD×Nat):Nat→L az→L C→Prop|_,[],[]=>cZ|i,u::us,c::cs=>jL K β ω Z s a w (mk i).1 (mk i).2 c u∧fS K β ω Z s a w mk (i+1) us cs|_,_,_=>gT
theorem fS.lift{ω':Nat→Option cj}{Z':Nat→Prop}{s':St}{w':World}(b:Rel K β ω Z s a w)(k:Calm K β a ω Z s w ω' Z' s' w'){mk:Nat→aD×Nat}:∀{i:Nat}{us:L az}{cs:L C},fS K β ω Z s a w mk i us cs→fS K β ω' Z' s' a w' mk i us cs|_,[],[],_=>trivial|_,_::_,_::_,h=>⟨k.Mg b h.1,fS.lift b k h.2⟩
def fS.all{mk:Nat→aD×Nat}:∀{i:Nat}{us:L az}{cs:L C},fS K β ω Z s a w mk i us cs→aG (λu c=>aH K β Z s a w c u) us cs|_,[],[],_=>trivial|_,_::_,_::_,h=>⟨h.1.1,fS.all h.2⟩
theorem fS.get{mk:Nat→aD×Nat}:∀{i j:Nat}{us:L az}{cs:L C}{c:C}{u:az},fS K β ω Z s a w mk i us cs→cs[j]?=J c→us[j]?=J u→jL K β ω Z s a w (mk (i+j)).1 (mk (i+j)).2 c u|_,_,[],[],_,_,_,h,_=>by simp at h|i,0,u::us,c::cs,e,f,h,b,d=>by simp only[fY,Option.some.injEq]at b d;subst b;subst d;exact h.1|i,j+1,u::us,c::cs,e,f,h,b,d=>by have:=fS.get (j:=j) h.2 (by simpa using b) (by simpa using d);grind
theorem fS.append{mk:Nat→aD×Nat}:∀{i:Nat}{us b:L az}{cs cs':L C},fS K β ω Z s a w mk i us cs→fS K β ω Z s a w mk (i+us.length) b cs'→fS K β ω Z s a w mk i (us++b) (cs++cs')|_,[],_,[],_,_,h=>by simpa using h|i,u::us,b,c::cs,cs',h,k=>⟨h.1,fS.append h.2 (by grind)⟩
def FZ{mk:Nat→aD×Nat}{take:aD→ao}:∀(cs:L C)(i:Nat)(us:L az)(ω:Nat→Option cj)(Z:Nat→Prop)(s s':St)(cs':L C),Rel K β ω Z s a w→aG (λu c=>aH K β Z s a w c u) us cs→(∀c∈cs,ca c)→(np mk take i cs).exec s=J (cs',s')→∃ω' Z',Rel K β ω' Z' s' a w∧Calm K β a ω Z s w ω' Z' s' w∧fS K β ω' Z' s' a w mk i us cs':=by
 intro cs;induction cs with
 |nil=>
  intro i us ω Z s s' cs' h b _ d;obtain⟨rfl,rfl⟩:=aQ d;cases us with|nil=>exact⟨ω,Z,h,Calm.refl,trivial⟩|cons u us=>exact b.elim
 |cons c cs o=>
  intro i us ω Z s s' cs' h b g d;cases us with|nil=>exact b.elim|cons u us=>simp only[np]at d;let⟨c1,p,h1,d⟩:=aI d;let⟨j,B,h2,d⟩:=aI d;obtain⟨rfl,rfl⟩:=aQ d;let⟨k,q,n,k1,r⟩:=Mu h b.1 (g c (jq ..)) h1;have f:∀x∈cs,ca x:=λx l=>g x (gU _ l);let⟨m,t,v,k2,y⟩:=o (i+1) us k q p _ j n (b.2.ju λu c z A=>k1.jM h.cD (λe xs _ l _=>bX l (f c z e xs)) A) f h2;exact⟨m,t,v,k1.trans k2,k2.Mg n r,y⟩
def gZ(K:Ctx)(β:Key→Option Nat)(ω:Nat→Option cj)(Z:Nat→Prop)(s:St)(a:Act)(w:World)(r:aD)(u:az)(v:SV):Prop:=bj (aH K β Z s a w) u v∧∀(j:Nat)(c:C)(x:az),v.cells[j]?=J c→(flat u)[j]?=J x→jL K β ω Z s a w r j c x
def gZ.A7{r:aD}{u:az}{v:SV}(h:bj (aH K β Z s a w) u v)(b:∀c∈v.cells,ca c):gZ K β ω Z s a w r u v:=⟨h,λj c x d e=>jL.yo (b c (eA d)) (by let⟨f,h1,h2⟩:=h.cell d;grind)⟩
def gZ.yq{r:aD}{u:az}{v:SV}(b:bj kx u v)(h:fS K β ω Z s a w (λi=>(r,i)) 0 (flat u) v.cells):gZ K β ω Z s a w r u v:=⟨bj.of_flat b λ_=>h.all,λj c x d e=>by have:=h.get d e;simpa using this⟩
def Rel.afc(h:Rel K β ω Z s a w){t:Nat}(c:t<K.N){u:az}{v:SV}(hv:gZ K β ω Z s a w (.tmp t) u v):Rel K β ω Z (s.set (.tmp t) {hv:=(s (.tmp t)).hv+1,cv:=(s (.tmp t)).cv,v}) (a.put (J t) u) w:=h.iQ c hv.1 λj e xs i b d f g=>by have:=(hv.2 j _ _ d f).2 e xs b rfl g;grind
def afd{r:aD}{take:aD→ao}:∀(xs:L (ao×L C))(i:Nat)(vs:L az)(ω:Nat→Option cj)(Z:Nat→Prop)(s s':St)(xs':L (ao×L C)),Rel K β ω Z s a w→aG (dx (aH K β Z s a w)) vs xs→(∀c∈xs.flatMap (·.2),ca c)→(vg (λi=>(r,i)) take i xs).exec s=J (xs',s')→∃ω' Z',Rel K β ω' Z' s' a w∧Calm K β a ω Z s w ω' Z' s' w∧fS K β ω' Z' s' a w (λi=>(r,i)) i (vs.flatMap λv=>v.cells.toList) (xs'.flatMap (·.2))∧aG (dx kx) vs xs':=by
 intro xs;induction xs with
 |nil=>
  intro i vs ω Z s s' t h f _ g;obtain⟨rfl,rfl⟩:=aQ g;cases vs with|nil=>exact⟨ω,Z,h,Calm.refl,trivial,trivial⟩|cons u us=>exact f.elim
 |cons x xs H=>
  intro i vs ω Z s s' t h f l g;cases vs with
  |nil=>exact f.elim|cons v vs=>
   let⟨b,cs⟩:=x;simp only[vg]at g;let⟨c1,D,h1,g⟩:=aI g;let⟨y,Y,h2,g⟩:=aI g;obtain⟨rfl,rfl⟩:=aQ g;have N:=dx.flat f.1;simp only[lq,l5]at l;let⟨z,P,R,k1,E⟩:=FZ (mk:=λi=>(r,i)) (take:=take) cs i v.cells.toList ω Z s D c1 h N (λc m=>l c (.inl m)) h1;have j:∀c∈xs.flatMap (·.2),ca c:=λc m=>l c (.inr m);let⟨A,S,T,k2,p2,V⟩:=H (i+cs.length) vs z P D _ y R (f.2.ju λv x X n=>by have q:∀c∈x.2,ca c:=λc m=>j c (E9.2 ⟨x,X,m⟩);unfold dx at n ⊢;split;rename_i B;simp only[B,bf]at n;let⟨ws,k,o⟩:=n;exact⟨ws,k,o.ju λu c m n=>k1.jM h.cD (λe xs _ p _=>bX p (q c m e xs)) n⟩;rename_i B;simp only[B]at n;let⟨c,k,o,F⟩:=n;exact⟨c,k,o,k1.jM h.cD (λe xs _ p _=>bX p (q c (by simp[k]) e xs)) F⟩) j h2;refine⟨A,S,T,k1.trans k2,?_,?_,V⟩;grind [fS.append,fS.lift,aG.length];have h3:=f.1;unfold dx at h3 ⊢;cases b with
   |true=>simp only[bf]at h3 ⊢;let⟨ws,k,o⟩:=h3;refine⟨ws,k,aG.c8 ?_ λ_ _ _ _ _=>trivial⟩;have:=E.all.length;rw[k]at this;exact this
   |false=>
    simp only[bh,bC]at h3 ⊢;let⟨c,k,o,F⟩:=h3;have G:=E.all.length;rw[ku o]at G;match c1,G with|[d],_=>exact⟨d,rfl,o,trivial⟩
def Ud(h:Rel K β ω Z s a w){r:aD}{take:aD→ao}{v v':SV}{u:az}{s':St}(hv:bj (aH K β Z s a w) u v)(f:∀c∈v.cells,ca c) (b:(lx r take v).exec s=J (v',s')):∃ω' Z',Rel K β ω' Z' s' a w∧Calm K β a ω Z s w ω' Z' s' w∧gZ K β ω' Z' s' a w r u v':=by
 cases v with
 |one c=>simp only[lx]at b;let⟨c1,m,h1,b⟩:=aI b;obtain⟨rfl,rfl⟩:=aQ b;let⟨d,j,k,k1,g⟩:=Mu h hv.2 (f c (by simp[SV.cells])) h1;exact⟨d,j,k,k1,gZ.yq ⟨hv.1,trivial⟩ (by rw[yn hv.1];exact⟨g,trivial⟩)⟩
 |agg cs=>simp only[lx]at b;let⟨c1,m,h1,b⟩:=aI b;obtain⟨rfl,rfl⟩:=aQ b;obtain⟨ws,rfl,e⟩:=hv;let⟨d,j,k,k1,g⟩:=FZ (mk:=λi=>(r,i)) (take:=take) cs 0 ws.toList ω Z s _ _ h e (λc l=>f c l) h1;exact⟨d,j,k,k1,gZ.yq ⟨ws,rfl,aG.c8 g.all.length λ_ _ _ _ _=>trivial⟩ g⟩
 |aX xs=>simp only[lx]at b;let⟨c1,m,h1,b⟩:=aI b;obtain⟨rfl,rfl⟩:=aQ b;obtain⟨vs,rfl,e⟩:=hv;let⟨d,j,k,k1,g,n⟩:=afd (r:=r) (take:=take) xs 0 vs.toList ω Z s _ _ h e (λc l=>f c l) h1;exact⟨d,j,k,k1,gZ.yq ⟨vs,rfl,n⟩ g⟩
 |undef=>simp[lx,Prog.exec]at b
def Ue(h:Rel K β ω Z s a w){self:aD×Nat}{o:bO}{c c':C}{u:az}{s':St}(d:aH K β Z s a w c u)(b:ca c) (g:(si self o c).exec s=J (c',s')):∃ω' Z',Rel K β ω' Z' s' a w∧Calm K β a ω Z s w ω' Z' s' w∧jL K β ω' Z' s' a w self.1 self.2 c' u:=by
 have f:c'=c→s'=s→∃ω' Z',Rel K β ω' Z' s' a w∧Calm K β a ω Z s w ω' Z' s' w∧jL K β ω' Z' s' a w self.1 self.2 c' u:=by rintro rfl rfl;exact⟨ω,Z,h,Calm.refl,jL.yo b d⟩
 cases c with|aS r j hv cv e k xs=>grind [si,Mu,aQ]|own e xs=>exact bX rfl (b e xs)|_=>grind [si,aQ]
def Uf{r:aD}{o:bO}:∀(cs:L C)(i:Nat)(us:L az)(ω:Nat→Option cj)(Z:Nat→Prop)(s s':St)(cs':L C),Rel K β ω Z s a w→aG (λu c=>aH K β Z s a w c u) us cs→(∀c∈cs,ca c)→(sj r o i cs).exec s=J (cs',s')→∃ω' Z',Rel K β ω' Z' s' a w∧Calm K β a ω Z s w ω' Z' s' w∧fS K β ω' Z' s' a w (λi=>(r,i)) i us cs':=by
 intro cs;induction cs with
 |nil=>
  intro i us ω Z s s' cs' h b _ d;obtain⟨rfl,rfl⟩:=aQ d;cases us with|nil=>exact⟨ω,Z,h,Calm.refl,trivial⟩|cons u us=>exact b.elim
 |cons c cs p=>
  intro i us ω Z s s' cs' h b g d;cases us with|nil=>exact b.elim|cons u us=>simp only[sj]at d;let⟨c1,q,h1,d⟩:=aI d;let⟨j,E,h2,d⟩:=aI d;obtain⟨rfl,rfl⟩:=aQ d;let⟨k,t,n,k1,v⟩:=Ue h b.1 (g c (jq ..)) h1;have f:∀x∈cs,ca x:=λx l=>g x (gU _ l);let⟨m,y,z,k2,A⟩:=p (i+1) us k t q _ j n (b.2.ju λu c B D=>k1.jM h.cD (λe xs _ l _=>bX l (f c B e xs)) D) f h2;exact⟨m,y,z,k1.trans k2,k2.Mg n v,A⟩
def afe{r:aD}{o:bO}:∀(xs:L (ao×L C))(i:Nat)(vs:L az)(ω:Nat→Option cj)(Z:Nat→Prop)(s s':St)(xs':L (ao×L C)),Rel K β ω Z s a w→aG (dx (aH K β Z s a w)) vs xs→(∀c∈xs.flatMap (·.2),ca c)→(vo r o i xs).exec s=J (xs',s')→∃ω' Z',Rel K β ω' Z' s' a w∧Calm K β a ω Z s w ω' Z' s' w∧fS K β ω' Z' s' a w (λi=>(r,i)) i (vs.flatMap λv=>v.cells.toList) (xs'.flatMap (·.2))∧aG (dx kx) vs xs':=by
 intro xs;induction xs with
 |nil=>
  intro i vs ω Z s s' y h f _ g;obtain⟨rfl,rfl⟩:=aQ g;cases vs with|nil=>exact⟨ω,Z,h,Calm.refl,trivial,trivial⟩|cons u us=>exact f.elim
 |cons x xs N=>
  intro i vs ω Z s s' y h f l g;cases vs with
  |nil=>exact f.elim|cons v vs=>
   let⟨b,cs⟩:=x;simp only[vo]at g;let⟨c1,E,h1,g⟩:=aI g;let⟨z,s2,h2,g⟩:=aI g;obtain⟨rfl,rfl⟩:=aQ g;have P:=dx.flat f.1;simp only[lq,l5]at l;let⟨A,R,S,k1,F⟩:=Uf (r:=r) (o:=o) cs i v.cells.toList ω Z s E c1 h P (λc m=>l c (.inl m)) h1;have j:∀c∈xs.flatMap (·.2),ca c:=λc m=>l c (.inr m);let⟨B,T,V,k2,p2,X⟩:=N (i+cs.length) vs A R E _ z S (f.2.ju λv x Y n=>by have t:∀c∈x.2,ca c:=λc m=>j c (E9.2 ⟨x,Y,m⟩);unfold dx at n ⊢;split;rename_i D;simp only[D,bf]at n;let⟨ws,k,p⟩:=n;exact⟨ws,k,p.ju λu c m n=>k1.jM h.cD (λe xs _ q _=>bX q (t c m e xs)) n⟩;rename_i D;simp only[D]at n;let⟨c,k,p,G⟩:=n;exact⟨c,k,p,k1.jM h.cD (λe xs _ q _=>bX q (t c (by simp[k]) e xs)) G⟩) j h2;refine⟨B,T,V,k1.trans k2,?_,?_,X⟩;grind [fS.append,fS.lift,aG.length];have h3:=f.1;unfold dx at h3 ⊢;cases b with
   |true=>simp only[bf]at h3 ⊢;let⟨ws,k,p⟩:=h3;refine⟨ws,k,aG.c8 ?_ λ_ _ _ _ _=>trivial⟩;have:=F.all.length;rw[k]at this;exact this
   |false=>
    simp only[bh,bC]at h3 ⊢;let⟨c,k,p,G⟩:=h3;have H:=F.all.length;rw[ku p]at H;match c1,H with|[d],_=>exact⟨d,rfl,p,trivial⟩
def Ug(h:Rel K β ω Z s a w){r:aD}{o:bO}{v v':SV}{u:az}{s':St}(hv:bj (aH K β Z s a w) u v)(f:∀c∈v.cells,ca c) (b:(kq r o v).exec s=J (v',s')):∃ω' Z',Rel K β ω' Z' s' a w∧Calm K β a ω Z s w ω' Z' s' w∧gZ K β ω' Z' s' a w r u v':=by
 cases v with
 |one c=>simp only[kq]at b;let⟨c1,l,h1,b⟩:=aI b;obtain⟨rfl,rfl⟩:=aQ b;let⟨d,i,j,k1,g⟩:=Ue h hv.2 (f c (by simp[SV.cells])) h1;exact⟨d,i,j,k1,gZ.yq ⟨hv.1,trivial⟩ (by rw[yn hv.1];exact⟨g,trivial⟩)⟩
 |agg cs=>simp only[kq]at b;let⟨c1,l,h1,b⟩:=aI b;obtain⟨rfl,rfl⟩:=aQ b;obtain⟨ws,rfl,e⟩:=hv;let⟨d,i,j,k1,g⟩:=Uf (r:=r) (o:=o) cs 0 ws.toList ω Z s _ _ h e (λc k=>f c k) h1;exact⟨d,i,j,k1,gZ.yq ⟨ws,rfl,aG.c8 g.all.length λ_ _ _ _ _=>trivial⟩ g⟩
 |aX xs=>simp only[kq]at b;let⟨c1,l,h1,b⟩:=aI b;obtain⟨rfl,rfl⟩:=aQ b;obtain⟨vs,rfl,e⟩:=hv;let⟨d,i,j,k1,g,m⟩:=afe (r:=r) (o:=o) xs 0 vs.toList ω Z s _ _ h e (λc k=>f c k) h1;exact⟨d,i,j,k1,gZ.yq ⟨vs,rfl,m⟩ g⟩
 |undef=>simp[kq,Prog.exec]at b
def A8(h:Rel K β ω Z s a w){c:C}{d:D}{u:az}{s':St}(g:aH K β Z s a w c u)(f:(kK c).exec s=J (d,s')):∃ω' Z',Rel K β ω' Z' s' a w∧Calm K β a ω Z s w ω' Z' s' w∧a6 w Z' d u:=by
 cases c with
 |d x=>obtain⟨rfl,rfl⟩:=aQ f;exact⟨ω,Z,h,Calm.refl,g⟩
 |aS r j hv cv e k xs=>
  simp only[kK,Prog.exec]at f;let⟨_,n,h1,f⟩:=aI f;obtain⟨⟨i,l⟩,rfl⟩:=bW h1;let⟨_,q,h2,f⟩:=aI f;obtain⟨rfl,rfl⟩:=aQ f;let⟨ω',Z',t1,t2,t,o,t3,t4⟩:=Ua h h2;have m:(n r).at j≠.dead:=by rcases t4 with t4|t4<;>(rw[t4];simp)
  let⟨ys,v,y,f7,f2,f3,f4,f5,f6,f8⟩:=FY h g i l m;exact⟨ω',Z',t1,t2,f8 Z' (λb p=>t2.z b p) (t1.frozen t3 (by rw[t2.bU];exact f2) f3)⟩
 |_=>simp[kK,Prog.exec]at f
def DL(w:World)(Z:Nat→Prop):L az→L D→Prop:=λus ds=>aG (λu d=>a6 w Z d u) us ds
def F0:∀(cs:L C)(us:L az)(ω:Nat→Option cj)(Z:Nat→Prop)(s s':St)(ds:L D),Rel K β ω Z s a w→aG (λu c=>aH K β Z s a w c u) us cs→(∀c∈cs,ca c)→(nr cs).exec s=J (ds,s')→∃ω' Z',Rel K β ω' Z' s' a w∧Calm K β a ω Z s w ω' Z' s' w∧DL w Z' us ds:=by
 intro cs;induction cs with
 |nil=>
  intro us ω Z s s' ds h d _ f;obtain⟨rfl,rfl⟩:=aQ f;cases us with|nil=>exact⟨ω,Z,h,Calm.refl,trivial⟩|cons u us=>exact d.elim
 |cons c cs n=>
  intro us ω Z s s' ds h d i f;cases us with|nil=>exact d.elim|cons u us=>simp only[nr]at f;let⟨c1,o,h1,f⟩:=aI f;let⟨j,F,h2,f⟩:=aI f;obtain⟨rfl,rfl⟩:=aQ f;let⟨k,p,q,k1,r⟩:=A8 h d.1 h1;have g:∀x∈cs,ca x:=λx l=>i x (gU _ l);let⟨m,t,v,k2,y⟩:=n us k p o _ j q (d.2.ju λu c A B=>k1.jM h.cD (λe xs _ l _=>bX l (g c A e xs)) B) g h2;exact⟨m,t,v,k1.trans k2,a6.mono (λb E=>⟨rfl,k2.z b E⟩) _ _ r,y⟩
def Uh(h:Rel K β ω Z s a w){e:Nat}{c:C}{xs:L (L D)}{u:az}{s':St}(d:aH K β Z s a w c u)(b:(elems e c).exec s=J (xs,s')):s'=s∧((u=.slice O 0 0∧xs=[])∨∃f cap,u=.slice (J f) xs.length cap∧(cap=0∨f.spot=O)∧xs.length≤cap∧cH w Z e xs f.block f.off):=by unfold elems at b;split at b;obtain⟨rfl,rfl⟩:=aQ b;exact⟨rfl,.inl ⟨d,rfl⟩⟩;rename_i n ys;let⟨_,o,h1,g⟩:=aI b;let⟨⟨i,p⟩,l⟩:=bW h1;let⟨q,m⟩:=aQ g;subst l;subst q;subst m;subst i;let⟨f,cap,t,v,x,y⟩:=(a6.fR p).1 d;grind;rename_i r j hv cv n k ys;simp only[Prog.exec]at b;let⟨_,o,h1,g⟩:=aI b;grind [bW,aQ,alive,Mt];simp[Prog.exec]at b
end
section types
variable{P:Program}{w:World}{t:TypeId}{i:TI}
def qQ(h:jt P t=J i):∃info d,P.info? t=J info∧P.underlying t=J d∧i.size=info.size∧i.bytes=info.bytes∧i.kind=tk d∧i.zero=info.zero.bind (FC i.kind.agg):=by grind [jt]
def run_typeInfo(h:jt P t=J i):∃info,(typeInfo t).run P w=.ok info w∧info.size=i.size∧info.bytes=i.bytes∧i.zero=info.zero.bind (FC i.kind.agg):=by
 let⟨info,d,h1,h2,h3,a,c,b⟩:=qQ h;refine⟨info,?_,h3.symm,a.symm,b⟩;show(match P.info? t with|some i=>(pure i:Sem TypeInfo)|none=>stuck "no such type").run P w=_
 rw[h1];rfl
def run_sizeOf(h:jt P t=J i):(sizeOf t).run P w=.ok i.size w:=by let⟨info,h1,h2,_⟩:=run_typeInfo (w:=w) h;simp[sizeOf,h1,h2]
def dP(h:jt P t=J i):∃d,P.underlying t=J d∧tk d=i.kind∧(underlying t).run P w=.ok d w:=by
 let⟨info,d,h1,h2,h3,b,a,c⟩:=qQ h;refine⟨d,h2,a.symm,?_⟩;show(match P.underlying t with|some d=>(pure d:Sem nc)|none=>stuck "no such type").run P w=_
 rw[h2];rfl
def F2(h:jt P t=J i):(isAgg t).run P w=.ok i.kind.agg w:=by let⟨d,_,h1,h2⟩:=dP (w:=w) h;simp only[isAgg,cL,h2,cO,←h1];cases d<;>rfl
def Mv(h:jt P t=J i){z:L D}(b:i.zero=J z):∃v,(zeroValue t).run P w=.ok v w∧ko v.cells.toList=J z∧FB v=i.kind.agg:=by
 let⟨info,h1,h2,h3,a⟩:=run_typeInfo (w:=w) h;rw[b]at a;cases hv:info.zero with
 |none=>rw[hv]at a;cases a
 |some v=>rw[hv]at a;simp only[Option.bind_some,FC]at a;split at a;rename_i c;exact⟨v,by simp[zeroValue,h1,hv],a.symm,c⟩;cases a
def vy(h:jt P t=J i){z:L D}(a:i.zero=J z):∃v,(zeroValue t).run P w=.ok v w∧ko v.cells.toList=J z:=by let⟨v,h1,h2,_⟩:=Mv (w:=w) h a;exact⟨v,h1,h2⟩
def my{d:nc}{e:TypeId}(h:tk d=.slice e):d=.slice e:=by cases d<;>simp[tk]at h;rw[h]
def Ba{d:nc}{fs:L (Nat×TypeId)}(h:tk d=.struct fs):∃fields:bv Field,d=.struct fields∧fs=fields.toList.map λf=>(f.offset,f.type):=by cases d<;>simp[tk]at h;grind
def F4{d:nc}{n:Nat}{e:TypeId}(h:tk d=.array n e):d=.array n e:=by cases d<;>simp[tk]at h;rw[h.1,h.2]
def qR{d:nc}(h:tk d=.str):d=.string:=by cases d<;>simp[tk]at h;rfl
def vz{d:nc}{k:ln}(h:tk d=.int k):d=.int k:=by cases d<;>simp[tk]at h;rw[h]
def Mw{d:nc}(h:tk d=.bool):d=.bool:=by cases d<;>simp[tk]at h;rfl
end types
section
variable{K:Ctx}{β:Key→Option Nat}{ω:Nat→Option cj}{Z:Nat→Prop}{s:St}{a:Act}{w:World}
def oF:∀{vs:L az}{ds:L D},ko vs=J ds→DL w Z vs ds|[],ds,h=>by simp[ko]at h;subst h;trivial|v::vs,ds,h=>by unfold ko at h;split at h;rename_i d a h1 h2;cases h;exact⟨(Mr h1).2,oF h2⟩;cases h
theorem vA{d:D}{u:az}(h:a6 w Z d u):fH u=W:=by
 cases d<;>simp only[a6]at h;subst h;rfl;subst h;rfl;subst h;rfl;subst h;rfl;split at h;obtain⟨a,cap,rfl,_⟩:=h;rfl;grind [Ma];rename_i k;cases k<;>simp only[L7]at h<;>(subst h;rfl);rename_i ps;cases ps with|nil=>exact(show u=.nilIface from h)▸rfl|cons p ps=>obtain⟨b,rfl,_⟩:=h;rfl
theorem Bb{c:C}{u:az}(h:aH K β Z s a w c u)(g:c≠.dead):fH u=W:=by
 cases c with
 |d x=>exact vA h|own e xs=>simp only[aH]at h;split at h;obtain⟨l,cap,rfl,_⟩:=h;rfl;grind [Ma]
 |aS r j hv cv e k xs=>simp only[aH]at h;split at h;grind [Ma];obtain⟨l,cap,rfl,_⟩:=h;rfl
 |ea r j hv e i off=>obtain⟨b,o,rfl,_⟩:=h;rfl
 |da xs=>obtain⟨b,o,rfl,_⟩:=h;rfl
 |ptr k off=>obtain⟨b,_,rfl⟩:=h;rfl
 |cy f caps=>obtain⟨vs,rfl,_⟩:=h;rfl
 |dead=>exact bX rfl g
theorem Ui{e:Nat}{xs:L (L D)}{b:dt}{len cap:Nat}(h:aH K β Z s a w (.own e xs) (.slice (J b) len cap)):isMap e=I:=by grind [aH.jh,TQ]
def aff{e:Nat}{xs:L (L D)}{f:dt}{len cap:Nat}(h:aH K β Z s a w (.d (.sl e xs)) (.slice (J f) len cap)):isMap e=I:=by by_cases c:isMap e=W;let⟨b,h1,_⟩:=(a6.mr c).1 h;exact(TQ h1).elim;simpa using c
def Bc{i:TI}{cs:L C}{off:Nat}{v:SV}{s':St}(a:(kL i cs off).exec s=J (v,s')):s'=s∧0<i.size∧off+i.size≤cs.length∧((i.kind.agg=W∧v=.agg ((cs.drop off).take i.size))∨(i.kind.agg=I∧∃c,cs[off]?=J c∧c≠.dead∧v=.one c)):=by simp only[kL]at a;let⟨_,d,h1,b⟩:=aI a;grind [bW,Prog.exec]
def cells_of_cell?{b o:Nat}{v:az}(h:w.cell? ⟨b,o,O⟩=J v):∃ws el fz,w.heap[b]?=J (.cells ws el fz)∧ws[o]?=J v:=by grind [World.cell?]
def Mx{P:Program}{t:TypeId}{i:TI}(n:jt P t=J i){b o off:Nat}{cs:L C}{us:L az}(f:aG (λu c=>aH K β Z s a w c u) us cs)(p:∀c∈cs,ca c) {v:SV}{s':St}(z:(kL i cs off).exec s=J (v,s'))(d:∀j,j<us.length→w.cell? ⟨b,o+j,O⟩=us[j]?):∃u,(loadVar t ⟨b,o+off,O⟩).run P w=.ok u w∧bj (aH K β Z s a w) u v∧(∀c∈v.cells,ca c):=by
 obtain⟨rfl,r,A,h⟩:=Bc z;have F:=f.length;have e:=d (off+i.size-1) (by omega);rw[du (by omega)]at e;let⟨ws,el,fz,B,D⟩:=cells_of_cell? e;have E:∀j,j<us.length→ws[o+j]?=us[j]? :=by simp_all [World.cell?]
 rcases h with⟨hk,rfl⟩|⟨hk,c,m,q,rfl⟩
 simp only[loadVar,cL,F2 n,cO,hk,bf,run_sizeOf n];have g:o+off+i.size≤ws.size:=by grind
 rw[run_loadCells B g];refine⟨.agg (ws.extract (o+off) (o+off+i.size)),by simp,⟨_,rfl,?_⟩,λc m=>p c (List.mem_of_mem_drop (List.mem_of_mem_take m))⟩;have:(ws.extract (o+off) (o+off+i.size)).toList=(us.drop off).take i.size:=by apply rV;grind
 rw[this];exact(f.drop off).take _;let⟨u,x,k⟩:=f.get m;have g:off<us.length:=(gi.1 x).1;have l:=d off g;rw[x]at l;have y:=eA m;refine⟨u,?_,⟨Bb k q,k⟩,by simp_all [SV.cells]⟩;simp[loadVar,F2 n,hk,l]
theorem ed.us:∀{ds:L D}{b o:Nat},ed w Z ds b o→∃us,DL w Z us ds∧∀j,j<us.length→w.cell? ⟨b,o+j,O⟩=us[j]?|[],_,_,_=>⟨[],trivial,by simp⟩|d::ds,b,o,h=>by let⟨⟨v,h1,h2⟩,h3⟩:=h;let⟨us,a,c⟩:=ed.us h3;refine⟨v::us,⟨h2,a⟩,λj e=>?_⟩;grind
theorem DL.map:∀{us:L az}{ds:L D},DL w Z us ds→aG (λu c=>aH K β Z s a w c u) us (ds.map .d)|[],[],_=>trivial|_::_,_::_,h=>⟨h.1,DL.map h.2⟩
def cf(K:Ctx)(s':St)(a:Act)(dst:Nat)(r:Result Next)(v:SV):Prop:=∃u w' b ω' Z',r=.ok (.value u) w'∧Rel K b ω' Z' s' a w'∧gZ K b ω' Z' s' a w' (.tmp dst) u v
theorem cf.same(h:Rel K β ω Z s a w){dst:Nat}{r:Result Next}{u:az}{v:SV}(d:r=.ok (.value u) w)(hv:bj (aH K β Z s a w) u v)(b:∀c∈v.cells,ca c):cf K s a dst r v:=⟨u,w,β,ω,Z,d,h,gZ.A7 hv b⟩
theorem cf.d(h:Rel K β ω Z s a w){dst:Nat}{r:Result Next}{u:az}{d:D}(b:r=.ok (.value u) w)(hv:a6 w Z d u):cf K s a dst r (.one (.d d)):=cf.same h b ⟨Bb (K:=K) (β:=β) (s:=s) (a:=a) (c:=.d d) hv (by simp),hv⟩ (by simp[SV.cells,ca])
def Uj(h:Rel K β ω Z s a w){t:TypeId}{i:TI}(T:jt K.P t=J i){c:C}{u:az}{v:SV}{s':St}(A:aH K β Z s a w c u)(m:(qL i c).exec s=J (v,s')):s'=s∧∃x,(Au t u).run K.P w=.ok x w∧bj (aH K β Z s a w) x v∧(∀c∈v.cells,ca c):=by
 unfold qL at m;split at m;rename_i k off;simp only[Prog.exec]at m;split at m;rename_i cs z;obtain⟨b,ws,el,lo,hi,g1,g2,g3,g4,g5⟩:=di.cell h z;obtain⟨b',f1,rfl⟩:=A;rw[f1]at g1;cases g1;have N:aG (λu c=>aH K β Z s a w c u) ws.toList (gI (.box k) (s (.box k)) 0 cs):=by
  refine aG.c8 (by rw[g5.length,A5]) λj u c hu R=>?_;rw[vu]at R;cases B:cs[j]? with|none=>grind|some c0=>rw[B]at R;simp only[Option.map_some,Nat.zero_add,Option.some.injEq]at R;subst R;obtain⟨u',h1,h2⟩:=g5.get B;rw[hu]at h1;cases h1;exact h.mj (by rw[z];exact B) (by rw[lB f1 g3];exact hu) h2
 have V:∀c∈gI (.box k) (s (.box k)) 0 cs,ca c:=by grind [lZ,vu,Mq]
 obtain⟨x,h1,h2,h3⟩:=Mx (P:=K.P) T (b:=b) (o:=0) N V m (λj hj=>by simp[World.cell?,g3]);refine⟨(Bc m).1,x,?_,h2,h3⟩;simpa[Au,uM]using h1;simp[Prog.exec]at m;rename_i r j hv e n off;simp only[Prog.exec]at m;obtain⟨_,G,h1,oG⟩:=aI m;obtain⟨X,Y⟩:=bW h1;subst Y;obtain⟨b,o,rfl,_,g⟩:=A;have key:∀(H:Nat)(ys:L (L D)),((G r).at j=.own H ys∨(G r).at j=.d (.sl H ys))→(match ys[n]? with|some ds=>kL i (ds.map .d) off|none=>Prog.fail).exec G=J (v,s')→s'=G∧∃x,(Au t (.pointer (J ⟨b,o,O⟩))).run K.P w=.ok x w∧bj (aH K β Z G a w) x v∧(∀c∈v.cells,ca c):=by
  intro H ys f y;split at y;rename_i ds hds;have hal:(G r).at j≠.dead:=by rcases f with f|f<;>(rw[f];simp)
  obtain⟨S,len,cap,f1,f2,f3,f4,ys',f5⟩:=g X hal;have hee:H=e∧ys=ys':=by rcases f with f|f<;>rw[f]at f5<;>rcases f5 with f5|f5<;>cases f5<;>exact⟨rfl,rfl⟩
  obtain⟨rfl,rfl⟩:=hee;have E:cH w Z H ys S.block S.off:=by
   rcases f with f|f
   obtain⟨u2,e1,p⟩:=h.cell (gK f (by simp));grind [aH.gY,Ui];obtain⟨u2,e1,p⟩:=h.cell (gK f (by simp));rw[f1]at e1;cases e1;obtain⟨ad2,afh,e2,_,_,e3⟩:=(a6.fR (aff p)).1 p;cases e2;exact e3
  obtain⟨_,q⟩:=E.get hds;obtain⟨us,F,l⟩:=q.us;obtain⟨x,h2,h3,h4⟩:=Mx (P:=K.P) T (b:=S.block) (o:=S.off+n*H) F.map (by simp[ca]) y l;refine⟨(Bc y).1,x,?_,h3,h4⟩;simp_all [Au,uM];simp[Prog.exec]at y
 grind [Prog.exec];rename_i ds;obtain⟨b,o,rfl,hz,q⟩:=A;obtain⟨us,F,l⟩:=q.us;obtain⟨x,h2,h3,h4⟩:=Mx (P:=K.P) T (b:=b) (o:=o) F.map (by simp[ca]) m l;refine⟨(Bc m).1,x,?_,h3,h4⟩;simpa[Au,uM]using h2;simp[Prog.exec]at m
end
theorem aG.splice{α β:Type}{R:α→β→Prop}{as us:L α}{a cs:L β}{off:Nat}(h:aG R as a)(k:aG R us cs):aG R (Vs.splice as off us) (Vs.splice a off cs):=by unfold Vs.splice;rw[k.length];exact((h.take off).append k).append (h.drop _)
theorem Uk{α:Type}{l m:L α}{off:Nat}(h:off+m.length≤l.length):(splice l off m).length=l.length:=by simp only[splice,lr,awb,List.length_drop];omega
theorem yr{α:Type}{l m:L α}{off:Nat}(h:off+m.length≤l.length)(j:Nat):(splice l off m)[j]?=if off≤j∧j<off+m.length then m[j-off]? else l[j]? :=by grind [splice,awb]
section
variable{K:Ctx}{β:Key→Option Nat}{ω:Nat→Option cj}{Z:Nat→Prop}{s:St}{a:Act}{w:World}
def vB{R:C→az→Prop}{u:az}{v:SV}{cs:L C}(hv:bj R u v)(a:v.ew=J cs):v.cells=cs∧aG (λu c=>R c u) u.cells.toList cs:=by
 cases v with
 |one c=>simp only[SV.ew,Option.some.injEq]at a;subst a;exact⟨rfl,by rw[ku hv.1];exact⟨hv.2,trivial⟩⟩|agg ds=>simp only[SV.ew,Option.some.injEq]at a;subst a;obtain⟨ws,rfl,h⟩:=hv;exact⟨rfl,h⟩
 |aX x=>simp[SV.ew]at a|undef=>simp[SV.ew]at a
def Ul:∀{cs:L C}{ds:L D}{s s':St},(nr cs).exec s=J (ds,s')→∀c∈cs,c≠.dead
 |[],_,_,_,_,_,h=>by simp at h|c::cs,ds,s,s',a,x,b=>by
  simp only[nr]at a;let⟨c1,e,h1,a⟩:=aI a;let⟨d,f,h2,a⟩:=aI a;rcases iA.1 b with rfl|b
  rintro rfl;simp[kK,Prog.exec]at h1;exact Ul h2 x b
theorem Um{P:dr}{t:aW}{i:TI}(d:jt P t=J i){b o:Nat}{u:az}(a:u.cells.size=i.size){w':World}(c:(storeCells ⟨b,o,O⟩ u.cells.toList).run P w=.ok () w'):(storeVar t ⟨b,o,O⟩ u).run P w=.ok () w':=by simp[storeVar,run_sizeOf d,a,c]
def afi(h:Rel K β ω Z s a w){t:aW}{i:TI}(ht:jt K.P t=J i){take:aD→ao}{c:C}{ua u:az}{v:SV}{y:bu}{s':St}(hca:aH K β Z s a w c ua)(hv:bj (aH K β Z s a w) u v)(hno:∀c∈v.cells,ca c) (X:(AK take i c v).exec s=J (y,s')):∃w' β' ω' Z',(aez t ua u).run K.P w=.ok () w'∧Rel K β' ω' Z' s' a w':=by
 unfold AK at X;split at X;rename_i k off cs Y;let⟨hcc,f⟩:=vB hv Y;let⟨_,s1,h1,oG⟩:=aI X;let⟨z,hs1⟩:=bW h1;subst hs1;clear X;let⟨G,s2,h2,l⟩:=aI oG;have hal:=Uc h2;let⟨F5,Z1,H,k1,p1⟩:=FZ (mk:=λn=>(.box k,off+n)) (take:=take) cs 0 _ ω Z s1 s2 G h f (λc hc=>hno c (by rw[hcc];exact hc)) h2;simp only[Prog.exec]at l;split at l;rename_i old S;let⟨_,s3,h3,p⟩:=aI l;let⟨hle,hs3⟩:=bW h3;subst hs3;simp only[dn,Prog.exec,Option.some.injEq,fj]at p;obtain⟨_,rfl⟩:=p;let⟨b,ws,el,lo,hi,g1,g2,g3,g4,g5⟩:=di.cell H S;obtain⟨b',f1,rfl⟩:=hca;rw[f1]at g1;cases g1;have q:u.cells.toList.length=i.size:=by rw[f.length,z]
 have afj:u.cells.size=i.size:=by simpa using q
 have Un:ws.size=old.length:=by simpa using g5.length
 let⟨w',ga,e1,A,e3⟩:=Mj (P:=K.P) (o:=off) u.cells.toList 0 w ws g3 g4 (by omega) (λx hx=>by
  let⟨j,hj⟩:=lZ hx
  have N:j<cs.length:=by grind
  have Vu:=du N
  let⟨u2,R,q2⟩:=f.get Vu
  grind [Bb])
 have B:ga.toList=splice ws.toList off u.cells.toList:=by simpa using e3
 have vC:G.length=i.size:=by rw[←p1.all.length,q]
 have hall':aG (λu c=>aH K β Z1 s3 a w c u) ga.toList (splice old off G):=by rw[B];exact g5.splice p1.all
 let⟨R,_⟩:=H.Mk (k:=k) (cs:=splice old off G) (w':=w') g2 (.inr f1) A.os A.tape A.output A.size A.other A.here (λo ho=>g4 o (by rw[←A.len];exact ho)) hall' (by intro j e xs u1 b1 hj hu qS;rw[B,yr (by simp;omega)]at hu;rw[yr (by omega)]at hj;rw[vC]at hj;rw[q]at hu;split at hj;rename_i hr;rw[ax hr]at hu;have:=(p1.get hj hu).2 e xs b1 rfl qS;grind;rename_i hr;rw[aK hr]at hu;exact H.own (.box k) j e xs u1 b1 rfl (by rw[S];exact hj) (by rw[lB f1 g3];exact hu) qS);grind [aez,uM,Um];simp[Prog.exec]at l;rename_i r j jN e n off cs Y;let⟨hcc,f⟩:=vB hv Y;let⟨_,s1,h1,oG⟩:=aI X;let⟨z,hs1⟩:=bW h1;subst hs1;clear X;let⟨ds,s2,h2,l⟩:=aI oG;have hal:=Ul h2;let⟨F5,Z1,H,k1,p1⟩:=F0 cs _ ω Z s1 s2 ds h f (λc hc=>hno c (by rw[hcc];exact hc)) h2;have afk:=k1.jM h.cD (c:=.ea r j jN e n off) (by simp) hca;simp only[Prog.exec]at l;let⟨_,s3,h3,p⟩:=aI l;let⟨⟨sx,oH⟩,hs3⟩:=bW h3;subst hs3;clear l;split at p;rename_i e0 ys D;split at p;rename_i row T;let⟨_,s4,h4,Uo⟩:=aI p;let⟨hle,hs4⟩:=bW h4;subst hs4;simp only[dn,Prog.exec,Option.some.injEq,fj]at Uo;obtain⟨_,rfl⟩:=Uo;obtain⟨b,o,rfl,_,g⟩:=afk;let⟨E,len,cap,f1,f2,f3,f4,ys',f5⟩:=g sx (vw D);have hee:e0=e∧ys=ys':=by grind
 obtain⟨rfl,rfl⟩:=hee;have V:isMap e0=I:=by let⟨u2,e1,awI⟩:=H.cell (gK D (by simp));grind [Ui]
 let⟨ad2,afh,R,q2,q3,q4⟩:=H.ownRow V D;rw[f1]at R;cases R;let⟨F6,ws,el,lo,hi,g3,g4,g5⟩:=H.own r j e0 ys _ _ oH (gK D (by simp)) f1 rfl;let⟨hrl,hrr⟩:=q4.get T;have hnl:n<ys.length:=(gi.1 T).1;have q:u.cells.toList.length=i.size:=by rw[f.length,z]
 have afj:u.cells.size=i.size:=by simpa using q
 have hdl:ds.length=i.size:=by rw[←p1.length,q]
 have hbound:E.off+n*e0+e0≤ws.size:=by
  have:n*e0+e0≤cap*e0:=by rw[←Nat.succ_mul];exact Nat.mul_le_mul_right _ (by omega)
  omega
 subst f3;subst f4;let⟨w',ga,e1,A,e3⟩:=Mj (P:=K.P) (o:=E.off+n*e0+off) u.cells.toList 0 w ws g3 g5 (by omega) (λx hx=>by
  let⟨j,hj⟩:=lZ hx
  have N:j<cs.length:=by grind
  have Vu:=du N
  let⟨u2,R,q2⟩:=f.get Vu
  grind [Bb])
 have B:ga.toList=splice ws.toList (E.off+n*e0+off) u.cells.toList:=by simpa using e3
 have hnz:=(H.c9 _ _ F6).1;have hZ:∀b,Z1 b→w'.heap[b]?=w.heap[b]? ∧Z1 b:=λb hb=>⟨A.other b (λe=>hnz (e▸hb)),hb⟩;have F:∀x,w'.cell? ⟨E.block,x,O⟩=if E.off+n*e0+off≤x∧x<E.off+n*e0+off+i.size then(u.cells.toList)[x-(E.off+n*e0+off)]? else w.cell? ⟨E.block,x,O⟩:=by
  intro x;have:w'.cell? ⟨E.block,x,O⟩=ga.toList[x]? :=by simp[World.cell?,A.here]
  grind [yr,World.cell?]
 have hrows:cH w' Z1 e0 (ys.set n (splice row off ds)) E.block E.off:=by
  refine cH.c8 λm x V=>?_;rw[xO]at V;by_cases hmn:n=m;subst hmn;simp only[bf,hnl]at V;cases V;refine⟨by simp_all [Uk],ed.c8 λjj d hd=>?_⟩;rw[yr (by omega)]at hd;rw[F];split at hd;rename_i hr;rw[ax (by omega)];let⟨u2,R,q2⟩:=p1.get hd;grind [a6.mono];rename_i hr;rw[aK (by omega)];let⟨u2,R,q2⟩:=hrr.get hd;grind [a6.mono];rw[aK hmn]at V;let⟨R,q2⟩:=q4.get V;refine⟨R,ed.c8 λjj d hd=>?_⟩;let⟨u2,q3,q4⟩:=q2.get hd;have N:jj<e0:=by grind
  refine⟨u2,?_,a6.mono hZ _ _ q4⟩;rw[F,aK,q3];rintro ⟨h5,h6⟩;rcases Nat.lt_or_gt_of_ne hmn with hlt|hlt
  have:n*e0+e0≤m*e0:=by rw[←Nat.succ_mul];exact Nat.mul_le_mul_right _ hlt
  omega;have:m*e0+e0≤n*e0:=by rw[←Nat.succ_mul];exact Nat.mul_le_mul_right _ hlt
  omega
 have:=H.setRow V D oH f1 A g3 (by simp) hrows;grind [aez,uM,Um];simp[Prog.exec]at p;simp[Prog.exec]at p;simp[Prog.exec]at X
end
def gm:D→az|.int k n=>.int k n|.bool b=>.bool b|.str s=>.string ⟨s.toArray⟩|_=>.nilFunc
def qT(ds:L D):az:=.agg (ds.map gm).toArray
def sy{w:World}{Z:Nat→Prop}:∀{sh:L Sc}{ds:L D},bM sh ds=W→DL w Z (ds.map gm) ds
 |[],[],_=>trivial|k::sh,d::ds,h=>by cases k<;>cases d<;>simp only[bM,bG,eh,bh]at h;exact⟨rfl,sy h.2⟩;exact⟨rfl,sy h⟩;exact⟨rfl,sy h⟩
 |[],_::_,h=>by cases h
 |k::_,[],h=>by cases k<;>cases h
def Be{w:World}{Z:Nat→Prop}:∀{sh:L Sc}{ds:L D}{us:L az},bM sh ds=W→DL w Z us ds→us=ds.map gm
 |[],[],[],_,_=>rfl|[],[],_::_,_,h=>h.elim|k::sh,d::ds,u::us,h,a=>by cases k<;>cases d<;>simp only[bM,bG,eh,bh]at h;have:=Be h.2 a.2;have e:u=_:=a.1;rw[this,e];rfl;have:=Be h a.2;have e:u=_:=a.1;rw[this,e];rfl;have:=Be h a.2;have e:u=_:=a.1;rw[this,e];rfl
 |_::_,_::_,[],_,h=>h.elim|[],_::_,_,h,_=>by cases h
 |k::_,[],_,h,_=>by cases k<;>cases h
structure Bf(P:Program)(t:TypeId)(sh:List Sc):Prop where
 eq:∀(w:World)(Z:Nat→Prop)(xs ys:Array Value)(ds es:List D)(x y:Operand),DL w Z xs.toList ds→DL w Z ys.toList es→bM sh ds=true→bM sh es=true→∀op,op=.eql∨op=.neq→
  (do eqGuard op t x y (.agg xs) (.agg ys);binOp op t (.agg xs) (.agg ys)).run P w=.ok (.bool (if op=.eql then cP ds es else !cP ds es)) w
 equal:∀(w:World)(ds es:List D),bM sh ds=true→bM sh es=true→(Op.equal t (qT ds) (qT es)).run P w=.ok (cP ds es) w
 check:∀(w:World)(ds:List D)(em:Bool),bM sh ds=true→(Instr.checkKey em 10000 t (qT ds)).run P w=.ok () w
 struct:∃fs,P.underlying t=some (.struct fs)
structure fT(P:Program)(cfg:bg):Prop where
 T:∀t i,cfg.ti t=some i→jt P t=some i
 E:∀t sh,lk t cfg.eqs=some sh→Bf P t sh
 G:∀g l,lk g cfg.qJ=some l→(g,l.map λn=>Value.int .u64 n)∈su P
section
variable{K:Ctx}{β:Key→Option Nat}{ω:Nat→Option cj}{Z:Nat→Prop}{s:St}{a:Act}{w:World}{cfg:bg}(hT:fT K.P cfg)
include hT
def afm{t:aW}{c c':C}{f:Nat}{u:az}{s':St}(p:aH K β Z s a w c u)(h:(AL cfg t c f).exec s=J (c',s')):s'=s∧∃v,(aeA t u f).run K.P w=.ok v w∧aH K β Z s a w c' v∧ca c'∧fH v=W:=by
 unfold AL at h;split at h;rename_i size bytes fs zero x;split at h;rename_i o R l;split at h;rename_i i y;let⟨_,S,h1,m⟩:=aI h;let⟨z,A⟩:=bW h1;subst A;clear h;let⟨d,hd,hk,B⟩:=dP (w:=w) (hT.T _ _ x);obtain⟨fields,rfl,rfl⟩:=Ba hk;rw[gj]at l;cases G:fields.toList[f]? with
 |none=>grind|some fd=>
  rw[G]at l;simp only[Option.map_some,Option.some.injEq,fj]at l;obtain⟨rfl,rfl⟩:=l;have D:fields[f]?=J fd:=by simpa using G
  have g:∀b o,(aeA t (.pointer (J ⟨b,o,O⟩)) f).run K.P w=.ok (.pointer (J ⟨b,o+fd.offset,O⟩)) w:=by intro b o;simp only[aeA,cL,B,cO,D,uM,ek,fieldPlace,run_sizeOf (hT.T _ _ y),z,bC,vt]
  cases c with
  |ptr k off=>obtain⟨rfl,rfl⟩:=aQ m;obtain⟨b,q,rfl⟩:=p;exact⟨rfl,_,g _ _,⟨b,q,rfl⟩,by simp[ca],rfl⟩
  |ea r j hv e n off=>obtain⟨rfl,rfl⟩:=aQ m;obtain⟨b,o,rfl,q,H⟩:=p;refine⟨rfl,_,g _ _,⟨b,o+fd.offset,rfl,q,λh1 h2=>?_⟩,by simp[ca],rfl⟩;grind
  |da ds=>let⟨_,V,h2,E⟩:=aI m;let⟨N,F⟩:=bW h2;subst F;obtain⟨rfl,rfl⟩:=aQ E;obtain⟨b,o,rfl,q,H⟩:=p;exact⟨rfl,_,g _ _,⟨b,o+fd.offset,rfl,q,H.drop _⟩,by simp[ca],rfl⟩
  |_=>simp[Prog.exec]at m
 simp[Prog.exec]at h;simp[Prog.exec]at h;simp[Prog.exec]at h
def afn{t:aW}{c c':C}{k:ln}{n:M}{u:az}{s':St}(o:aH K β Z s a w c u)(f:(AN cfg t c n).exec s=J (c',s')):s'=s∧∃F,(LK t u (.int k n)).run K.P w=.ok F w∧aH K β Z s a w c' F∧ca c'∧fH F=W:=by
 unfold AN at f;split at f;rename_i size bytes et zero p;let⟨d,hd,hk,q⟩:=dP (w:=w) (hT.T _ _ p);have v:=my hk;subst v;split at f;rename_i i x;have m:∀(y:dt)(len cap:Nat),y.spot=O→0≤n∧n<len→(LK t (.slice (J y) len cap) (.int k n)).run K.P w=.ok (.pointer (J ⟨y.block,y.off+n.toNat*i.size,O⟩)) w:=by intro y len cap G hn;simp[LK,asIntOf,q,run_sizeOf (hT.T _ _ x),hn,pQ G]
 split at f;rename_i r j hv cv e k' xs;let⟨_,X,h1,g⟩:=aI f;let⟨hn,h⟩:=bW h1;subst h;let⟨_,s2,h2,l⟩:=aI g;let⟨⟨A,H⟩,z⟩:=bW h2;subst z;obtain⟨rfl,rfl⟩:=aQ l;obtain⟨N,B,rfl,R,g3,S,Y,g6⟩:=(aH.nA H).1 o;refine⟨rfl,_,m N _ B R hn,⟨_,_,rfl,S,λq1 q2=>?_⟩,by simp[ca],rfl⟩;grind;rename_i e xs;let⟨_,X,h1,g⟩:=aI f;let⟨hn,h⟩:=bW h1;subst h;let⟨_,s2,h2,l⟩:=aI g;let⟨⟨A,H⟩,z⟩:=bW h2;subst z;split at l;rename_i ds D;obtain⟨rfl,rfl⟩:=aQ l;obtain⟨y,cap,rfl,V,g3,Y⟩:=(a6.fR H).1 o;let⟨_,E⟩:=Y.get D;have hlt:=(gi.1 D).1;let⟨R,S⟩:=V.resolve_left (by omega);exact⟨rfl,_,m y _ cap R hn,⟨_,_,rfl,S,by rw[A];exact E⟩,by simp[ca],rfl⟩;grind;simp[Prog.exec]at f;simp[Prog.exec]at f;rename_i size bytes len et zero p;let⟨d,hd,hk,q⟩:=dP (w:=w) (hT.T _ _ p);have v:=F4 hk;subst v;split at f;rename_i i x;split at f;rename_i key off;let⟨_,X,h1,g⟩:=aI f;let⟨hn,h⟩:=bW h1;subst h;obtain⟨rfl,rfl⟩:=aQ g;obtain⟨b,g1,rfl⟩:=o;refine⟨rfl,_,?_,⟨b,g1,rfl⟩,by simp[ca],rfl⟩;simp[LK,asIntOf,q,run_sizeOf (hT.T _ _ x),hn,uM,vt];simp[Prog.exec]at f;simp[Prog.exec]at f;simp[Prog.exec]at f
end
def afo(l:L ai):(kh l.toArray).toList=l:=by rw[Lib.toList_data]
def Bg(l:L ai):(kh l.toArray).size=l.length:=by simp[Av]
def afp(l m:L ai):kh l.toArray++kh m.toArray=kh (l++m).toArray:=by apply aeB;simp_all
def afq(l:L ai)(n:Nat):(kh l.toArray)[n]?=l[n]? :=by by_cases h:n<l.length;rw[du h,getElem?_pos (kh l.toArray) n (by simpa[Av]using h)];rfl;grind [Av]
def Up(l:L ai)(a b:Nat):(kh l.toArray).extract a b=kh ((l.take b).drop a).toArray:=by apply aeB;simp[ByteArray.data_extract];rw[List.drop_take]
section
variable{K:Ctx}{β:Key→Option Nat}{ω:Nat→Option cj}{Z:Nat→Prop}{s:St}{a:Act}{w:World}{cfg:bg}(hT:fT K.P cfg)
def afr{op:iL}{k:ln}{x y:M}{v:SV}{s':St}{t:aW}(a:op≠.shl∧op≠.shr)(b:(sc op k x y).exec s=J (v,s')):
  s'=s∧∃d u,v=.one (.d d)∧(binOp op t (.int k x) (.int k y)).run K.P w=.ok u w∧a6 w Z d u:=by
 cases op<;>simp only[sc,ft,iC]at b<;>first
  |exact bX rfl a.1
  |exact bX rfl a.2
  |(obtain⟨rfl,rfl⟩:=aQ b;exact⟨rfl,_,_,rfl,by simp[binOp,Op.intArith,Op.intBits,Op.intCmp],rfl⟩)
  |(obtain⟨_,f,h1,c⟩:=aI b
    obtain⟨hn,e⟩:=bW h1
    subst e
    obtain⟨rfl,rfl⟩:=aQ c
    exact⟨rfl,_,_,rfl,by simp[binOp,Op.intDiv,hn],rfl⟩)
  |(simp[Prog.exec]at b)
def afs{op:iL}{x y:L ai}{v:SV}{s':St}{t:aW}(b:(AJ op x y).exec s=J (v,s')):s'=s∧∃d u,v=.one (.d d)∧(binOp op t (.string ⟨x.toArray⟩) (.string ⟨y.toArray⟩)).run K.P w=.ok u w∧a6 w Z d u:=by
 have a:(x==y)=decide (x=y):=by by_cases h:x=y<;>simp[h]
 cases op<;>simp only[AJ,iC]at b<;>first
  |(obtain⟨rfl,rfl⟩:=aQ b
    refine⟨rfl,_,_,rfl,?_,rfl⟩
    simp only[binOp,Op.stringOp,afo,a,ek])
  |(let⟨_,f,h1,c⟩:=aI b
    let⟨hn,e⟩:=bW h1
    subst e
    obtain⟨rfl,rfl⟩:=aQ c
    refine⟨rfl,_,_,rfl,?_,rfl⟩
    simp only[binOp,Op.stringOp,Bg,afp]
    rw[aK]
    simp
    simp only[IntKind.max,Fc,IntKind.bits]
    simp
    omega)
  |(simp[Prog.exec]at b)
theorem aft(op:iL)(t:aW)(x y:bO){u v:az}(a:fH u=W)(hn:u≠.nilIface):(eqGuard op t x y u v).run K.P w=.ok () w:=by unfold eqGuard;cases op<;>simp<;>cases u<;>simp_all [fH]
def afu{P:dr}{t:aW}(a:(underlying t).run P w=.ok .bool w)(d:Nat)(x y:ao):(Fe (d+1) t (.bool x) (.bool y)).run P w=.ok (x==y) w:=by rw[Fe];simp[a]
def Uq{P:dr}{t:aW}(a:(underlying t).run P w=.ok .bool w)(x y:ao):(Op.equal t (.bool x) (.bool y)).run P w=.ok (x==y) w:=afu a 9999 x y
def afv{P:dr}{t e:aW}(a:(underlying t).run P w=.ok (.slice e) w)(d:Nat)(b:Option dt)(l c:Nat):(Fe (d+1) t (.slice b l c) (.slice O 0 0)).run P w=.ok b.isNone w:=by rw[Fe];simp only[cL,a,cO];cases b<;>simp
def eq_nil{P:dr}{t e:aW}(a:(underlying t).run P w=.ok (.slice e) w)(b:Option dt)(l c:Nat):(Op.equal t (.slice b l c) (.slice O 0 0)).run P w=.ok b.isNone w:=afv a 9999 b l c
def Ur{K:Ctx}{β:Key→Option Nat}{Z:Nat→Prop}{s:St}{a:Act}{w:World}{c:C}{b:ao}{v:az}(h:vh c=J b)(i:aH K β Z s a w c v):∃f l cap,v=.slice f l cap∧f.isNone=b∧fH v=W:=by
 cases c with
 |d x=>cases x<;>simp only[vh,Option.some.injEq,reduceCtorEq]at h;have e:v=.slice O 0 0:=i;subst h e;exact⟨_,_,_,rfl,rfl,rfl⟩;split at h;cases h;rename_i g;let⟨f,cap,e,_⟩:=(a6.fR (by simpa using g)).1 i;cases h;subst e;exact⟨_,_,_,rfl,rfl,rfl⟩
 |own e xs=>simp only[vh]at h;split at h;cases h;rename_i g;let⟨f,cap,e,_⟩:=(aH.gY (by simpa using g)).1 i;cases h;subst e;exact⟨_,_,_,rfl,rfl,rfl⟩
 |aS=>simp only[vh]at h;split at h;cases h;rename_i g;let⟨f,cap,e,_⟩:=(aH.nA (by simpa using g)).1 i;cases h;subst e;exact⟨_,_,_,rfl,rfl,rfl⟩
 |_=>simp[vh]at h
def F7{cs:L C}:∀{us:L az}{ds:L D},iP cs=J ds→aG (λu c=>aH K β Z s a w c u) us cs→DL w Z us ds:=by
 induction cs with
 |nil=>intro us ds h b;simp[iP]at h;subst h;cases us with|nil=>trivial|cons _ _=>exact b.elim
 |cons c cs e=>
  intro us ds h b;cases us with
  |nil=>exact b.elim|cons u us=>
   cases c with
   |d x=>simp only[iP]at h;split at h;rename_i f h1;cases h;exact⟨b.1,e h1 b.2⟩;cases h
   |_=>simp[iP]at h
include hT in
def afw(h:Rel K β ω Z s a w){op:iL}{t yt:aW}{x y:bO}{dst:Nat}{o:ch}(ho:o.op=.binOp op t x y yt){v:SV}{s':St}(S:(bE cfg o.op dst).exec s=J (v,s')):cf K s' a dst ((execOp a.eval o).run K.P w) v:=by
 rw[ho]at S;simp only[bE]at S;let⟨v1,s1,h1,D⟩:=aI S;let⟨n,F,vJ,_⟩:=gx h h1;subst n;clear S;let⟨v2,s2,h2,b⟩:=aI D;let⟨p,G,hn2,_⟩:=gx h h2;subst p;clear D;have i:(execOp a.eval o).run K.P w=((do eqGuard op t x y (a.eval x) (a.eval y);binOp op t (a.eval x) (a.eval y):Sem az).run K.P w).andThen λu w'=>.ok (.value u) w':=by simp only[execOp,ho,cL,ek]
 split at b;rename_i c1 c2;let⟨o1,m⟩:=F;let⟨o2,q⟩:=G;have key:s'=s2∧a.eval x≠.nilIface∧∃d u,v=.one (.d d)∧(binOp op t (a.eval x) (a.eval y)).run K.P w=.ok u w∧a6 w Z d u:=by
  unfold qK at b;split at b;rename_i k i1 k' i2;have g:a.eval x=.int k i1:=m;have j:a.eval y=.int k' i2:=q;rw[g,j];split at b;let⟨_,s3,h3,r⟩:=aI b;let⟨H,z⟩:=bW h3;subst z;obtain⟨rfl,rfl⟩:=aQ r;refine⟨rfl,by simp,_,_,rfl,?_,rfl⟩;simp_all [binOp,Op.shift,aK];let⟨_,s3,h3,r⟩:=aI b;let⟨H,z⟩:=bW h3;subst z;obtain⟨rfl,rfl⟩:=aQ r;refine⟨rfl,by simp,_,_,rfl,?_,rfl⟩;simp_all [binOp,Op.shift,aK];rename_i n p;split at b;rename_i hk;subst hk;let⟨g1,g2⟩:=afr (K:=K) (w:=w) (Z:=Z) (t:=t) ⟨n,p⟩ b;grind;simp[Prog.exec]at b;rename_i l1 l2;have g:a.eval x=.string ⟨l1.toArray⟩:=m;have j:a.eval y=.string ⟨l2.toArray⟩:=q;rw[g,j];let⟨g1,g2⟩:=afs (K:=K) (w:=w) (Z:=Z) (t:=t) b;grind;rename_i b1 b2;have g:a.eval x=.bool b1:=m;have j:a.eval y=.bool b2:=q;rw[g,j];split at b;rename_i c;let⟨d,hd,hk,f⟩:=dP (w:=w) (hT.T _ _ c);have A:d=.bool:=by cases d<;>simp[tk]at hk;rfl
  subst A;obtain⟨rfl,rfl⟩:=aQ b;refine⟨rfl,by simp,_,_,rfl,?_,rfl⟩;simp only[binOp,cL,Uq f,cO,ek];rename_i c;let⟨d,hd,hk,f⟩:=dP (w:=w) (hT.T _ _ c);have A:d=.bool:=by cases d<;>simp[tk]at hk;rfl
  subst A;obtain⟨rfl,rfl⟩:=aQ b;refine⟨rfl,by simp,_,_,rfl,?_,rfl⟩;simp only[binOp,cL,Uq f,cO,ek];simp[Prog.exec]at b;have j:a.eval y=.slice O 0 0:=q;rw[j];unfold FD at b;split at b;rename_i c H;let⟨d,hd,hk,f⟩:=dP (w:=w) (hT.T _ _ c);obtain⟨e,rfl⟩:∃e,d=.slice e:=by cases d<;>simp[tk]at hk;exact⟨_,rfl⟩
  let⟨ad,l,cap,g,B,_⟩:=Ur H m;rw[g];obtain⟨rfl,rfl⟩:=aQ b;refine⟨rfl,by simp,_,_,rfl,?_,rfl⟩;simp only[binOp,cL,eq_nil f,cO,ek,B];rename_i c H;let⟨d,hd,hk,f⟩:=dP (w:=w) (hT.T _ _ c);obtain⟨e,rfl⟩:∃e,d=.slice e:=by cases d<;>simp[tk]at hk;exact⟨_,rfl⟩
  let⟨ad,l,cap,g,B,_⟩:=Ur H m;rw[g];obtain⟨rfl,rfl⟩:=aQ b;refine⟨rfl,by simp,_,_,rfl,?_,rfl⟩;simp only[binOp,cL,eq_nil f,cO,ek,B];simp[Prog.exec]at b;simp[Prog.exec]at b
 grind [cf.d,cL,cO,aft];rename_i vE cs2;unfold FE at b;let⟨N,g,m⟩:=F;let⟨R,j,q⟩:=G;split at b;rename_i sh ds es V X Y;have hE:=(hT.E t sh V).eq;split at b;rename_i C;simp only[bG]at C;obtain⟨rfl,rfl⟩:=aQ b;refine cf.d (d:=.bool (cP ds es)) h (u:=.bool (cP ds es)) ?_ rfl;rw[i,g,j,hE w Z N R ds es x y (F7 X m) (F7 Y q) C.1 C.2 .eql (.inl rfl)];rfl;simp[Prog.exec]at b;rename_i sh ds es V X Y;have hE:=(hT.E t sh V).eq;split at b;rename_i C;simp only[bG]at C;obtain⟨rfl,rfl⟩:=aQ b;refine cf.d (d:=.bool (!cP ds es)) h (u:=.bool (!cP ds es)) ?_ rfl;rw[i,g,j,hE w Z N R ds es x y (F7 X m) (F7 Y q) C.1 C.2 .neq (.inr rfl)];rfl;simp[Prog.exec]at b;simp[Prog.exec]at b;simp[Prog.exec]at b
end
section
variable{K:Ctx}{β:Key→Option Nat}{ω:Nat→Option cj}{Z:Nat→Prop}{s:St}{a:Act}{w:World}{cfg:bg}(hT:fT K.P cfg)
def sz{c:C}{n:M}{s':St}(a:(nk c).exec s=J (n,s')):s'=s∧∃k,c=.d (.int k n):=by unfold nk at a;grind [Prog.exec]
def afy{c:C}{b:ao}{s':St}(a:(yd c).exec s=J (b,s')):s'=s∧c=.d (.bool b):=by unfold yd at a;grind [Prog.exec]
def awJ(h:Rel K β ω Z s a w){x:bO}{n:M}{s':St}(f:(do let c ←dc x;nk c:Prog M).exec s=J (n,s')):s'=s∧∃k,a.eval x=.int k n:=by let⟨c,i,h1,b⟩:=aI f;let⟨d,j,g,_⟩:=eV h h1;subst d;obtain⟨e,k,rfl⟩:=sz b;exact⟨e,k,g⟩
def afz(h:Rel K β ω Z s a w){op:UnOp}{t:aW}{x:bO}{dst:Nat}{o:ch}(m:o.op=.unOp op t x){v:SV}{s':St}(i:(bE cfg o.op dst).exec s=J (v,s')):cf K s' a dst ((execOp a.eval o).run K.P w) v:=by
 rw[m]at i;simp only[bE]at i;let⟨c,p,h1,f⟩:=aI i;let⟨j,q,l,_⟩:=eV h h1;subst j;clear i;have e:(execOp a.eval o).run K.P w=((Op.unary op (a.eval x)).run K.P w).andThen λu w'=>.ok (.value u) w':=by simp only[execOp,m,cL,ek]
 split at f;rename_i k n _;obtain⟨rfl,rfl⟩:=aQ f;have g:a.eval x=.int k n:=l;exact cf.d (d:=.int k (k.wrap (0-n))) h (u:=.int k (k.wrap (0-n))) (by rw[e,g];simp[Op.unary,Op.intArith]) rfl;rename_i k n _;have g:a.eval x=.int k n:=l;simp only[sc,ft]at f;obtain⟨rfl,rfl⟩:=aQ f;exact cf.d (d:=.int k _) h (u:=.int k _) (by rw[e,g];simp[Op.unary,Op.intBits]) rfl;rename_i b _;obtain⟨rfl,rfl⟩:=aQ f;have g:a.eval x=.bool b:=l;exact cf.d (d:=.bool (!b)) h (u:=.bool (!b)) (by rw[e,g];simp[Op.unary]) rfl;simp[Prog.exec]at f
def afA{b:ao}{v x:SV}{u:az}{s':St}(hv:bj (aH K β Z s a w) u v)(c:(pG b v).exec s=J (x,s')):s'=s∧∃n:Nat,x=ft .i64 n∧((b=W∧∃l:L ai,u=.string ⟨l.toArray⟩∧n=l.length)∨(b=I∧∃h cap,u=.slice h n cap)):=by unfold pG at c;split at c;rename_i l;obtain⟨rfl,rfl⟩:=aQ c;exact⟨rfl,l.length,rfl,.inl ⟨rfl,l,hv.2,rfl⟩⟩;obtain⟨rfl,rfl⟩:=aQ c;exact⟨rfl,0,rfl,.inr ⟨rfl,O,0,hv.2⟩⟩;rename_i e xs;let⟨_,m,h1,d⟩:=aI c;let⟨i,f⟩:=bW h1;subst f;obtain⟨rfl,rfl⟩:=aQ d;let⟨h,cap,g,_⟩:=(a6.fR i).1 hv.2;grind;rename_i r j o cv e k xs;let⟨_,m,h1,d⟩:=aI c;let⟨i,f⟩:=bW h1;subst f;obtain⟨rfl,rfl⟩:=aQ d;let⟨h,cap,g,_⟩:=(aH.nA i).1 hv.2;grind;simp[Prog.exec]at c
def My(x:Option M)(y:Option az):Prop:=(x=O∧y=O)∨∃n k,x=J n∧y=J (.int k n)
def F8(h:Rel K β ω Z s a w){o:Option bO}{x:Option M}{s':St}(b:(sk o).exec s=J (x,s')):s'=s∧My x (o.map a.eval):=by
 cases o with
 |none=>obtain⟨rfl,rfl⟩:=aQ b;exact⟨rfl,.inl ⟨rfl,rfl⟩⟩
 |some y=>simp only[sk]at b;let⟨c,p,h1,d⟩:=aI b;let⟨n,q,h2,e⟩:=aI d;let⟨j,f⟩:=aQ e;let⟨g,r,l,_⟩:=eV h h1;subst g;let⟨i,k,m⟩:=sz h2;subst i;subst f;subst j;subst m;exact⟨rfl,.inr ⟨n,k,rfl,by rw[Option.map_some];exact congrArg J l⟩⟩
def Us{P:dr}(a:ao)(len cap:Nat){lo hi:Option M}{b c:Option az}(d:My lo b)(e:My hi c)(f:0≤lo.getD 0∧lo.getD 0≤hi.getD len∧hi.getD len≤len)(g:len≤cap):(LL a len cap b c O).run P w=.ok ((lo.getD 0).toNat,(hi.getD len).toNat,cap) w:=by
 rcases d with⟨rfl,rfl⟩|⟨n,k,rfl,rfl⟩<;>rcases e with⟨rfl,rfl⟩|⟨m,k',rfl,rfl⟩<;>simp only[Option.getD_none,Option.getD_some]at f ⊢;simp[LL];have h1:0≤m∧m≤(cap:M):=by omega
 simp[LL,aeC,asIntOf,h1];simp_all [LL,aeC,asIntOf];have h1:0≤m∧m≤(cap:M):=by omega
 have h2:0≤n∧n≤m:=by omega
 have h3:0≤n∧n≤((m.toNat:Nat):M):=by omega
 simp_all [LL,aeC,asIntOf]
include hT in
def afB(h:Rel K β ω Z s a w){t:aW}{x:bO}{lo hi:Option bO}{dst:Nat}{o:ch}(ho:o.op=.slice t x lo hi O){v:SV}{s':St}(E:(bE cfg o.op dst).exec s=J (v,s')):cf K s' a dst ((execOp a.eval o).run K.P w) v:=by
 rw[ho]at E;simp only[bE]at E;have z:(execOp a.eval o).run K.P w=((aeD t (a.eval x) (lo.map a.eval) (hi.map a.eval) O).run K.P w).andThen λu w'=>.ok (.value u) w':=by simp only[execOp,ho,cL,ek];rfl
 split at E;rename_i N;let⟨d,hd,hk,R⟩:=dP (w:=w) (hT.T _ _ N);have S:=qR hk;subst S;let⟨v1,s1,h1,A⟩:=aI E;let⟨V,hv,Gh,hnu1⟩:=gx h h1;subst V;clear E;let⟨l,s2,h2,B⟩:=aI A;let⟨X,hl⟩:=F8 h h2;subst X;clear A;let⟨m,s3,h3,f⟩:=aI B;let⟨Y,hm⟩:=F8 h h3;subst Y;clear B;unfold FJ at f;split at f;rename_i str;let⟨_,s4,h4,q⟩:=aI f;let⟨G,y⟩:=bW h4;subst y;obtain⟨rfl,rfl⟩:=aQ q;have e1:a.eval x=.string ⟨str.toArray⟩:=hv.2;refine cf.d h (u:=.string ⟨((str.take (m.getD str.length).toNat).drop (l.getD 0).toNat).toArray⟩) ?_ rfl;rw[z,e1];have hbd:=Us (P:=K.P) (w:=w) I str.length str.length hl hm G (Nat.le_refl _);simp only[aeD,Instr.slice,cL,R,cO,Bg,Option.isSome_none,bh,bC];simp only[ek,cO,hbd,Up];simp[Prog.exec]at f;rename_i et N;split at E;rename_i i hft;let⟨d,hd,hk,R⟩:=dP (w:=w) (hT.T _ _ N);have S:=my hk;subst S;let⟨v1,s1,h1,A⟩:=aI E;let⟨V,hv,Gh,hnu1⟩:=gx h h1;subst V;clear E;let⟨l,s2,h2,B⟩:=aI A;let⟨X,hl⟩:=F8 h h2;subst X;clear A;let⟨m,s3,h3,f⟩:=aI B;let⟨Y,hm⟩:=F8 h h3;subst Y;clear B;have C:∀(F:Option dt)(len cap:Nat),0≤l.getD 0∧l.getD 0≤m.getD len∧m.getD len≤len→len≤cap→a.eval x=.slice F len cap→(execOp a.eval o).run K.P w=.ok (.value (.slice (if cap=(l.getD 0).toNat then F else F.map (·.add ((l.getD 0).toNat*i.size))) ((m.getD len).toNat-(l.getD 0).toNat) (cap-(l.getD 0).toNat))) w:=by intro F len cap G hc hx;have hbd:=Us (P:=K.P) (w:=w) W len cap hl hm G hc;rw[z,hx];simp only[aeD,Instr.slice,cL,R,cO,hbd,run_sizeOf (hT.T _ _ hft),ek]
 unfold pH at f;split at f;let⟨_,s4,h4,q⟩:=aI f;let⟨G,y⟩:=bW h4;subst y;obtain⟨rfl,rfl⟩:=aQ q;have e1:a.eval x=.slice O 0 0:=hv.2;have:=C O 0 0 (by grind) (Nat.le_refl _) e1;refine cf.d h (u:=.slice O 0 0) ?_ rfl;grind;rename_i e xs;let⟨_,s4,h4,q⟩:=aI f;let⟨G,y⟩:=bW h4;subst y;let⟨_,s5,h5,he6⟩:=aI q;let⟨⟨hsz,D⟩,hs5⟩:=bW h5;subst hs5;obtain⟨rfl,rfl⟩:=aQ he6;let⟨F,cap,e1,g24,g3,g5⟩:=(a6.fR D).1 hv.2;have hr:=C (J F) xs.length cap G g3 e1;refine cf.d h hr ?_;have b:((xs.take (m.getD xs.length).toNat).drop (l.getD 0).toNat).length=(m.getD xs.length).toNat-(l.getD 0).toNat:=by simp_all
 have hrows:=(g5.take (m.getD xs.length).toNat).drop (l.getD 0).toNat;refine(a6.fR D).2 ?_;by_cases g:cap=(l.getD 0).toNat;rw[ax g];refine⟨F,cap-(l.getD 0).toNat,by rw[b],.inl (by omega),by rw[b];omega,?_⟩;have:((xs.take (m.getD xs.length).toNat).drop (l.getD 0).toNat)=[]:=List.length_eq_zero_iff.1 (by omega);rw[this];trivial;rw[aK g];have hc0:cap≠0:=by omega
 let⟨H,g4⟩:=g24.resolve_left hc0;refine⟨F.add ((l.getD 0).toNat*i.size),cap-(l.getD 0).toNat,by rw[b];rfl,.inr ⟨?_,?_⟩,by rw[b];omega,?_⟩;rw[pQ H];rw[pQ H];exact g4;simp_all [pQ];rename_i r j jN cv e k xs;let⟨_,s4,h4,q⟩:=aI f;let⟨G,y⟩:=bW h4;subst y;let⟨_,s5,h5,he6⟩:=aI q;let⟨⟨hsz,D⟩,hs5⟩:=bW h5;subst hs5;obtain⟨rfl,rfl⟩:=aQ he6;let⟨p,c,e1,H,g3,g4,g5,g6⟩:=(aH.nA D).1 hv.2;have hr:=C (J p) xs.length c G g3 e1;have b:((xs.take (m.getD xs.length).toNat).drop (l.getD 0).toNat).length=(m.getD xs.length).toNat-(l.getD 0).toNat:=by simp_all
 refine cf.same h hr ⟨rfl,(aH.nA D).2 ?_⟩ (by simp[SV.cells,ca]);have hsp:(if c=(l.getD 0).toNat then p else p.add ((l.getD 0).toNat*i.size)).spot=O:=by split;exact H;rw[pQ H]
 have hblk:(if c=(l.getD 0).toNat then p else p.add ((l.getD 0).toNat*i.size)).block=p.block:=by split;rfl;rw[pQ H]
 refine⟨if c=(l.getD 0).toNat then p else p.add ((l.getD 0).toNat*i.size),c-(l.getD 0).toNat,by rw[b];split<;>rfl,hsp,by rw[b];omega,g4,g5,λq1 q2=>?_⟩;let⟨F,len,cap,f1,f2,f3,f4,f4b,f5,f6,f7,ys,f8,f9⟩:=g6 q1 q2;refine⟨F,len,cap,f1,f2,by rw[hblk];exact f3,?_,?_,by omega,by rw[b];omega,f7,ys,f8,λqU=>?_⟩;by_cases g:c=(l.getD 0).toNat;exact .inr (by omega);rw[aK g,pQ H];rcases f4 with f4|f4
 grind;right;omega;by_cases g:c=(l.getD 0).toNat;grind;rw[aK g,pQ H];rcases f4 with f4|f4
 simp only;rw[f4,←hsz,←f5,Nat.add_mul];have:(l.getD 0).toNat*e≤c*e:=Nat.mul_le_mul_right _ (by omega);omega;omega;rw[b];have hx:=f9 qU;rw[hx];apply rV;intro n;simp only[List.getElem?_drop,List.getElem?_take];by_cases hn:n<(m.getD xs.length).toNat-(l.getD 0).toNat;have h1:(l.getD 0).toNat+n<(m.getD ((List.take xs.length (List.drop k ys)).length:M)).toNat:=by rw[←hx];omega
 have h2:(l.getD 0).toNat+n<xs.length:=by omega
 grind;have h1:¬((l.getD 0).toNat+n<(m.getD ((List.take xs.length (List.drop k ys)).length:M)).toNat):=by rw[←hx];omega
 grind;simp[Prog.exec]at f;simp[Prog.exec]at E;simp[Prog.exec]at E
end
open Go.MapKept
def Ut{ki ei:TI}(h1:ki.size<32768)(h2:ei.size<32768):r9 (cB ki ei)=ki.size:=by grind [r9,cB,ou,aeE]
def afD{ki ei:TI}(h2:ei.size<32768):FA (cB ki ei)=ei.size:=by grind [FA,cB,ou,aeE]
def Uu{ki ei:TI}(h2:ei.size<32768):va (cB ki ei)=ki.kind.agg:=by unfold va cB ou;cases ki.kind.agg<;>cases ei.kind.agg<;>simp<;>omega
def afE{ki ei:TI}:vf (cB ki ei)=ei.kind.agg:=by grind [vf,cB,ou]
def vF{ki ei:TI}(h1:ki.size<32768)(h2:ei.size<32768){en:c7}:oC (cB ki ei) en↔gl ki.kind.agg ki.size en.key∧gl ei.kind.agg ei.size en.val:=by have a:=Uu (ki:=ki) h2;have b:=Ut h1 h2;have c:vf (cB ki ei)=ei.kind.agg:=afE;have d:=afD (ki:=ki) h2;unfold oC;rw[a,b,c,d]
def F9{ki ei:TI}:isMap (cB ki ei)=W:=by unfold isMap cB ou;simp
theorem vG{ki ei:TI}(h1:ki.size<32768)(h2:ei.size<32768):eC (cB ki ei)=I:=by
 have a:ki.kind.agg.toNat≤1:=by cases ki.kind.agg<;>decide
 have b:ei.kind.agg.toNat≤1:=by cases ei.kind.agg<;>decide
 have:cB ki ei<1099511627776:=by unfold cB ou;omega
 unfold eC;cases h:Nat.ble 1099511627776 (cB ki ei);rfl;have:=Nat.le_of_ble_eq_true h;omega
def Mz{ki ei:TI}(h1:ki.size<32768)(h2:ei.size<32768):cB ki ei<549755813888:=by grind [aeE,cB,ou]
theorem sA{ki ei:TI}(h1:ki.size<32768)(h2:ei.size<32768):fP (cB ki ei)=I:=by have:=Mz h1 h2;unfold fP;cases h:Nat.ble 549755813888 (cB ki ei);rfl;have:=Nat.le_of_ble_eq_true h;omega
structure Uv(ki ei:TI)(e:Nat):Prop where
 mp:isMap e=true
 it:eC e=false
 oe:oE e=cB ki ei
def Uw{e:Nat}(h:e<1099511627776):eC e=I:=by unfold eC;cases h2:Nat.ble 1099511627776 e;rfl;have:=Nat.le_of_ble_eq_true h2;omega
def afF(e:Nat):549755813888≤iO e∧iO e=e+549755813888:=by unfold iO;omega
def afG{e n:Nat}(h1:549755813888≤e)(h2:e<1099511627776)(h3:e=n+549755813888):oE e=n:=by simp_all [fP,Uw,Nat.ble_eq_true_of_le,oE]
def qV{ki ei:TI}(h1:ki.size<32768)(h2:ei.size<32768){e:Nat}(h:e=cB ki ei∨e=iO (cB ki ei)):Uv ki ei e:=by
 rcases h with rfl|h
 exact⟨F9,vG h1 h2,TR (sA h1 h2)⟩;have f:=Mz h1 h2;let⟨a,b⟩:=afF (cB ki ei);rw[←h]at a b;have c:e<1099511627776:=by omega
 have d:4294967296≤e:=by omega
 exact⟨Nat.ble_eq_true_of_le d,Uw c,afG a c b⟩
section
variable{K:Ctx}{β:Key→Option Nat}{ω:Nat→Option cj}{Z:Nat→Prop}{s:St}{a:Act}{w:World}{cfg:bg}
def sB{P:dr}(hT:fT P cfg){t kt:aW}{ki ei:TI}(h:ib cfg t=J (kt,ki,ei)):∃a,P.underlying t=J (.map kt a)∧cfg.ti kt=J ki∧cfg.ti a=J ei∧ki.size<32768∧ei.size<32768:=by unfold ib at h;split at h;rename_i size bytes e a zero c;split at h;rename_i f g h1 h2;split at h;rename_i i;cases h;let⟨info,d,k,j,l,m,b,n⟩:=qQ (hT.T _ _ c);refine⟨a,?_,h1,h2,i⟩;simp only at b;cases d<;>simp[tk]at b;rw[j,b.1,b.2];cases h;cases h;cases h
def dC(agg:ao)(ds:L D):az:=if agg then qT ds else gm (ds.headD .nil)
structure MA(P:Program)(kt:TypeId)(sh:List Sc)(agg:Bool):Prop where
 check:∀(w:World)(ds:List D)(em:Bool),bM sh ds=true→(Instr.checkKey em 10000 kt (dC agg ds)).run P w=.ok () w
 find:∀(w:World)(kd:List D)(es:List MapEntry)(ig:List (List D)),bM sh kd=true→aG (λen ks=>en.key=dC agg ks∧bM sh ks=true) es ig→
  ∃r,(Instr.findKey kt (dC agg kd) es).run P w=.ok r w∧((r=none∧∀ks∈ig,cP kd ks=false)∨∃(i:Nat)(en:MapEntry)(ks:List D),r=some (i,en.val)∧es[i]?=some en∧ig[i]?=some ks∧cP kd ks=true∧∀(j:Nat)ks',j<i→ig[j]?=some ks'→cP kd ks'=false)
def afH{k:Sc}{a b:D}(c:bM [k] [a]=W)(d:bM [k] [b]=W):iD a b=W↔a=b:=by cases k<;>cases a<;>simp only[bM,bG,eh,bh,xP]at c<;> cases b<;>simp only[bM,bG,eh,bh,xP]at d<;>simp[iD];rw[c,d];simp
def vH{k:Sc}{sh:L Sc}{d:D}{ds:L D}(h:bM (k::sh) (d::ds)=W):bM [k] [d]=W∧bM sh ds=W:=by cases k<;>cases d<;>simp only[bM,bG,eh,bh,xP]at h ⊢ <;>simp_all
theorem Ga:∀{sh:L Sc}{xs ys:L D},bM sh xs=W→bM sh ys=W→(cP xs ys=W↔xs=ys)
 |[],[],[],_,_=>by simp[cP]|k::sh,x::xs,y::ys,h1,h2=>by let⟨a,b⟩:=vH h1;let⟨c,d⟩:=vH h2;simp only[cP,bG,afH a c,Ga b d,xQ]
 |[],_::_,_,h,_=>by cases h
 |[],[],_::_,_,h=>by cases h
 |k::_,[],_,h,_=>by cases k<;>cases h
 |k::_,_::_,[],_,h=>by cases k<;>cases h
def Ux{P:dr}{kt:aW}{sh:L Sc}(c:Bf P kt sh)(kd:L D)(hk:bM sh kd=W):∀(es:L c7)(ig:L (L D))(i:Nat),aG (λen ks=>en.key=dC W ks∧bM sh ks=W) es ig→∃r,(awc kt (dC W kd) es i).run P w=.ok r w∧((r=O∧∀ks∈ig,cP kd ks=I)∨∃(n:Nat)(en:c7)(ks:L D),r=J (i+n,en.val)∧es[n]?=J en∧ig[n]?=J ks∧cP kd ks=W∧∀(j:Nat)ks',j<n→ig[j]?=J ks'→cP kd ks'=I)
 |[],[],i,_=>⟨O,rfl,.inl ⟨rfl,by simp⟩⟩|en::es,ks::ig,i,h=>by
  have d:=c.equal w kd ks hk h.1.2;have a:en.key=qT ks:=h.1.1;simp only[awc,cL,a,dC,bf,d,cO];cases e:cP kd ks with
  |true=>exact⟨J (i,en.val),rfl,.inr ⟨0,en,ks,rfl,rfl,rfl,e,by simp⟩⟩|false=>
   let⟨r,h1,h2⟩:=Ux c kd hk es ig (i+1) h.2;simp only[dC,bf]at h1;refine⟨r,h1,?_⟩;rcases h2 with⟨h2,h3⟩|⟨n,b,ks',f,g,k,l,o⟩
   grind;refine .inr ⟨n+1,b,ks',by rw[f];congr 2;omega,by simpa using g,by simpa using k,l,λj k' p m=>?_⟩;grind
def Uy{d:nc}{sh:L Sc}(hd:∀(a b:L D),bM sh a=W→bM sh b=W→LM d (dC I a) (dC I b)=J (cP a b))(kd:L D)(hk:bM sh kd=W):∀(es:L c7)(ig:L (L D))(i:Nat),aG (λen ks=>en.key=dC I ks∧bM sh ks=W) es ig→∃r,Instr.findNow d (dC I kd) es i=J r∧((r=O∧∀ks∈ig,cP kd ks=I)∨∃(n:Nat)(en:c7)(ks:L D),r=J (i+n,en.val)∧es[n]?=J en∧ig[n]?=J ks∧cP kd ks=W∧∀(j:Nat)ks',j<n→ig[j]?=J ks'→cP kd ks'=I)
 |[],[],i,_=>⟨O,rfl,.inl ⟨rfl,by simp⟩⟩|en::es,ks::ig,i,h=>by
  have f:=hd kd ks hk h.1.2;have c:en.key=dC I ks:=h.1.1;simp only[Instr.findNow,c,f];cases g:cP kd ks with
  |true=>exact⟨J (i,en.val),rfl,.inr ⟨0,en,ks,rfl,rfl,rfl,g,by simp⟩⟩|false=>
   let⟨r,h1,h2⟩:=Uy hd kd hk es ig (i+1) h.2;refine⟨r,h1,?_⟩;rcases h2 with⟨h2,h3⟩|⟨n,e,ks',k,l,m,o,q⟩
   grind;refine .inr ⟨n+1,e,ks',by rw[k];congr 2;omega,by simpa using l,by simpa using m,o,λj k' s p=>?_⟩;grind
def Gb{P:dr}(hT:fT P cfg){kt:aW}{ki:TI}(hi:cfg.ti kt=J ki){sh:L Sc}(c:pI cfg kt=J sh):MA P kt sh ki.kind.agg:=by
 have e:∀(d:nc)(k:Sc),P.underlying kt=J d→(∀x y:D,bM [k] [x]=W→bM [k] [y]=W→LM d (gm x) (gm y)=J (iD x y))→(∀(w:World)(x:D)(em:ao),bM [k] [x]=W→(ls em 10000 kt (gm x)).run P w=.ok () w)→MA P kt [k] I:=by
  intro d k m c l;have one:∀{ds:L D},bM [k] ds=W→∃x,ds=[x]:=by
   intro ds h;match ds,h with
   |[x],_=>exact⟨x,rfl⟩|[],h=>cases k<;>cases h
   |x::y::r,h=>have:=(vH h).2;cases this
  refine⟨λw ds em h=>?_,λw kd es ig hk b=>?_⟩;obtain⟨x,rfl⟩:=one h;exact l w x em h;let⟨r,h1,h2⟩:=Uy (d:=d) (sh:=[k]) (λx y a hy=>by grind [dC,cP]) kd hk es ig 0 b;simp_all [MapKept.run_findKey]
 unfold pI at c;rw[hi]at c;let⟨info,d,n,g,o,p,i,q⟩:=qQ (hT.T _ _ hi);split at c;rename_i hk;cases c;cases hk;have hd:=vz i.symm;subst hd;refine e _ _ g (λx y a hy=>?_) (λw x em a=>?_);cases x<;>simp only[bM,bG,eh,bh,xP]at a;cases y<;>simp only[bM,bG,eh,bh,xP]at hy;subst a;simp[gm,LM,iD,hy];cases x<;>simp only[bM,bG,eh,bh,xP]at a;rw[show(10000:Nat)=9999+1 from rfl];unfold ls;simp[jF g,gm];rename_i hk;cases c;cases hk;have hd:=qR i.symm;subst hd;refine e _ _ g (λx y a hy=>?_) (λw x em a=>?_);cases x<;>simp only[bM,bh]at a;cases y<;>simp only[bM,bh]at hy;grind [gm,LM,iD,awd];cases x<;>simp only[bM,bh]at a;rw[show(10000:Nat)=9999+1 from rfl];unfold ls;simp[jF g,gm];rename_i hk;cases c;cases hk;have hd:=Mw i.symm;subst hd;refine e _ _ g (λx y a hy=>?_) (λw x em a=>?_);cases x<;>simp only[bM,bh]at a;cases y<;>simp only[bM,bh]at hy;simp[gm,LM,iD];cases x<;>simp only[bM,bh]at a;rw[show(10000:Nat)=9999+1 from rfl];unfold ls;simp[jF g,gm];rename_i fs _ _ _ hk;cases hk;have j:=hT.E _ _ c;refine⟨λw ds em h=>j.check w ds em h,λw kd es ig hk b=>?_⟩;have f:(match P.underlying kt with|some (.array _ _)|some (.struct _)=>W|_=>I)=W:=by grind [Bf.struct]
 rw[run_findKey_eq w f];let⟨r,h1,h2⟩:=Ux (w:=w) j kd hk es ig 0 b;refine⟨r,h1,?_⟩;grind;cases c
def MB:∀{ds:L D}{vs:L az},iU w Z ds vs↔DL w Z vs ds|[],[]=>rW|d::ds,v::vs=>and_congr rW MB|[],_::_=>rW|_::_,[]=>rW
def afI{agg:ao}{n:Nat}{v:az}(h:gl agg n v):v.cells.toList.length=n:=by unfold gl at h;split at h;obtain⟨cs,rfl,rfl⟩:=h;rfl;rw[ku h.1,h.2];rfl
def oJ:∀{xs:L (L D)}{es:L c7},eD w Z xs es→xs.length=es.length|[],[],_=>rfl|_::_,_::_,h=>by simp[oJ h.2]
theorem pR:∀{xs:L (L D)}{es:L c7}{i:Nat}{en:c7},eD w Z xs es→es[i]?=J en→∃x,xs[i]?=J x∧iU w Z x (nz en)
 |x::xs,en::es,0,b,h,a=>by simp only[fY,Option.some.injEq]at a;subst a;exact⟨x,rfl,h.1⟩|x::xs,en::es,i+1,b,h,a=>by obtain⟨y,h1,h2⟩:=pR (i:=i) h.2 (by simpa using a);grind
 |[],[],_,_,_,a=>by simp at a
def Gc:∀{xs:L (L D)}{es:L c7},xs.length=es.length→(∀(i:Nat)x en,xs[i]?=J x→es[i]?=J en→iU w Z x (nz en))→eD w Z xs es|[],[],_,_=>trivial|x::xs,en::es,a,h=>⟨h 0 x en rfl rfl,Gc (by simpa using a) λi y e hy b=>h (i+1) y e (by simpa using hy) (by simpa using b)⟩|[],_::_,a,_=>by simp at a|_::_,[],a,_=>by simp at a
def yt{agg:ao}{n:Nat}{en:c7}{x:L D}(hk:gl agg n en.key)(h:iU w Z x (nz en)):DL w Z en.key.cells.toList (x.take n)∧DL w Z en.val.cells.toList (x.drop n):=by have h1:=MB.1 h;unfold nz at h1;have a:=afI hk;have b:x.length=(en.key.cells.toList++en.val.cells.toList).length:=h1.length.symm;rw[←List.take_append_drop n x]at h1;exact aG.split (by grind) h1
def MC{agg:ao}{n:Nat}{sh:L Sc}{v:az}{ds:L D}(a:gl agg n v)(hd:DL w Z v.cells.toList ds)(c:bM sh ds=W):v=dC agg ds:=by
 have b:=Be c hd;unfold gl at a;split at a;obtain⟨cs,rfl,_⟩:=a;simp only[dC,bf,qT];congr 1;apply Array.toList_inj.1;exact b;obtain⟨h1,rfl⟩:=a;rw[ku h1]at b;match ds,b with|[d],b=>grind [dC]
theorem Gd{agg:ao}{n:Nat}{sh:L Sc}{ds:L D}(a:bM sh ds=W)(hn:ds.length=n)(h1:agg=I→n=1):gl agg n (dC agg ds):=by
 cases agg with
 |true=>exact⟨_,rfl,by simpa using hn⟩|false=>
  have:=h1 rfl;subst this;match ds,hn with
  |[d],_=>
   refine⟨?_,rfl⟩;match sh with
   |[]=>cases a
   |k::sh=>cases k<;>cases d<;>first|rfl|(simp[bM]at a)
theorem Uz:∀{sh:L Sc}{xs ys:L D},bM sh xs=W→bM sh ys=W→xs.map gm=ys.map gm→xs=ys
 |[],[],[],_,_,_=>rfl|k::sh,x::xs,y::ys,h1,h2,h=>by let⟨a,b⟩:=vH h1;let⟨c,d⟩:=vH h2;simp only[dO,xQ]at h;rw[Uz b d h.2];congr 1;have h:=h.1;cases k<;>cases x<;>simp only[bM,bG,eh,bh,xP]at a<;> cases y<;>simp only[bM,bG,eh,bh,xP]at c<;>simp_all [gm]
 |[],_::_,_,h,_,_=>by cases h
 |[],[],_::_,_,h,_=>by cases h
 |k::_,[],_,h,_,_=>by cases k<;>cases h
 |k::_,_::_,[],_,h,_=>by cases k<;>cases h
def UA(agg:ao)(sh:L Sc)(en:c7)(ks:L D):Prop:=en.key=dC agg ks∧bM sh ks=W∧en.key.cells.toList=ks.map gm
def UB{e:Nat}{sh:L Sc}{n:Nat}(hn:r9 e=n):∀{xs:L (L D)}{es:L c7},eD w Z xs es→(∀en∈es,oC e en)→jH sh n xs=W→aG (UA (va e) sh) es (xs.map λx=>x.take n)|[],[],_,_,_=>trivial|x::xs,en::es,h,b,a=>by simp only[jH,l8,bG]at a;have hk:=(b en (jq ..)).1;rw[hn]at hk;have hp:=(yt hk h.1).1;exact⟨⟨MC hk hp a.1,a.1,Be a.1 hp⟩,UB hn h.2 (λen c=>b en (gU _ c)) a.2⟩
def aG.perm{α β:Type}{R:α→β→Prop}{as d:L α}(hp:as.Perm d):∀{a:L β},aG R as a→∃bs',a.Perm bs'∧aG R d bs':=by
 induction hp with
 |nil=>intro a h;cases a with|nil=>simp_all|cons _ _=>exact h.elim
 |cons x _ g=>
  intro a h;cases a with|nil=>exact h.elim|cons b a=>let⟨bs',h1,h2⟩:=g h.2;exact⟨b::bs',h1.cons b,h.1,h2⟩
 |swap x y l=>
  intro a h;cases a with
  |nil=>exact h.elim|cons b a=>
   cases a with|nil=>exact h.2.elim|cons c a=>exact⟨c::b::a,.swap ..,h.2.1,h.1,h.2.2⟩
 |trans _ _ e f=>intro a h;let⟨k,h1,h2⟩:=e h;let⟨i,h3,j⟩:=f h2;exact⟨i,h1.trans h3,j⟩
def aG.MD{α β:Type}{R:α→β→Prop}:∀{as:L α}{c:L β}{j:Nat}{a:α},aG R as c→as[j]?=J a→∃b,c[j]?=J b∧R a b|[],[],_,_,_,h=>by simp at h|x::as,y::c,0,a,h,d=>by simp only[fY,Option.some.injEq]at d;subst d;exact⟨y,rfl,h.1⟩|x::as,y::c,j+1,a,h,d=>by obtain⟨b,h1,h2⟩:=aG.MD (j:=j) h.2 (by simpa using d);grind
theorem ME{es:L c7}(h:es.Pairwise λa b=>a.key≠b.key){i j:Nat}{a b:c7}(hi:es[i]?=J a)(c:es[j]?=J b)(hk:a.key=b.key):i=j:=by grind [List.pairwise_iff_getElem]
theorem MF(n:Nat)(kd:L D):∀(xs:L (L D)),(dv n kd xs=O∧∀ks∈xs.map (λx=>x.take n),cP kd ks=I)∨∃(i:Nat)(ks:L D),dv n kd xs=J i∧(xs.map λx=>x.take n)[i]?=J ks∧cP kd ks=W∧∀(j:Nat)ks',j<i→(xs.map λx=>x.take n)[j]?=J ks'→cP kd ks'=I
 |[]=>.inl ⟨rfl,by simp⟩|x::xs=>by
  simp only[dv,dO];cases a:cP kd (x.take n)with
  |true=>grind|false=>
   simp only[bh,bC];rcases MF n kd xs with⟨h1,h2⟩|⟨i,ks,h1,h2,h3,b⟩
   grind;grind
def Ge{P:dr}{kt:aW}{ki ei:TI}{sh:L Sc}(C:MA P kt sh ki.kind.agg)(h1:ki.size<32768)(h2:ei.size<32768){xs:L (L D)}{es es':L c7}{bF:Nat}(E:eD w Z xs es')(hp:es'.Perm es)(y:iS (cB ki ei) bF es) (F:jH sh ki.size xs=W){kd:L D}(j:bM sh kd=W)(p:ki.kind.agg=I→kd.length=1):
  (dv ki.size kd xs=O∧(LN kt (dC ki.kind.agg kd) es).run P w=.ok O w∧∀en∈es,en.key≠dC ki.kind.agg kd)∨
    ∃i m x en,dv ki.size kd xs=J m∧(LN kt (dC ki.kind.agg kd) es).run P w=.ok (J (i,en.val)) w∧xs[m]?=J x∧es'[m]?=J en∧es[i]?=J en∧kd=x.take ki.size∧en.key=dC ki.kind.agg kd:=by
 have k:=UB (Ut h1 h2) E (λen q=>y.ok en (hp.mem_iff.1 q)) F
 rw[Uu h2]at k
 let⟨ks',s,e⟩:=aG.perm hp k
 have t:(dC ki.kind.agg kd).cells.toList=kd.map gm:=by
  cases u:ki.kind.agg with
  |true=>simp[dC,qT,aeF]|false=>
   match kd,p u with|[d],_=>have h2:=Gd (agg:=I) (n:=1) j rfl (λ_=>rfl);rw[ku h2.1];simp[dC]
 have g:∀en ks,UA ki.kind.agg sh en ks→en.key=dC ki.kind.agg kd→ks=kd:=by intro en ks ⟨_,z,g3⟩ h;grind [Uz]
 let⟨r,G,z⟩:=C.find w kd es ks' j (aG.mono (λ_ _ h=>⟨h.1,h.2.1⟩) e)
 rcases z with⟨rfl,f⟩|⟨i,en,ks,rfl,f2,f3,f4,_⟩
 refine .inl ⟨?_,G,λen q c=>?_⟩
 grind [MF]
 let⟨i,hi⟩:=Ts.1 q
 let⟨ks,k1,k2⟩:=aG.MD e hi
 have:=g en ks k2 c
 subst this
 have:=f ks (eA k1)
 grind [Ga]
 refine .inr ?_
 let⟨H,k1,k2⟩:=e.get f3
 rw[f2]at k1
 cases k1
 have K:kd=ks:=(Ga j k2.2.1).1 f4
 have c:en.key=dC ki.kind.agg kd:=by rw[k2.1,←K]
 let⟨N,o⟩:=Ts.1 (hp.mem_iff.2 (eA f2))
 let⟨l,p1,R⟩:=aG.MD k o
 have S:=g en l R c
 subst S
 rcases MF ki.size l xs with⟨_,A⟩|⟨m,ks1,q1,A,T,_⟩
 grind
 let⟨V,X,B⟩:=k.get A
 have Y:l=ks1:=(Ga j B.2.1).1 T
 subst Y
 have v:es'.Pairwise λa b=>a.key≠b.key:=(hp.pairwise_iff (λh=>Ne.symm h)).2 y.nd
 have em:N=m:=ME v o X (by rw[c,B.1])
 grind
def UC(h:Rel K β ω Z s a w){e:Nat}(i:∀g,(g=e∨g=iO e)→isMap g=W∧eC g=I∧oE g=e){c:C}{u:az}{xs:L (L D)}{s':St}(l:aH K β Z s a w c u)(hx:(ly e c).exec s=J (xs,s')):s'=s∧((u=.map O∧xs=[])∨∃b,u=.map (J b)∧∃(es:bv c7)(bF:Nat)(es':L c7),w.heap[b]?=J (.map es bF)∧iS e bF es.toList∧eD w Z xs es'∧es'.Perm es.toList):=by
 have A:∀{g b xs},(g=e∨g=iO e)→dh w Z g xs b→∃(es:bv c7)(bF:Nat)(es':L c7),w.heap[b]?=J (.map es bF)∧iS e bF es.toList∧eD w Z xs es'∧es'.Perm es.toList:=by grind [dh.mu]
 unfold ly at hx;split at hx;obtain⟨rfl,rfl⟩:=aQ hx;exact⟨rfl,.inl ⟨l,rfl⟩⟩;let⟨_,B,h1,f⟩:=aI hx;let⟨m,n⟩:=bW h1;subst n;let⟨p,hi,_⟩:=i _ m;obtain⟨rfl,rfl⟩:=aQ f;let⟨b,E,_,N⟩:=(a6.mr p).1 l;grind [ny];rename_i r j hv cv g k ys;simp only[Prog.exec]at hx;let⟨_,B,h1,f⟩:=aI hx;let⟨⟨q,m⟩,n⟩:=bW h1;subst n;let⟨p,hi,_⟩:=i _ m;let⟨b,E,_,_,y⟩:=(aH.pN p).1 l;split at f;rename_i z F d;let⟨v,o⟩:=aQ f;subst v;subst o;let⟨f1,x,f2,_⟩:=y q (by rw[d];simp);rw[d]at f2;rcases f2 with f2|f2<;>cases f2;let⟨G,H,z⟩:=h.FQ p d;grind [ny];rename_i z F d;let⟨v,o⟩:=aQ f;subst v;subst o;let⟨f1,x,f2,_⟩:=y q (by rw[d];simp);rw[d]at f2;rcases f2 with f2|f2<;>cases f2;let⟨u2,H,t⟩:=h.cell (gK d (by simp));let⟨G,P,_,R⟩:=(a6.mr p).1 t;grind [ny];simp[Prog.exec]at f;simp[Prog.exec]at hx
def MG{f:SV}{u:az}{kd:L D}{sh:L Sc}{agg:ao}(hv:bj (aH K β Z s a w) u f)(hk:f.key=J kd)(g:bM sh kd=W)(i:f.isAgg=agg):u=dC agg kd∧(agg=I→kd.length=1):=by
 unfold SV.key at hk;split at hk;rename_i cs e;cases f with
 |one c=>
  simp only[SV.ew,Option.some.injEq]at e;subst e;subst i;cases c<;>simp[iP]at hk;rename_i x;subst hk;have hd:DL w Z u.cells.toList [x]:=by rw[ku hv.1];exact⟨hv.2,trivial⟩
  exact⟨MC (n:=1) ⟨hv.1,rfl⟩ hd g,λ_=>rfl⟩
 |agg ds=>
  simp only[SV.ew,Option.some.injEq]at e;subst e;subst i;obtain⟨ws,rfl,b⟩:=hv;refine⟨MC (n:=ws.size) ⟨ws,rfl,rfl⟩ (?_:DL w Z ws.toList kd) g,λh=>by cases h⟩;have:∀{cs:L C}{us:L az}{ds:L D},iP cs=J ds→aG (λu c=>aH K β Z s a w c u) us cs→DL w Z us ds:=by
   intro cs;induction cs with
   |nil=>intro us ds h b;simp[iP]at h;subst h;cases us with|nil=>trivial|cons _ _=>exact b.elim
   |cons c cs j=>
    intro us ds h b;cases us with
    |nil=>exact b.elim|cons u us=>
     cases c with
     |d x=>simp only[iP]at h;split at h;rename_i k h1;cases h;exact⟨b.1,j h1 b.2⟩;cases h
     |_=>simp[iP]at h
  exact this hk b
 |aX x=>simp[SV.ew]at e|undef=>simp[SV.ew]at e
 cases hk
def Gf{b:Nat}{o o':Obj}(d:w.heap[b]?=J o):FU w {w with heap:=w.heap.setIfInBounds b o'} b∧({w with heap:=w.heap.setIfInBounds b o'}:World).heap[b]?=J o':=by have a:b<w.heap.size:=(Array.getElem?_eq_some_iff.1 d).1;exact⟨⟨rfl,rfl,rfl,by simp,λc e=>by simp[Ne.symm e]⟩,by simp[a]⟩
def Gg{agg:ao}{n:Nat}{v:az}{ds:L D}(b:gl agg n v)(hd:DL w Z v.cells.toList ds):dx (aH K β Z s a w) v (agg,ds.map .d):=by
 unfold gl at b;unfold dx;cases agg with
 |true=>obtain⟨cs,rfl,_⟩:=b;exact⟨cs,rfl,DL.map hd⟩
 |false=>
  obtain⟨h1,rfl⟩:=b;rw[ku h1]at hd;match ds,hd with|[d],hd=>exact⟨.d d,rfl,h1,hd.1⟩
def afK{agg:ao}{n:Nat}{v:az}{ds:L D}{x:SV}{f s2:St}(e:gl agg n v)(hd:DL w Z v.cells.toList ds)(b:(oy agg ds).exec f=J (x,s2)):s2=f∧bj (aH K β Z s a w) v x∧(∀c∈x.cells,ca c):=by
 unfold gl at e;unfold oy at b;cases agg with
 |true=>obtain⟨rfl,rfl⟩:=aQ b;obtain⟨cs,rfl,_⟩:=e;exact⟨rfl,⟨cs,rfl,DL.map hd⟩,by simp[SV.cells,ca]⟩
 |false=>
  obtain⟨h1,rfl⟩:=e;rw[ku h1]at hd;match ds,hd,b with|[d],hd,b=>obtain⟨rfl,rfl⟩:=aQ b;exact⟨rfl,⟨h1,hd.1⟩,by simp[SV.cells,ca]⟩
def UD(w0:World){agg:ao}{n:Nat}{z:L D}{v:az}(hv:ko v.cells.toList=J z)(c:FB v=agg)(d:z.length=n):gl agg n v:=by
 have b:DL w0 (λ_=>cZ) v.cells.toList z:=oF hv;have a:=b.length;cases v with
 |agg cs=>subst c;exact⟨cs,rfl,by simp_all [aeF]⟩|_=>
  subst c;simp only[aeF]at hv a;simp only[FB];refine⟨?_,by simp at a;omega⟩;first
  |rfl|(simp[ko,reflect]at hv)
theorem UE{u:az}{v:SV}{cs:L C}{n:Nat}(hv:bj (aH K β Z s a w) u v)(b:v.ew=J cs)(hn:cs.length=n):gl v.isAgg n u:=by
 cases v with
 |one c=>simp only[SV.ew,Option.some.injEq]at b;subst b;exact⟨hv.1,by simpa using hn.symm⟩|agg ds=>simp only[SV.ew,Option.some.injEq]at b;subst b;obtain⟨ws,rfl,h⟩:=hv;exact⟨ws,rfl,by have:=h.length;simp at this;omega⟩
 |aX x=>simp[SV.ew]at b|undef=>simp[SV.ew]at b
def jv{α:Type}{l:L α}{i:Nat}{x d:α}(h:l[i]?=J x):l.getD i d=x:=by grind
def UF{es:L c7}{i:Nat}{en:c7}(h:es.Pairwise λa b=>a.key≠b.key)(hi:i<es.length)(c:∀x,es[i]?=J x→en.key=x.key):(es.set i en).Pairwise λa b=>a.key≠b.key:=by
 have key:(es.set i en).map (·.key)=es.map (·.key):=by apply rV;grind
 have h2:(es.map (·.key)).Pairwise λa b=>a≠b:=List.pairwise_map.2 h;grind
def afL{e bF:Nat}{xs:L (L D)}{es:L c7}{i:Nat}{en:c7}{y:L D}(b:iS e bF es)(f:eD w Z xs es)(hi:i<es.length)(c:oC e en)(h:en.born=i)(d:∀x,es[i]?=J x→en.key=x.key)(k:iU w Z y (nz en)):iS e bF (es.set i en)∧eD w Z (xs.set i y) (es.set i en):=by
 refine⟨⟨λx a=>?_,λj x a=>?_,by rw[List.length_set];exact b.bF,UF b.nd hi d⟩,Gc (by simp[oJ f]) λj x l a g=>?_⟩;rcases aeG a with a|rfl
 exact b.ok x a;exact c;rw[xO]at a;split at a;grind;exact b.born j x a;grind [pR]
def afM{e bF:Nat}{xs:L (L D)}{es:L c7}{en:c7}{y:L D}(b:iS e bF es)(d:eD w Z xs es)(f:oC e en)(i:en.born=bF)(c:∀x∈es,x.key≠en.key)(k:iU w Z y (nz en)):iS e (bF+1) (es++[en])∧eD w Z (xs++[y]) (es++[en]):=by
 have g:=oJ d;refine⟨⟨λx a=>?_,λj x a=>?_,by rw[lr,b.bF];rfl,Ff.2 ⟨b.nd,aeH ..,λx a y hy=>by grind⟩⟩,Gc (by simp[g]) λj x l a h=>?_⟩;rcases l5.1 a with a|a
 exact b.ok x a;grind;rw[awe]at a;split at a;exact b.born j x a;grind [iS.bF];grind [pR]
theorem MH{w':World}{xs:L (L D)}{es:L c7}(hZ:∀b,Z b→w'.heap[b]?=w.heap[b]? ∧Z b)(h:eD w Z xs es):eD w' Z xs es:=eD.mono hZ xs es h
def DL.mono'{w':World}{Z':Nat→Prop}(hZ:∀b,Z b→w'.heap[b]?=w.heap[b]? ∧Z' b){us:L az}{ds:L D}(h:DL w Z us ds):DL w' Z' us ds:=aG.mono (λ_ _ a=>a6.mono hZ _ _ a) h
def MI{us vs:L az}{kd vd:L D}(h1:DL w Z us kd)(h2:DL w Z vs vd){en:c7}(hk:en.key.cells.toList=us)(hv:en.val.cells.toList=vs):iU w Z (kd++vd) (nz en):=by rw[MB,nz,hk,hv];exact aG.append h1 h2
theorem UG{agg:ao}{sh:L Sc}{kd:L D}(a:bM sh kd=W)(h1:agg=I→kd.length=1):DL w Z (dC agg kd).cells.toList kd:=by
 cases agg with
 |true=>exact(sy a:DL w Z (kd.map gm) kd)|false=>
  match kd,h1 rfl with|[d],_=>have h2:=Gd (agg:=I) (n:=1) a rfl (λ_=>rfl);rw[ku h2.1];exact(sy a:DL w Z [gm d] [d])
def UH{d:D}{k:Sc}(h:bM [k] [d]=W)(n:Nat):Fg n (gm d) (gm d)=W:=by cases k<;>cases d<;>simp[bM]at h<;>simp[gm,Fg,awd]
def UI:∀{sh:L Sc}{ds:L D}(n:Nat),bM sh ds=W→(((ds.map gm).zip (ds.map gm)).all λ(x,y)=>Fg n x y)=W
 |[],[],_,_=>rfl|k::sh,d::ds,n,h=>by let⟨h1,h2⟩:=vH h;simp only[dO,List.zip_cons_cons,l8,bG];exact⟨UH h1 n,UI n h2⟩
 |[],_::_,_,h=>by cases h
 |k::_,[],_,h=>by cases k<;>cases h
theorem UJ{agg:ao}{sh:L Sc}{kd:L D}(a:bM sh kd=W)(h1:agg=I→kd.length=1):Fg 10000 (dC agg kd) (dC agg kd)=W:=by
 cases agg with
 |true=>rw[show(10000:Nat)=9999+1 from rfl];simp only[dC,bf,qT,Fg,bG];exact⟨by simp,by simpa using UI 9999 a⟩|false=>
  match kd,h1 rfl with
  |[d],_=>
   match sh with
   |[]=>cases a
   |k::sh=>exact UH (vH a).1 10000
def oK{P:dr}{b bF:Nat}{es:bv c7}(a:w.heap[b]?=J (.map es bF)):(getObj b).run P w=.ok (.map es bF) w:=Go.MapKept.run_getObj_map a
def Bh{P:dr}{b bF:Nat}{es:bv c7}{o:Obj}(a:w.heap[b]?=J (.map es bF)):(setObj b o).run P w=.ok () {w with heap:=w.heap.setIfInBounds b o}:=Go.MapKept.run_setObj_map o a
section
variable(hT:fT K.P cfg)
include hT
def afN(h:Rel K β ω Z s a w){t:aW}{dst:Nat}{o:ch}(k:o.op=.makeMap t O){v:SV}{s':St}(e:(bE cfg o.op dst).exec s=J (v,s')):cf K s' a dst ((execOp a.eval o).run K.P w) v:=by
 rw[k]at e;simp only[bE,AU]at e;split at e;rename_i kt ki ei r;let⟨_,_,_,_,g,i⟩:=sB hT r;let⟨hv,u⟩:=aQ e;subst u;rw[hv];have d:Uv ki ei (AH (cfg.un.contains dst) (cB ki ei)):=qV g i (by cases cfg.un.contains dst;exact .inl rfl;exact .inr rfl);have hi:=d.it;clear hv e;generalize (AH (cfg.un.contains dst) (cB ki ei))=l at *;let⟨y,k1,f1,m⟩:=h.newObj (.map #[] 0) (.tmp dst,J 0);have z:dh (w.alloc (.map #[] 0)) Z l [] w.heap.size:=(dh.mu d.it).2 ⟨#[],0,[],m,⟨by simp,by simp,rfl,.nil⟩,trivial,.refl _,λ_=>rfl⟩;have f:∀(s:St),aH K β Z s a (w.alloc (.map #[] 0)) (.own l []) (.map (J w.heap.size)):=λs=>(aH.jh d.mp).2 ⟨_,(ny hi _).symm,z⟩;refine⟨.map (J w.heap.size),w.alloc (.map #[] 0),β,_,Z,?_,y,⟨rfl,f _⟩,?_⟩;simp[execOp,k,Instr.makeMap];intro j c x n p;have A:j=0:=by grind [SV.cells]
 subst A;simp only[SV.cells,fY,Option.some.injEq]at n;simp only[flat,fY,Option.some.injEq]at p;subst n;subst p;refine⟨f _,λC xs b B q=>?_⟩;cases B;simp only[dB,Option.some.injEq]at q;subst q;exact⟨by simp,⟨#[],0,m⟩,f1⟩;simp[Prog.exec]at e
def afO(h:Rel K β ω Z s a w){t:aW}{x ix:bO}{ok:ao}{dst:Nat}{o:ch}(R:o.op=.lookup t x ix ok){v:SV}{s':St}(Y:(bE cfg o.op dst).exec s=J (v,s')):cf K s' a dst ((execOp a.eval o).run K.P w) v:=by
 rw[R]at Y;simp only[bE]at Y;let⟨c,s1,h1,y⟩:=aI Y;let⟨hs1,o1,r1,Gh⟩:=eV h h1;rw[hs1]at y;let⟨kv,s2,h2,f⟩:=aI y;let⟨hs2,hkv,MJ,afP⟩:=gx h h2;rw[hs2]at f;unfold gX at f;split at f;rename_i kt ki ei hm;let⟨et,hu,hki,MN,g,j⟩:=sB hT hm;split at f;rename_i sh kd z hsc MO hz;let⟨_,s3,h3,A⟩:=aI f;let⟨⟨e,hkl,hka,hzl,hg⟩,hs3⟩:=bW h3;rw[hs3]at A;let⟨xs,s4,h4,B⟩:=aI A;let⟨hs4,l⟩:=UC h (λe' n=>⟨(qV g j n).mp,(qV g j n).it,(qV g j n).oe⟩) r1 h4;rw[hs4]at B;let⟨_,s5,h5,k⟩:=aI B;let⟨Bi,hs5⟩:=bW h5;rw[hs5]at k;have S:=Gb hT hki hsc;let⟨p,MK⟩:=MG hkv MO e hka;let⟨zv,C,E,ML⟩:=Mv (w:=w) (hT.T _ _ MN) hz;have F:DL w Z zv.cells.toList z:=oF E;have G:gl ei.kind.agg ei.size zv:=UD w E ML hzl;have key:∃(q:az)(ds:L D),gl ei.kind.agg ei.size q∧DL w Z q.cells.toList ds∧ds=gv ki.size xs z (dv ki.size kd xs)∧(execOp a.eval o).run K.P w=.ok (.value (if ok then .tuple #[q,.bool (dv ki.size kd xs).isSome]else q)) w:=by
  rcases l with⟨V,rfl⟩|⟨b,V,es,bF,es',g1,g2,g3,gp⟩
  refine⟨zv,z,G,F,by simp[dv,gv],?_⟩;have hfk:(LN kt (dC ki.kind.agg kd) []).run K.P w=.ok O w:=by let⟨r,u,X⟩:=S.find w kd [] [] e trivial;grind
  simp only[execOp,R,uN,V,p,cL,jF hu,cO,ek,Array.isEmpty_empty,S.check w kd W e,hfk,C,dv,Option.isSome_none];have hfr:=Ge S g j g3 gp g2 Bi e MK;have H:(ls es.isEmpty 10000 kt (dC ki.kind.agg kd)).run K.P w=.ok () w:=S.check w kd _ e;rcases hfr with⟨u,X,_⟩|⟨i,m,x,en,u,X,q3,Bj,q4,q5,_⟩
  refine⟨zv,z,G,F,by rw[u];rfl,?_⟩;simp only[execOp,R,uN,V,p,cL,jF hu,cO,ek,oK g1,H,X,C,u,Option.isSome_none];have Bk:=g2.ok en (eA q4);let⟨x',p1,p2⟩:=pR g3 Bj;rw[q3]at p1;cases p1;let⟨hk,hv⟩:=(vF g j).1 Bk;let⟨_,p4⟩:=yt hk p2;refine⟨en.val,x.drop ki.size,hv,p4,by rw[u];simp only[gv,jv q3],?_⟩;rw[u];simp only[execOp,R,uN,V,p,cL,jF hu,cO,ek,oK g1,H,X];rfl
 let⟨q,ds,k1,k2,k3,k4⟩:=key;rw[←k3]at k;cases ok with
 |true=>let⟨hx,N⟩:=aQ k;rw[hx,N];refine cf.same h k4 ⟨#[q,.bool (dv ki.size kd xs).isSome],rfl,Gg k1 k2,?_,trivial⟩ ?_;exact⟨_,rfl,rfl,rfl⟩;intro c hc;simp only[SV.cells,lq,List.flatMap_nil,Aw,l5,kH,ng]at hc;rcases hc with⟨d,_,rfl⟩|rfl<;>simp[ca]
 |false=>let⟨N,p1,p2⟩:=afK (K:=K) (β:=β) (s:=s) (a:=a) k1 k2 k;grind [cf.same]
 simp[Prog.exec]at f;simp[Prog.exec]at f
theorem afR(h:Rel K β ω Z s a w){t:aW}{c:C}{um uk ux:az}{kv vv:SV}{y:bu}{s':St}(hcm:aH K β Z s a w c um)(hkv:bj (aH K β Z s a w) uk kv)(MM:bj (aH K β Z s a w) ux vv)
  (hno:∀c∈vv.cells,ca c)(he:(vk cfg t c kv vv).exec s=J (y,s')):∃w' β' ω' Z',(LP t um uk ux).run K.P w=.ok () w'∧Rel K β' ω' Z' s' a w':=by
 unfold vk at he
 split at he
 ·rename_i kt ki ei hm
  obtain⟨et,hu,hki,MN,qS,vI⟩:=sB hT hm
  split at he
  ·rename_i sh kd vc hsc MO hvc
   obtain⟨_,s1,h1,oG⟩:=aI he
   obtain⟨⟨o,hkl,hka,hvl,hva⟩,hs1⟩:=bW h1
   rw[hs1]at oG
   obtain⟨vd,s2,h2,F⟩:=aI oG
   obtain⟨hcc,hall⟩:=vB MM hvc
   obtain⟨T,p,r1,k1,p1⟩:=F0 vc _ ω Z s s2 vd h hall (λc hc=>hno c (by rw[hcc];exact hc)) h2
   have afV:=k1.jM h.cD (λe xs b h1 h2=>by
    simp_all [Prog.exec]) hcm
   split at F
   ·rename_i r j jN cv0 e k0 xs0
    simp only[Prog.exec]at F
    obtain⟨_,s3,h3,G⟩:=aI F
    obtain⟨⟨sx,oH,hee⟩,hs3⟩:=bW h3
    rw[hs3]at G
    split at G
    ·rename_i e' xs A
     obtain⟨_,s4,h4,V⟩:=aI G
     obtain⟨Bi,hs4⟩:=bW h4
     rw[hs4]at V
     simp only[dn,Prog.exec,Option.some.injEq,fj]at V
     obtain⟨_,rfl⟩:=V
     have q:=qV qS vI hee
     have X:=q.mp
     have hi:=q.it
     obtain⟨b,e1,_,_,g4⟩:=(aH.pN X).1 afV
     rw[ny hi]at e1
     obtain⟨f1,ys,f2,_⟩:=g4 sx (vw A)
     rw[A]at f2
     rcases f2 with f2|f2<;>cases f2
     obtain⟨b2,q1,g0⟩:=r1.FQ X A
     rw[f1,Option.some.injEq]at q1
     rw[AY q1.symm]at g0
     obtain⟨es,bF,H,g1,u,g3,gp,gu⟩:=(dh.mu hi).1 g0
     rw[q.oe]at u
     have hK:=Gb hT hki hsc
     obtain⟨B,MK⟩:=MG hkv MO o hka
     have hvs:gl ei.kind.agg ei.size ux:=by grind [UE]
     have hks:gl ki.kind.agg ki.size uk:=by
      grind [Gd]
     have Bk:∀bn,oC (cB ki ei) {key:=uk,val:=ux,born:=bn}:=λbn=>by
      simp_all [vF]
     have MP:DL w p uk.cells.toList kd:=by grind [UG]
     have R:∀bn,iU w p (kd++vd) (nz {key:=uk,val:=ux,born:=bn}):=λbn=>MI MP p1 rfl rfl
     have hnz:¬p b:=(r1.c9 _ _ (r1.own r j _ _ _ b oH (gK A (by simp)) f1 (kr ..)).1).1
     have fin:∀(k:bv c7)(g:Nat)(E:L c7),iS (cB ki ei) g k.toList→eD w p (putRow (fP e) ki.size kd vd xs) E→E.Perm k.toList→(fP e=I→E=k.toList)→
       ∃w',w'={w with heap:=w.heap.setIfInBounds b (.map k g)}∧Rel K β T p (s2.set r {(s2 r)with cv:=(s2 r).cv+1,v:=(s2 r).v.setCell j (.own e (putRow (fP e) ki.size kd vd xs))}) a w':=by
      intro k g E N S Y hun
      obtain⟨afY,hhere⟩:=Gf (o':=.map k g) g1
      refine⟨_,rfl,r1.Mp X A oH f1 afY ((dh.mu hi).2 ⟨k,g,E,hhere,by rw[q.oe];exact N,?_,Y,hun⟩)⟩
      grind [MH]
     have hwk:∀{es:L c7}{xs:L (L D)}(en:c7),eD w p xs es→∀row,iU w p row (nz en)→eD w p (xs++[row]) (es++[en]):=by
      intro es
      induction es with
      |nil=>intro xs en h row hr;cases xs with|nil=>exact⟨hr,trivial⟩|cons _ _=>exact h.elim
      |cons y es ih=>intro xs en h row hr;cases xs with|nil=>exact h.elim|cons x xs=>exact⟨h.1,ih en h.2 row hr⟩
     rcases Ge hK qS vI g3 gp u Bi o MK with⟨q1,q2,q3⟩|⟨i,m,x,en,q1,q2,q3,Bj,q4,q5,q6⟩
     ·have N:iS (cB ki ei) (bF+1) (es.toList++[{key:=uk,val:=ux,born:=bF}]):=by
        refine⟨λx f=>?_,λj x f=>?_,by rw[lr,u.bF];rfl,Ff.2 ⟨u.nd,aeH ..,λx f y hy=>by grind⟩⟩
        ·rcases l5.1 f with f|f
         ·exact u.ok x f
         grind
        ·rw[awe]at f
         split at f
         ·exact u.born j x f
         ·rename_i hj
          have hj0:j-es.toList.length=0:=by
           grind
          grind [iS.bF]
      obtain⟨d,z1,z2,z3⟩:∃d:L c7,eD w p (putRow (fP e) ki.size kd vd xs) d∧d.Perm (es.toList++[{key:=uk,val:=ux,born:=bF}])∧(fP e=I→d=es.toList++[{key:=uk,val:=ux,born:=bF}]):=by
       cases hun:fP e with
       |false=>simp_all [putRow,AP]
       |true=>
        have hin:∀{xs:L (L D)}{es:L c7},eD w p xs es→∃d:L c7,eD w p (yg ki.size kd (kd++vd) xs) d∧d.Perm (es++[{key:=uk,val:=ux,born:=bF}]):=by
         intro xs
         induction xs with
         |nil=>intro es h;cases es with|nil=>exact⟨[{key:=uk,val:=ux,born:=bF}],⟨R bF,trivial⟩,.refl _⟩|cons _ _=>exact h.elim
         |cons x xs ih=>
          intro es h
          cases es with
          |nil=>exact h.elim
          |cons y es=>
           simp only[yg]
           split
           ·exact⟨{key:=uk,val:=ux,born:=bF}::y::es,⟨R bF,h⟩,(List.perm_append_singleton _ _).symm⟩
           ·obtain⟨d,f1,f2⟩:=ih h.2
            exact⟨y::d,⟨h.1,f1⟩,f2.cons y⟩
        obtain⟨d,f1,f2⟩:=hin g3
        exact⟨d,by simp only[putRow,FK,q1];exact f1,f2.trans (gp.append_right _),λh=>by cases h⟩
      obtain⟨w',hw',hR⟩:=fin (es.push {key:=uk,val:=ux,born:=bF}) (bF+1) d (by grind) z1 (by grind) (λMQ=>by grind)
      refine⟨w',β,T,p,?_,hR⟩
      rw[e1,hw']
      have q2':(LN kt uk es.toList).run K.P w=.ok O w:=by rw[B];exact q2
      have Bl:(ls I 10000 kt uk).run K.P w=.ok () w:=by rw[B];exact hK.check w kd I o
      simp only[LP,cL,jF hu,cO,oK g1,Bl,q2',Bh g1]
     ·have hil:i<es.toList.length:=(gi.1 q4).1
      have hml:m<H.length:=(gi.1 Bj).1
      have hkey:en.key=uk:=by rw[q6,B]
      have hmod:(es.modify i λe=>{e with key:=uk,val:=ux}).toList=es.toList.set i {key:=uk,val:=ux,born:=en.born}:=by
       rw[awf]
       apply rV
       grind
      have N:iS (cB ki ei) bF (es.toList.set i {key:=uk,val:=ux,born:=en.born}):=by
       refine⟨λx f=>?_,λj x f=>?_,by rw[List.length_set];exact u.bF,UF u.nd hil λx f=>by grind⟩
       ·rcases aeG f with f|rfl
        ·exact u.ok x f
        ·exact Bk _
       ·rw[xO]at f
        split at f
        ·rename_i hij
         subst hij
         simp only[hil,bf,Option.some.injEq]at f
         subst f
         exact u.born i en q4
        ·exact u.born j x f
      have S:eD w p (xs.set m (kd++vd)) (H.set m {key:=uk,val:=ux,born:=en.born}):=by
       refine Gc (by simp[oJ g3]) λj x e' f he'=>?_
       rw[xO]at f he'
       split at f
       ·grind
       ·rename_i hij
        rw[aK hij]at he'
        obtain⟨x',h1,h2⟩:=pR g3 he'
        grind
      classical
      have hset:∀(l:L c7)(n:Nat),l.Pairwise (λa b=>a.key≠b.key)→l[n]?=J en→l.set n {key:=uk,val:=ux,born:=en.born}=l.map λz=>if z.key=en.key then{key:=uk,val:=ux,born:=en.born}else z:=by
       intro l n hnd hn
       apply rV
       intro j
       rw[xO,gj]
       by_cases hnj:n=j
       ·grind
       ·rw[aK hnj]
        cases hj:l[j]? with
        |none=>rfl
        |some z=>
         grind [ME]
      have awK:H.Pairwise λa b=>a.key≠b.key:=(gp.pairwise_iff (λh=>Ne.symm h)).2 u.nd
      obtain⟨w',hw',hR⟩:=fin (es.modify i λe=>{e with key:=uk,val:=ux}) bF (H.set m {key:=uk,val:=ux,born:=en.born}) (by rw[hmod];exact N) (by cases hun:fP e<;>simp only[putRow,AP,FK,q1]<;>exact S) (by grind [iS.nd]) (λMQ=>by
       grind)
      refine⟨w',β,T,p,?_,hR⟩
      rw[e1,hw']
      have q2':(LN kt uk es.toList).run K.P w=.ok (J (i,en.val)) w:=by rw[B];exact q2
      have Bl:(ls I 10000 kt uk).run K.P w=.ok () w:=by rw[B];exact hK.check w kd I o
      have MR:es[i]?=J en:=by simpa using q4
      have hstay:(Tt uk uk).run K.P w=.ok uk w:=by
       have MS:Fg 10000 uk uk=W:=by grind [UJ]
       simp[Tt,MS]
      simp only[LP,cL,jF hu,cO,oK g1,Bl,q2',MR,Option.map_some,Option.getD_some,hkey,hstay,Bh g1]
    ·simp[Prog.exec]at G
   ·simp[Prog.exec]at F
  ·simp[Prog.exec]at he
 ·simp[Prog.exec]at he
omit hT in
def UK(h:Rel K β ω Z s a w){ki ei:TI}{r:aD}{j hv cv e k:Nat}{i:L (L D)}{p:az}(l:aH K β Z s a w (.aS r j hv cv e k i) p)(m:(s r).hv=hv)(n:r.isArg=I)(c:e=cB ki ei)(hi:eC (cB ki ei)=I)(o:fP (cB ki ei)=I) {q:Nat}{xs:L (L D)}(d:(s r).at j=.own q xs):q=cB ki ei∧∃b es bF,p=.map (J b)∧bU K β a w r j=J (.map (J b))∧w.heap[b]?=J (.map es bF)∧iS (cB ki ei) bF es.toList∧eD w Z xs es.toList∧¬Z b:=by
 have g:isMap e=W:=by rw[c];exact F9
 have f:eC e=I:=by rw[c];exact hi
 let⟨b,v,_,_,x⟩:=(aH.pN g).1 l;let⟨f1,ys,f2,_⟩:=x m (vw d);rw[d]at f2;rcases f2 with f2|f2<;>cases f2;let⟨B,t,u⟩:=h.FQ g d;rw[f1,Option.some.injEq]at t;rw[AY t.symm]at u;let⟨es,bF,y,z,A⟩:=(dh.mp f (by rw[c];exact o)).1 u;exact⟨c,b,es,bF,by rw[v,ny f],by rw[f1,ny f],y,by rw[←c];exact z,A,(h.c9 _ _ (h.own r j _ _ _ b n (gK d (by simp)) f1 (kr ..)).1).1⟩
omit hT in
def MT(h:Rel K β ω Z s a w){ki ei:TI}(hi:eC (cB ki ei)=I)(i:fP (cB ki ei)=I){r:aD}{j:Nat}{xs ys:L (L D)}(k:(s r).at j=.own (cB ki ei) xs)(l:r.isArg=I){b bF clk':Nat}{es es':bv c7}(o:bU K β a w r j=J (.map (J b))) (p:w.heap[b]?=J (.map es bF))(m:¬Z b)(n:iS (cB ki ei) clk' es'.toList)(f:eD w Z ys es'.toList):
  Rel K β ω Z (s.set r {(s r)with cv:=(s r).cv+1,v:=(s r).v.setCell j (.own (cB ki ei) ys)}) a {w with heap:=w.heap.setIfInBounds b (.map es' clk')}∧∀b,Z b→({w with heap:=w.heap.setIfInBounds b (.map es' clk')}:World).heap[b]?=({w with heap:=w.heap.setIfInBounds b (.map es' clk')}:World).heap[b]? :=by
 let⟨c,d⟩:=Gf (o':=.map es' clk') p
 exact⟨h.Mp F9 k l (by rw[o,ny hi]) c ((dh.mp hi i).2 ⟨es',clk',d,n,MH (λq g=>⟨c.other q (λe=>m (e▸g)),g⟩) f⟩),λ_ _=>rfl⟩
omit hT in
def MU{es:bv c7}{i:Nat}{en:c7}(f:c7→c7)(h:es.toList[i]?=J en):(es.modify i f).toList=es.toList.set i (f en):=by have a:i<es.toList.length:=(gi.1 h).1;rw[awf];apply rV;grind
def af0(h:Rel K β ω Z s a w){t:aW}{m k:bO}{dst:Nat}{o:ch}(ho:o.op=.mapEntry t m k){v:SV}{s':St}(he:(bE cfg o.op dst).exec s=J (v,s')):cf K s' a dst ((execOp a.eval o).run K.P w) v:=by
 rw[ho]at he;simp only[bE]at he;obtain⟨c,s1,h1,Y⟩:=aI he;obtain⟨hs1,o1,r1,Gh⟩:=eV h h1;rw[hs1]at Y;obtain⟨kv,s2,h2,p⟩:=aI Y;obtain⟨hs2,hkv,MJ,afP⟩:=gx h h2;rw[hs2]at p;unfold vl at p;split at p;rename_i kt ki ei hm;obtain⟨et,hu,hki,MN,g,l⟩:=sB hT hm;split at p;rename_i sh kd z hsc MO hz;obtain⟨_,s3,h3,q⟩:=aI p;obtain⟨⟨f,hkl,hka,hzl,hg⟩,hs3⟩:=bW h3;rw[hs3]at q;split at q;rename_i r j jN cv0 e k0 xs0;simp only[Prog.exec]at q;obtain⟨_,s5,h5,u⟩:=aI q;obtain⟨⟨sx,F,hee⟩,hs5⟩:=bW h5;rw[hs5]at u;split at u;rename_i e' xs G;obtain⟨_,s6,h6,he6⟩:=aI u;obtain⟨Bi,MV⟩:=bW h6;rw[MV]at he6;obtain⟨_,s7,H,Gi⟩:=aI he6;simp only[dn,Prog.exec,Option.some.injEq,fj]at H;obtain⟨_,H⟩:=H;obtain⟨hx,hs8⟩:=aQ Gi;obtain⟨hee',b,es,bF,e1,f1,N,R,g3,S⟩:=UK h r1 sx F hee (vG g l) (sA g l) G;subst hee';have hK:=Gb hT hki hsc;obtain⟨hku,y⟩:=MG hkv MO f hka;obtain⟨zv,UL,hrf,ML⟩:=Mv (w:=w) (hT.T _ _ MN) hz;have hzd:DL w Z zv.cells.toList z:=oF hrf;have hzs:gl ei.kind.agg ei.size zv:=UD w hrf ML hzl;have hks:gl ki.kind.agg ki.size (dC ki.kind.agg kd):=Gd f hkl (λhf=>by have:=y hf;omega);have MP:DL w Z (dC ki.kind.agg kd).cells.toList kd:=UG f y;have Bl:(ls I 10000 kt (dC ki.kind.agg kd)).run K.P w=.ok () w:=hK.check w kd I f;have hZ:∀(o':Obj)b',Z b'→({w with heap:=w.heap.setIfInBounds b o'}:World).heap[b']?=w.heap[b']? ∧Z b':=λo' b' hb'=>⟨(Gf (o':=o') N).1.other b' (λe=>S (e▸hb')),hb'⟩;have A:∀(w':World)(vv:az)(ds:L D)(n:Nat),(∀b,Z b→w'.heap[b]?=w.heap[b]? ∧Z b)→gl ei.kind.agg ei.size vv→DL w Z vv.cells.toList ds→Rel K β ω Z s' a w'→(execOp a.eval o).run K.P w=.ok (.value (.tuple #[vv,goInt n])) w'→v=.aX [(ei.kind.agg,ds.map .d),(I,[.d (.int .i64 n)])]→cf K s' a dst ((execOp a.eval o).run K.P w) v:=by intro w' vv ds n hZ' hs hd hR hrun MM;rw[MM];refine⟨_,w',β,ω,Z,hrun,hR,gZ.A7 ⟨#[vv,goInt n],rfl,Gg hs (DL.mono' hZ' hd),?_,trivial⟩ ?_⟩;exact⟨_,rfl,rfl,rfl⟩;intro c hc;simp only[SV.cells,lq,List.flatMap_nil,Aw,l5,kH,ng]at hc;rcases hc with⟨d,_,rfl⟩|rfl<;>simp[ca]
 rcases Ge hK g l g3 (.refl _) R Bi f y with⟨q1,q2,q2n⟩|⟨i,m,x,en,q1,q2,q3,Bj,B,q5,_⟩
 have V:oC (cB ki ei) {key:=dC ki.kind.agg kd,val:=zv,born:=bF}:=(vF g l).2 ⟨hks,hzs⟩;obtain⟨p2,p3⟩:=afM R g3 V rfl q2n (MI MP hzd rfl rfl);obtain⟨hR,_⟩:=MT (es':=es.push {key:=dC ki.kind.agg kd,val:=zv,born:=bF}) (clk':=bF+1) h (vG g l) (sA g l) G F f1 N S (by grind) (by rw[Array.toList_push];exact p3);rw[q1]at H hx;have af3:bF=xs.length:=by rw[R.bF,oJ g3]
 refine A _ zv z bF (hZ _) hzs hzd (by rw[hs8,←H];exact hR) ?_ (by rw[hx,af3];rfl);simp only[execOp,ho,Instr.mapEntry,e1,hku,cL,jF hu,cO,ek,oK N,Bl,q2,UL,Bh N];have hmi:m=i:=ME R.nd Bj B rfl;subst hmi;have V:=R.ok en (eA B);obtain⟨hk,hv⟩:=(vF g l).1 V;obtain⟨x',p1,p2⟩:=pR g3 B;rw[q3]at p1;cases p1;obtain⟨p3,p4⟩:=yt hk p2;have C:en.key=dC ki.kind.agg kd:=by grind
 have E:(es.modify m λe=>{e with key:=dC ki.kind.agg kd}).toList=es.toList:=by rw[MU _ B];apply rV;intro n;rw[xO];split;rename_i hin;subst hin;rw[ax (gi.1 B).1,B,←C];rfl
 obtain⟨hR,_⟩:=MT (ys:=xs) (es':=es.modify m λe=>{e with key:=dC ki.kind.agg kd}) (clk':=bF) h (vG g l) (sA g l) G F f1 N S (by rw[E];exact R) (by rw[E];exact g3);rw[q1]at H hx;refine A _ en.val (x.drop ki.size) m (hZ _) hv p4 (by rw[hs8,←H];exact hR) ?_ (by rw[hx];simp only[gv,jv q3,Option.getD_some]);have MR:es[m]?=J en:=by simpa using B
 have X:(Tt (dC ki.kind.agg kd) (dC ki.kind.agg kd)).run K.P w=.ok (dC ki.kind.agg kd) w:=by simp[Tt,UJ f y]
 simp only[execOp,ho,Instr.mapEntry,e1,hku,cL,jF hu,cO,ek,oK N,Bl,q2,MR,Option.map_some,Option.getD_some,C,X,Bh N,R.born m en B];simp[Prog.exec]at u;simp[Prog.exec]at q;simp[Prog.exec]at p;simp[Prog.exec]at p
def af5(h:Rel K β ω Z s a w){t:aW}{c st:C}{um us ux:az}{E:SV}{y:bu}{s':St}(F:aH K β Z s a w c um)(G:aH K β Z s a w st us)(H:bj (aH K β Z s a w) ux E) (N:∀c∈E.cells,ca c)(D:(AQ cfg t c st E).exec s=J (y,s')):∃w' R ω' Z',(awg t um us ux).run K.P w=.ok () w'∧Rel K R ω' Z' s' a w':=by
 unfold AQ at D;split at D;rename_i kt ki ei kk n vc hm S;obtain⟨et,hu,hki,MN,f,g⟩:=sB hT hm;obtain⟨_,s1,h1,o⟩:=aI D;obtain⟨⟨hvl,hva⟩,T⟩:=bW h1;rw[T]at o;obtain⟨vd,s2,h2,i⟩:=aI o;obtain⟨V,p⟩:=vB H S;obtain⟨X,Z1,r1,k1,p1⟩:=F0 vc _ ω Z s s2 vd h p (λc hc=>N c (by rw[V];exact hc)) h2;split at i;rename_i r j Y cv0 e k0 xs0;have q:=k1.jM h.cD (c:=.aS r j Y cv0 e k0 xs0) (by simp) F;simp only[Prog.exec]at i;obtain⟨_,s3,h3,k⟩:=aI i;obtain⟨⟨sx,u,hee⟩,hs3⟩:=bW h3;rw[hs3]at k;split at k;rename_i e' xs v;obtain⟨_,s4,h4,l⟩:=aI k;obtain⟨⟨hn0,vJ⟩,hs4⟩:=bW h4;rw[hs4]at l;simp only[dn,Prog.exec,Option.some.injEq,fj]at l;obtain⟨_,rfl⟩:=l;obtain⟨z,b,es,bF,e1,f1,g1,A,g3,hnz⟩:=UK r1 q sx u hee (vG f g) (sA f g) v;subst z;have e2:us=.int kk n:=G;have hl:=oJ g3;have m:n.toNat<es.toList.length:=by omega
 obtain⟨en,d⟩:∃en,es.toList[n.toNat]?=J en:=⟨_,du m⟩;have Bk:=A.ok en (eA d);obtain⟨hk,hv⟩:=(vF f g).1 Bk;obtain⟨x,q3,p2⟩:=pR g3 d;obtain⟨p3,p4⟩:=yt hk p2;have hvs:gl ei.kind.agg ei.size ux:=by grind [UE]
 have B:oC (cB ki ei) {en with val:=ux}:=(vF f g).2 ⟨hk,hvs⟩;obtain⟨o1,o2⟩:=afL (en:={en with val:=ux}) (y:=x.take ki.size++vd) A g3 m B (show en.born=_ from A.born _ en d) (λx hx=>by grind) (MI p3 p1 rfl rfl);obtain⟨hR,_⟩:=MT (es':=es.modify n.toNat λe=>{e with val:=ux}) (clk':=bF) r1 (vG f g) (sA f g) v u f1 g1 hnz (by rw[MU _ d];exact o1) (by rw[MU _ d];exact o2);refine⟨_,β,X,Z1,?_,by rw[jv q3];exact hR⟩;have hfi:es.findIdx? (λe=>(e.born:M)==n)=J n.toNat:=by
  have hsz:n.toNat<es.size:=by simpa using m
  rw[Array.findIdx?_eq_some_iff_getElem];refine⟨hsz,?_,λj hj=>?_⟩;have:es[n.toNat]=en:=by grind
  rw[this,A.born _ _ d];simp;omega;have hj2:es.toList[j]?=J es[j]:=by rw[oc,Array.getElem?_eq_getElem]
  rw[A.born _ _ hj2];simp;omega
 rw[e1,e2];simp only[awg,cL,cO,oK g1,Go.asInt,asIntOf,ek,hfi,Bh g1];simp[Prog.exec]at k;simp[Prog.exec]at i;simp[Prog.exec]at D
def af7(h:Rel K β ω Z s a w){t:aW}{c:C}{u:az}{v:SV}{s':St}(i:aH K β Z s a w c u)(g:(yh cfg t c).exec s=J (v,s')):s'=s∧∃n:Nat,v=ft .i64 n∧(u=.map O∧n=0∨∃b es bF,u=.map (J b)∧w.heap[b]?=J (.map es bF)∧n=es.size)∧∃kt j,K.P.underlying t=J (.map kt j):=by
 unfold yh at g;split at g;rename_i kt ki ei o;let⟨j,p,q,r,d,e⟩:=sB hT o;let⟨xs,E,h1,k⟩:=aI g;let⟨l,x⟩:=UC h (λF f=>⟨(qV d e f).mp,(qV d e f).it,(qV d e f).oe⟩) i h1;let⟨y,m⟩:=aQ k;refine⟨by rw[m,l],xs.length,y,?_,kt,j,p⟩;rcases x with⟨rfl,rfl⟩|⟨b,rfl,es,bF,z,A,G,B,D⟩
 grind;exact .inr ⟨b,es,bF,rfl,A,by rw[oJ B,D.length_eq];simp⟩;simp[Prog.exec]at g
end
end
section
variable{K:Ctx}{β:Key→Option Nat}{ω:Nat→Option cj}{Z:Nat→Prop}{s:St}{a:Act}{w:World}{cfg:bg}(hT:fT K.P cfg)
def af8(h:Rel K β ω Z s a w){x:bO}{dst:Nat}{o:ch}(g:o.op=.move x){v:SV}{s':St}(d:(bE cfg o.op dst).exec s=J (v,s')):cf K s' a dst ((execOp a.eval o).run K.P w) v:=by
 rw[g]at d;simp only[bE]at d;let⟨v1,l,h1,c⟩:=aI d;let⟨e,hv,f,i⟩:=gx h h1;subst e;have b:(execOp a.eval o).run K.P w=.ok (.value (a.eval x)) w:=by simp[execOp,g]
 split at c;grind [aQ,cf.same];let⟨ω',Z',j,k1,k⟩:=Ug h hv f c;exact⟨_,w,β,ω',Z',b,j,k⟩
def af9(h:Rel K β ω Z s a w){x:bO}{dst:Nat}{o:ch}(g:o.op=.assign x){v:SV}{s':St}(c:(bE cfg o.op dst).exec s=J (v,s')):cf K s' a dst ((execOp a.eval o).run K.P w) v:=by
 rw[g]at c;simp only[bE]at c;let⟨v1,l,h1,d⟩:=aI c;let⟨e,hv,f,i⟩:=gx h h1;subst e;have b:(execOp a.eval o).run K.P w=.ok (.value (a.eval x)) w:=by simp[execOp,g]
 let⟨ω',Z',j,k1,k⟩:=Ud h hv f d;exact⟨_,w,β,ω',Z',b,j,k⟩
def aga(h:Rel K β ω Z s a w){c x y:bO}{dst:Nat}{o:ch}(m:o.op=.pick c x y){v:SV}{s':St}(e:(bE cfg o.op dst).exec s=J (v,s')):cf K s' a dst ((execOp a.eval o).run K.P w) v:=by
 rw[m]at e;simp only[bE]at e;let⟨c1,u,h1,f⟩:=aI e;let⟨g,z,p,n⟩:=eV h h1;subst g;clear e;let⟨b,A,h2,d⟩:=aI f;let⟨i,q⟩:=afy h2;subst i;subst q;have r:a.eval c=.bool b:=p;have j:(execOp a.eval o).run K.P w=.ok (.value (if b=W then a.eval x else a.eval y)) w:=by simp[execOp,m,r,asBool]
 split at d;rename_i t;let⟨k,hv,l,_⟩:=gx h d;grind [cf.same];rename_i t;let⟨k,hv,l,_⟩:=gx h d;grind [cf.same]
def agb(h:Rel K β ω Z s a w){x:bO}{dst:Nat}{o:ch}(f:o.op=.nilCheck x){v:SV}{s':St}(g:(bE cfg o.op dst).exec s=J (v,s')):cf K s' a dst ((execOp a.eval o).run K.P w) v:=by rw[f]at g;simp only[bE]at g;let⟨c1,m,h1,c⟩:=aI g;let⟨i,j,d,k⟩:=eV h h1;subst i;clear g;split at c;obtain⟨rfl,rfl⟩:=aQ c;let⟨b,n,e⟩:=id d;exact cf.same h (u:=a.eval x) (by simp[execOp,f,e]) ⟨j,d⟩ (by simp[SV.cells,ca]);obtain⟨rfl,rfl⟩:=aQ c;let⟨b,l,e,_⟩:=id d;exact cf.same h (u:=a.eval x) (by simp[execOp,f,e]) ⟨j,d⟩ (by simp[SV.cells,ca]);obtain⟨rfl,rfl⟩:=aQ c;let⟨b,l,e,_⟩:=id d;exact cf.same h (u:=a.eval x) (by simp[execOp,f,e]) ⟨j,d⟩ (by simp[SV.cells,ca]);simp[Prog.exec]at c
include hT in
def agc(h:Rel K β ω Z s a w){t:aW}{x:bO}{dst:Nat}{o:ch}(g:o.op=.load t x){v:SV}{s':St}(b:(bE cfg o.op dst).exec s=J (v,s')):cf K s' a dst ((execOp a.eval o).run K.P w) v:=by rw[g]at b;simp only[bE]at b;split at b;rename_i i c;let⟨c1,p,h1,d⟩:=aI b;let⟨e,q,j,k⟩:=eV h h1;subst e;let⟨f,y,l,m,n⟩:=Uj h (hT.T _ _ c) j d;subst f;exact cf.same h (u:=y) (by simp[execOp,g,l]) m n;simp[Prog.exec]at b
include hT in
def agd(h:Rel K β ω Z s a w){t:aW}{x:bO}{f dst:Nat}{o:ch}(i:o.op=.fieldAddr t x f){v:SV}{s':St}(b:(bE cfg o.op dst).exec s=J (v,s')):cf K s' a dst ((execOp a.eval o).run K.P w) v:=by rw[i]at b;simp only[bE]at b;let⟨c1,q,h1,c⟩:=aI b;let⟨d,r,j,k⟩:=eV h h1;subst d;let⟨z,A,h2,e⟩:=aI c;obtain⟨rfl,rfl⟩:=aQ e;let⟨g,y,l,m,n,p⟩:=afm hT j h2;subst g;exact cf.same h (u:=y) (by simp[execOp,i,l]) ⟨p,m⟩ (by simpa[SV.cells]using n)
include hT in
def age(h:Rel K β ω Z s a w){t:aW}{x z:bO}{dst:Nat}{o:ch}(A:o.op=.indexAddr t x z){v:SV}{s':St}(p:(bE cfg o.op dst).exec s=J (v,s')):cf K s' a dst ((execOp a.eval o).run K.P w) v:=by
 rw[A]at p;simp only[bE]at p;split at p;rename_i g;let⟨c2,s2,h2,b⟩:=aI p;let⟨d,o2,B,q⟩:=eV h h2;subst d;let⟨n,s3,h3,e⟩:=aI b;obtain⟨f,k,rfl⟩:=sz h3;subst f;let⟨c3,s4,c,m⟩:=aI e;obtain⟨rfl,rfl⟩:=aQ m;have C:a.eval z=.int k n:=B;unfold FF at c;split at c;rename_i l size bytes len et zero hl D;let⟨dd,hd,hk,E⟩:=dP (w:=w) (hT.T _ _ D);have F:=F4 hk;subst F;split at c;rename_i i H;let⟨_,s5,h5,h6⟩:=aI c;let⟨hn,N⟩:=bW h5;subst N;let⟨_,s6,h7,h8⟩:=aI h6;let⟨⟨Y,R⟩,S⟩:=bW h7;subst S;obtain⟨rfl,rfl⟩:=aQ h8;let⟨q1,q2,q3,q4⟩:=h.laid g _ (hT.G _ _ hl);have e1:a.eval (.global g)=.pointer (J ⟨g,0,O⟩):=rfl;have hlt:n.toNat<l.length:=by omega
 refine cf.same h (u:=.pointer (J ⟨g,n.toNat,O⟩)) ?_ ⟨rfl,g,n.toNat,rfl,q2,⟨_,q4.get (j:=n.toNat) (v:=.int .u64 (l.getD n.toNat 0)) ?_,rfl⟩,trivial⟩ (by simp[SV.cells,ca]);simp[execOp,A,C,e1,LK,asIntOf,E,run_sizeOf (hT.T _ _ H),hn,uM,vt,R];grind;simp[Prog.exec]at c;simp[Prog.exec]at c;let⟨c1,s1,h1,r⟩:=aI p;let⟨V,o1,r1,hno⟩:=eV h h1;subst V;clear p;let⟨c2,s2,h2,b⟩:=aI r;let⟨d,o2,B,q⟩:=eV h h2;subst d;clear r;let⟨n,s3,h3,e⟩:=aI b;obtain⟨f,k,rfl⟩:=sz h3;subst f;clear b;let⟨c3,s4,c,m⟩:=aI e;obtain⟨rfl,rfl⟩:=aQ m;have C:a.eval z=.int k n:=B;let⟨X,y,g1,g2,g3,g4⟩:=afn hT (k:=k) r1 c;subst X;exact cf.same h (u:=y) (by simp[execOp,A,C,g1]) ⟨g4,g2⟩ (by simpa[SV.cells]using g3)
def UM{P:dr}{i:TI}{t:aW}(f:jt P t=J i){ws:bv az}{cs:L C}(b:aG (λu c=>aH K β Z s a w c u) ws.toList cs)(g:∀c∈cs,ca c){off:Nat}{v:SV}{s':St} (n:(kL i cs off).exec s=J (v,s')):s'=s∧∃y,(part t ws off).run P w=.ok y w∧bj (aH K β Z s a w) y v∧(∀c∈v.cells,ca c):=by
 obtain⟨rfl,l,o,h⟩:=Bc n;have q:=b.length;rcases h with⟨hk,rfl⟩|⟨hk,c,e,j,rfl⟩
 refine⟨rfl,.agg (ws.extract off (off+i.size)),?_,⟨_,rfl,?_⟩,λc e=>g c (List.mem_of_mem_drop (List.mem_of_mem_take e))⟩;simp[part,F2 f,hk,run_sizeOf f];have:(ws.extract off (off+i.size)).toList=(ws.toList.drop off).take i.size:=by simp_all
 rw[this];exact(b.drop off).take _;let⟨u,p,d⟩:=b.get e;have m:=eA e;refine⟨rfl,u,?_,⟨Bb d j,d⟩,by simp_all [SV.cells]⟩;have k:ws[off]?=J u:=by simpa using p
 simp[part,F2 f,hk,k]
include hT in
def agf(h:Rel K β ω Z s a w){t:aW}{x:bO}{f dst:Nat}{o:ch}(r:o.op=.field t x f){v:SV}{s':St}(g:(bE cfg o.op dst).exec s=J (v,s')):cf K s' a dst ((execOp a.eval o).run K.P w) v:=by
 rw[r]at g;simp only[bE]at g;let⟨v1,G,h1,b⟩:=aI g;let⟨j,hv,k,B⟩:=gx h h1;subst j;clear g;split at b;rename_i fs z cs l;split at b;rename_i H N c;split at b;rename_i i m;let⟨d,hd,hk,n⟩:=dP (w:=w) (hT.T _ _ l);obtain⟨fields,rfl,rfl⟩:=Ba hk;rw[gj]at c;cases A:fields.toList[f]? with
 |none=>grind|some fd=>
  rw[A]at c;simp only[Option.map_some,Option.some.injEq,fj]at c;obtain⟨rfl,rfl⟩:=c;have p:fields[f]?=J fd:=by simpa using A
  let⟨ws,C,e⟩:=hv;let⟨q,y,D,E,F⟩:=UM (P:=K.P) (hT.T _ _ m) e k b;subst q;exact cf.same h (u:=y) (by simp[execOp,r,Instr.field,n,p,C,asAgg,D]) E F
 simp[Prog.exec]at b;simp[Prog.exec]at b;simp[Prog.exec]at b
include hT in
def agh(h:Rel K β ω Z s a w){t:aW}{x N:bO}{dst:Nat}{o:ch}(C:o.op=.index t x N){v:SV}{s':St}(B:(bE cfg o.op dst).exec s=J (v,s')):cf K s' a dst ((execOp a.eval o).run K.P w) v:=by rw[C]at B;simp only[bE]at B;let⟨v1,s1,h1,p⟩:=aI B;let⟨D,hv,E,V⟩:=gx h h1;subst D;clear B;let⟨c2,s2,h2,q⟩:=aI p;let⟨f,o2,X,R⟩:=eV h h2;subst f;clear p;let⟨n,s3,h3,c⟩:=aI q;obtain⟨F,k,rfl⟩:=sz h3;subst F;clear q;have S:a.eval N=.int k n:=X;unfold AO at c;split at c;rename_i str g;let⟨d,hd,hk,j⟩:=dP (w:=w) (hT.T _ _ g);have l:=qR hk;subst l;let⟨_,Y,G,e⟩:=aI c;let⟨hn,m⟩:=bW G;subst m;split at e;rename_i b hb;obtain⟨rfl,rfl⟩:=aQ e;have H:a.eval x=.string ⟨str.toArray⟩:=hv.2;refine cf.d h (u:=.int .u8 b.toNat) ?_ rfl;simp[execOp,C,Instr.index,H,S,asIntOf,j,hn,afq,hb];simp[Prog.exec]at e;rename_i len et z cs g;let⟨d,hd,hk,j⟩:=dP (w:=w) (hT.T _ _ g);have l:=F4 hk;subst l;split at c;rename_i i r;let⟨_,Y,G,e⟩:=aI c;let⟨hn,m⟩:=bW G;subst m;let⟨ws,H,A⟩:=hv;let⟨f,y,g1,g2,g3⟩:=UM (P:=K.P) (hT.T _ _ r) A E e;subst f;exact cf.same h (u:=y) (by simp[execOp,C,Instr.index,H,S,asIntOf,j,hn,run_sizeOf (hT.T _ _ r),g1]) g2 g3;simp[Prog.exec]at c;simp[Prog.exec]at c
include hT in
def agi(h:Rel K β ω Z s a w){args:bv bO}{A:bv aW}{dst:Nat}{o:ch}(B:o.op=.call {callee:=.builtin .len,args,argTypes:=A}){v:SV}{s':St}(g:(bE cfg o.op dst).exec s=J (v,s')):cf K s' a dst ((execOp a.eval o).run K.P w) v:=by
 rw[B]at g;simp only[bE]at g;split at g;rename_i x t X Y;have k:args=#[x]:=by grind
 have C:A=#[t]:=by grind
 subst k;subst C;have key:∀b:ao,(∃i,cfg.ti t=J i∧((b=W∧i.kind=.str)∨(b=I∧∃e,i.kind=.slice e)))→(do pG b (←ev x):Prog SV).exec s=J (v,s')→cf K s' a dst ((execOp a.eval o).run K.P w) v:=by
  rintro b ⟨i,E,f⟩ g;let⟨v1,H,h1,j⟩:=aI g;let⟨m,hv,N,R⟩:=gx h h1;subst m;obtain⟨p,n,rfl,F⟩:=afA hv j;subst p;let⟨d,hd,hk,D⟩:=dP (w:=w) (hT.T _ _ E);refine cf.d h (u:=.int .i64 n) ?_ rfl;rcases F with⟨rfl,l,r,rfl⟩|⟨rfl,ad,cap,r⟩
  have y:tk d=.str:=f.elim (λq=>by rw[hk,q.2]) (λq=>by cases q.1);have z:=qR y;subst z;simp[execOp,B,resolve,invoke,builtin,Tv,r,D,goInt,Bg];obtain⟨e,y⟩:∃e,tk d=.slice e:=f.elim (λq=>by cases q.1) (λ⟨_,e,q⟩=>⟨e,by rw[hk,q]⟩);have z:=my y;subst z;simp[execOp,B,resolve,invoke,builtin,Tv,r,D,goInt]
 split at g;grind;grind;let⟨c,H,h1,j⟩:=aI g;let⟨m,o1,S,G⟩:=eV h h1;rw[m]at j;obtain⟨p,n,rfl,F,kt,et,hd⟩:=af7 hT h S j;subst p;refine cf.d h (u:=.int .i64 n) ?_ rfl;rcases F with⟨r,rfl⟩|⟨b,es,bF,r,V,rfl⟩
 simp[execOp,B,resolve,invoke,builtin,Tv,r,jF hd,goInt];simp[execOp,B,resolve,invoke,builtin,Tv,r,jF hd,goInt,oK V];simp[Prog.exec]at g;simp[Prog.exec]at g
def MW(h:Rel K β ω Z s a w):∀(os:L bO){vs:L SV}{s':St},(pF os).exec s=J (vs,s')→s'=s∧aG (λu v=>bj (aH K β Z s a w) u v) (os.map a.eval) vs∧(∀v∈vs,(∀c∈v.cells,ca c)∧v≠.undef):=by
 intro os;induction os with
 |nil=>intro vs s' d;obtain⟨rfl,rfl⟩:=aQ d;exact⟨rfl,trivial,by simp⟩
 |cons o os m=>intro vs s' d;simp only[pF]at d;let⟨v,r,h1,b⟩:=aI d;let⟨e,hv,n,p⟩:=gx h h1;rw[e]at b;let⟨q,t,h2,f⟩:=aI b;let⟨g,i,k⟩:=m h2;let⟨l,j⟩:=aQ f;rw[l];refine⟨by rw[j,g],⟨hv,i⟩,λx l=>?_⟩;grind
def UN(h:Rel K β ω Z s a w){args:bv bO}{f:bv aW}{dst:Nat}{o:ch}{b:ao}(l:o.op=.call {callee:=.builtin (if b then .min else .max),args,argTypes:=f}){v:SV}{s':St} (r:(do AW b (←pF args.toList):Prog SV).exec s=J (v,s')):cf K s' a dst ((execOp a.eval o).run K.P w) v:=by
 let⟨vs,z,h1,c⟩:=aI r;let⟨g,e,i⟩:=MW h _ h1;subst g;unfold AW at c;split at c;rename_i k x k' y;obtain⟨rfl,rfl⟩:=aQ c;match j:args.toList,e with
 |[p,q],e=>
  have m:a.eval p=.int k x:=e.1.2;have n:a.eval q=.int k' y:=e.2.1.2;have t:args=#[p,q]:=by grind
  subst t;refine cf.d h (u:=.int k (if b then(if y<x then y else x)else(if y>x then y else x))) ?_ rfl;cases b;simp[execOp,l,resolve,invoke,builtin,Builtin.max_,Builtin.max2,m,n];simp[execOp,l,resolve,invoke,builtin,Builtin.min_,Builtin.min2,m,n]
 simp[Prog.exec]at c
def agj(h:Rel K β ω Z s a w){f:cY}{first captured:bv bO}{dst:Nat}{o:ch}(x:o.op=.makeFunc (.func f) first captured){v:SV}{s':St}(i:(bE cfg o.op dst).exec s=J (v,s')):cf K s' a dst ((execOp a.eval o).run K.P w) v:=by
 rw[x]at i;simp only[bE]at i;let⟨_,D,y,j⟩:=aI i;let⟨e,m⟩:=bW y;subst m;clear i;let⟨vs,E,h1,g⟩:=aI j;let⟨n,q,r⟩:=MW h _ h1;subst n;split at g;rename_i l d;obtain⟨rfl,rfl⟩:=aQ g;have key:∀(os:L az)(vs:L SV)(l:L (Key×Nat)),aG (λu v=>bj (aH K β Z s' a w) u v) os vs→vs.mapM (λv=>match v with|.one (.ptr k o)=>J (k,o)|_=>O)=J l→aG (λu p=>∃b,β p.1=J b∧u=.pointer (J ⟨b,p.2,O⟩)) os l:=by
  intro os;induction os with
  |nil=>
   intro vs l hv d;cases vs with|nil=>simp at d;subst d;trivial|cons _ _=>exact hv.elim
  |cons u os z=>
   intro vs l hv d;cases vs with
   |nil=>exact hv.elim|cons v vs=>
    rw[List.mapM_cons]at d;cases v with
    |one c=>
     cases c with
     |ptr k off=>
      cases t:vs.mapM (λv=>match v with|.one (.ptr k o)=>J (k,o)|_=>O)with|none=>simp[t]at d|some A=>simp[t]at d;subst d;let⟨b,B,C⟩:=hv.1.2;exact⟨⟨b,B,C⟩,z vs A hv.2 t⟩
     |_=>simp at d
    |_=>simp at d
 have:=key _ _ _ q d;refine cf.same h (u:=.func (.func f) #[] (captured.map a.eval)) ?_ ⟨rfl,captured.map a.eval,rfl,by simpa using this⟩ (by simp[SV.cells,ca]);simp[execOp,x,Instr.makeFunc,e];simp[Prog.exec]at g
def agk(h:Rel K β ω Z s a w){x:bO}{n dst:Nat}{o:ch}(y:o.op=.extract x n){v:SV}{s':St}(b:(bE cfg o.op dst).exec s=J (v,s')):cf K s' a dst ((execOp a.eval o).run K.P w) v:=by
 rw[y]at b;simp only[bE]at b;let⟨v1,z,h1,d⟩:=aI b;let⟨m,hv,p,B⟩:=gx h h1;subst m;clear b;split at d;rename_i vs;let⟨us,D,e⟩:=hv;have key:∀(bx:ao×L C)(v2:SV),vs[n]?=J bx→((bx.1=W∧v2=.agg bx.2)∨(bx.1=I∧∃c,bx.2=[c]∧v2=.one c))→(kq (.tmp dst) x v2).exec z=J (v,s')→cf K s' a dst ((execOp a.eval o).run K.P w) v:=by
  intro bx v2 f g b;let⟨u,E,i⟩:=e.get f;have q:us[n]?=J u:=by simpa using E
  have r:bj (aH K β Z z a w) u v2:=by
   unfold dx at i;rcases g with⟨j,rfl⟩|⟨j,c,l,rfl⟩
   simp only[j,bf]at i;exact i;simp only[j,bh,bC]at i;let⟨F,A,G,H⟩:=i;rw[l]at A;cases A;exact⟨G,H⟩
  have k:∀c∈v2.cells,ca c:=by
   intro c l;refine p c (E9.2 ⟨bx,eA f,?_⟩);rcases g with⟨j,rfl⟩|⟨j,F,t,rfl⟩
   exact l;rw[t];exact l
  let⟨ω',Z',N,k1,R⟩:=Ug h r k b;exact⟨u,w,β,ω',Z',by simp[execOp,y,D,Instr.extract,q],N,R⟩
 grind [Prog.exec];simp[Prog.exec]at d
end
section
variable{K:Ctx}{β:Key→Option Nat}{ω:Nat→Option cj}{Z:Nat→Prop}{s:St}{a:Act}{w:World}{cfg:bg}(hT:fT K.P cfg)
def Bm{e b:Nat}{ws:bv az}{el:aW}{fz:Nat×Nat}(c:w.heap[b]?=J (.cells ws el fz)):∀(rows:L (L D))(o:Nat),(∀r∈rows,r.length=e)→(∀(j:Nat)d,rows.flatten[j]?=J d→∃u,ws[o+j]?=J u∧a6 w Z d u)→cH w Z e rows b o|[],_,_,_=>trivial|r::rows,o,a,h=>by have f:=a r (jq ..);refine⟨f,ed.c8 λj d hd=>?_,Bm c rows (o+e) (λx g=>a x (gU _ g)) λj d hd=>?_⟩;have i:j<r.length:=(gi.1 hd).1;simp_all [og,World.cell?];let⟨u,h1,h2⟩:=h (e+j) d (by grind);grind
theorem Gj{e:Nat}:∀{rows:L (L D)},(∀r∈rows,r.length=e)→rows.flatten.length=rows.length*e|[],_=>by simp|r::rows,h=>by simp only[Tw,lr,jr,Gj (rows:=rows) (λx a=>h x (gU _ a)),h r (jq ..),Nat.add_mul];omega
theorem cH.us{e b:Nat}:∀{xs:L (L D)}{o:Nat},cH w Z e xs b o→∃us,DL w Z us xs.flatten∧us.length=xs.length*e∧∀j,j<us.length→w.cell? ⟨b,o+j,O⟩=us[j]?
 |[],_,_=>⟨[],trivial,by simp,by simp⟩|x::xs,o,h=>by
  let⟨h1,h2,h3⟩:=h;let⟨a,f1,f2⟩:=h2.us;let⟨u2,c,d,f⟩:=cH.us h3;have g:a.length=e:=by rw[f1.length,h1]
  refine⟨a++u2,aG.append f1 c,by grind,λj i=>?_⟩;grind
theorem DL.get{us:L az}{ds:L D}(h:DL w Z us ds){j:Nat}{d:D}(hd:ds[j]?=J d):∃u,us[j]?=J u∧a6 w Z d u:=aG.get h hd
theorem DL.mono{w':World}{Z':Nat→Prop}(hZ:∀b,Z b→w'.heap[b]?=w.heap[b]? ∧Z' b){us:L az}{ds:L D}(h:DL w Z us ds):DL w' Z' us ds:=aG.mono (λ_ _ a=>a6.mono hZ _ _ a) h
theorem MX(zero:bv az)(n:Nat):((LQ (n*zero.size)).map λi=>zero[i%zero.size]!).toList=(dk n zero.toList).flatten:=by
 apply rV;intro i;have a:(dk n zero.toList).flatten.length=n*zero.size:=by simp
 by_cases hi:i<n*zero.size;have b:0<zero.size:=by grind
 have key:∀(n i:Nat),i<n*zero.size→(dk n zero.toList).flatten[i]?=zero.toList[i%zero.size]? :=by
  intro n;induction n with
  |zero=>intro i hi;simp at hi
  |succ n c=>intro i hi;simp only[aeI,Tw];by_cases h1:i<zero.toList.length;simp_all [og,Nat.mod_eq_of_lt];grind [Nat.mod_eq_sub_mod]
 grind;grind
theorem Gk{us:L az}{ds:L D}(h:DL w Z us ds):∀n:Nat,DL w Z (dk n us).flatten (dk n ds).flatten|0=>trivial|n+1=>by simp only[aeI,Tw];exact aG.append h (Gk h n)
def Bn(h:Rel K β ω Z s a w){e dst len cap:Nat}{ws:bv az}{el:aW}{rows:L (L D)}{r:Result Next}(v:r=.ok (.value (.slice (J ⟨w.heap.size,0,O⟩) len cap)) (w.alloc (.cells ws el))) (n:rows.length=len)(f:len≤cap)(o:cap*e≤ws.size)(g:∀r∈rows,r.length=e)(hd:∀(j:Nat)d,rows.flatten[j]?=J d→∃u,ws[j]?=J u∧a6 w Z d u)(hm:isMap e=I):cf K s a dst r (.one (.own e rows)):=by
 let⟨y,k1,f1,p⟩:=h.alloc ws el (.tmp dst,J 0);refine⟨_,_,β,_,Z,v,y,⟨rfl,(aH.gY hm).2 ⟨⟨w.heap.size,0,O⟩,cap,by rw[n],rfl,by rw[n];exact f,?_⟩⟩,?_⟩;refine Bm p rows 0 g λj d i=>?_;let⟨u,k,l⟩:=hd j d i;exact⟨u,by simpa using k,a6.mono (λb m=>⟨k1.heap b (h.cD b m),m⟩) _ _ l⟩;intro j c x q t;have i:j=0:=by grind [SV.cells]
 subst i;simp only[SV.cells,fY,Option.some.injEq]at q;simp only[flat,fY,Option.some.injEq]at t;subst q;subst t;refine⟨(aH.gY hm).2 ⟨⟨w.heap.size,0,O⟩,cap,by rw[n],rfl,by rw[n];exact f,?_⟩,λz xs b k l=>?_⟩;refine Bm p rows 0 g λj d i=>?_;let⟨u,k,l⟩:=hd j d i;exact⟨u,by simpa using k,a6.mono (λb m=>⟨k1.heap b (h.cD b m),m⟩) _ _ l⟩;cases k;cases l;exact⟨by simp,⟨ws,el,0,0,p,by simpa using o,by omega⟩,f1⟩
theorem sC{P:dr}(el:aW)(ws:bv az):(newRow el ws).run P w=.ok ⟨w.heap.size,0,O⟩ (w.alloc (.cells ws el)):=rfl
def UO(h:Rel K β ω Z s a w){k:Key}(i:(s (.box k)).v=.undef){ws:bv az}{el:aW}{cs:L C}(hp:fS K β ω Z s a w (λn=>(.box k,n)) 0 ws.toList cs):∃c ω',Rel K c ω' Z (s.set (.box k) {hv:=(s (.box k)).hv+1,cv:=(s (.box k)).cv,v:=.agg cs}) a (w.alloc (.cells ws el))∧c k=J w.heap.size:=by
 let⟨l,k1,f1,m⟩:=h.alloc ws el (.box k,O);have d:=fS.lift h k1 hp;have f:β k=O:=by have:=h.boxes k;rw[i]at this;exact this
 let⟨r,_⟩:=l.Mk (k:=k) (b:=w.heap.size) (ws:=ws) (el:=el) (lo:=0) (hi:=0) (w':=w.alloc (.cells ws el)) (cs:=cs) (by simp) (.inl f) rfl rfl rfl rfl (λ_ _=>rfl) m (by omega) d.all (by intro j e xs t o p q g;have:=(d.get p q).2 e xs o rfl g;grind);grind
def UP{c:Key→Option Nat}{ω':Nat→Option cj}{Z':Nat→Prop}{s':St}{w':World}{k:Key}{b dst:Nat}(h:Rel K c ω' Z' s' a w')(d:c k=J b){r:Result Next}(e:r=.ok (.value (.pointer (J ⟨b,0,O⟩))) w'):cf K s' a dst r (.one (.ptr k 0)):=⟨_,w',c,ω',Z',e,h,gZ.A7 ⟨rfl,b,d,rfl⟩ (by simp[SV.cells,ca])⟩
def DL.UQ{mk:Nat→aD×Nat}:∀{i:Nat}{us:L az}{ds:L D},DL w Z us ds→fS K β ω Z s a w mk i us (ds.map .d)|_,[],[],_=>trivial|_,_::_,_::_,h=>⟨jL.yo (by simp[ca]) h.1,DL.UQ h.2⟩
include hT in
def agl(h:Rel K β ω Z s a w){t:aW}{dst:Nat}{o:ch}(k:o.op=.alloc t){v:SV}{s':St}(c:(bE cfg o.op dst).exec s=J (v,s')):cf K s' a dst ((execOp a.eval o).run K.P w) v:=by rw[k]at c;simp only[bE]at c;split at c;rename_i size bytes kind z e;let⟨_,r,h1,b⟩:=aI c;let⟨u,f⟩:=bW h1;subst f;simp only[Prog.exec]at b;split at b;rename_i l;let⟨_,x,h2,g⟩:=aI b;simp only[dn,Prog.exec,Option.some.injEq,fj]at h2;obtain⟨_,rfl⟩:=h2;obtain⟨rfl,rfl⟩:=aQ g;let⟨m,i,j⟩:=vy (w:=w) (hT.T _ _ e) rfl;let⟨n,ω',p,q⟩:=UO h l (ws:=m.cells) (el:=t) (cs:=z.map .d) (oF j).UQ;refine UP p q ?_;simp only[execOp,k,Instr.alloc,cL,i,cO,newVar,sC,ek];simp[Prog.exec]at b;simp[Prog.exec]at c
def agm(h:Rel K β ω Z s a w){t:aW}{x:bO}{dst:Nat}{o:ch}(p:o.op=.box t x){v:SV}{s':St}(g:(bE cfg o.op dst).exec s=J (v,s')):cf K s' a dst ((execOp a.eval o).run K.P w) v:=by rw[p]at g;simp only[bE]at g;let⟨v1,q,h1,d⟩:=aI g;let⟨i,hv,j,r⟩:=gx h h1;subst i;clear g;split at d;rename_i cs k;let⟨l,e⟩:=vB hv k;let⟨f,u,h2,b⟩:=aI d;let⟨y,G,z,k1,A⟩:=FZ (mk:=λn=>(.box (.loc dst),n)) cs 0 _ ω Z q u f h e (λc B=>j c (by rw[l];exact B)) h2;simp only[Prog.exec]at b;split at b;rename_i C;let⟨_,H,h3,m⟩:=aI b;simp only[dn,Prog.exec,Option.some.injEq,fj]at h3;obtain⟨_,rfl⟩:=h3;obtain⟨rfl,rfl⟩:=aQ m;let⟨D,ω',E,F⟩:=UO z C (ws:=(a.eval x).cells) (el:=t) (cs:=f) A;refine UP E F ?_;simp only[execOp,p,Instr.box,cL,newVar,sC,cO,ek];simp[Prog.exec]at b;simp[Prog.exec]at d
def UR(off:Nat):∀(us:L az)(k:Nat)(cells:bv az),off+k+us.length≤cells.size→((us.zipIdx k).foldl (λ(cs:bv az)(x:az×Nat)=>cs.setIfInBounds (off+x.2) x.1) cells).toList=splice cells.toList (off+k) us|[],k,cells,_=>by simp[splice]|u::us,k,cells,h=>by simp only[jr]at h;simp only[List.zipIdx_cons,List.foldl_cons];rw[UR off us (k+1) _ (by simp;omega)];grind [T3]
def US(off:Nat)(us:bv az)(cells:bv az)(h:off+us.size≤cells.size):(us.zipIdx.foldl (λ(cs:bv az)(x:az×Nat)=>cs.setIfInBounds (off+x.2) x.1) cells).toList=splice cells.toList off us.toList:=by rw[←Array.foldl_toList,Array.toList_zipIdx];simp_all [UR]
def UT{α a:Type}{P:dr}(g:α→Sem a)(f:α→a):∀(l:L α),(∀x∈l,(g x).run P w=.ok (f x) w)→(l.mapM g).run P w=.ok (l.map f) w|[],_=>by simp|x::l,h=>by rw[List.mapM_cons];simp[h x (jq ..),UT g f l λy hy=>h y (gU _ hy)]
def agn{α a:Type}{P:dr}(g:α→Sem a)(f:α→a)(l:bv α)(h:∀x∈l,(g x).run P w=.ok (f x) w):(l.mapM g).run P w=.ok (l.map f) w:=by
 have h1:=UT (w:=w) (P:=P) g f l.toList (λx c=>h x (by simpa using c));rw[←Array.toList_mapM]at h1;simp only[Sem.run_map]at h1;cases d:(l.mapM g).run P w with
 |ok b w'=>rw[d]at h1;simp only[cO,Result.ok.injEq]at h1;obtain⟨e,rfl⟩:=h1;congr 1;apply Array.toList_inj.1;rw[e];simp
 |halt x w'=>simp_all
def UU(h:Rel K β ω Z s a w){place:Nat→Option (Nat×Nat)}{fs:L (Nat×aW)}(f:∀(i off:Nat)t ti,fs[i]?=J (off,t)→cfg.ti t=J ti→place i=J (off,ti.size)){size:Nat}:
  ∀(parts:L (Nat×bO)){ps:L (Nat×L C)}{s':St}(cells:bv az)(cs:L C),(partsOf fs cfg parts).exec s=J (ps,s')→(∀p∈ps,p.1+p.2.length≤size)→cells.size=size→
   aG (λu c=>aH K β Z s a w c u) cells.toList cs→(∀c∈cs,ca c)→
   s'=s∧∃ws,Tx place cells (parts.map λp=>(p.1,a.eval p.2))=J ws∧aG (λu c=>aH K β Z s a w c u) ws.toList (fill cs ps)∧(∀c∈fill cs ps,ca c):=by
 intro parts
 induction parts with
 |nil=>intro ps s' cells cs n _ _ d g;obtain⟨rfl,rfl⟩:=aQ n;exact⟨rfl,cells,rfl,d,g⟩
 |cons p parts H=>
  let⟨i,o⟩:=p;intro ps s' cells cs n j N d g;simp only[partsOf]at n;let⟨v,s1,h1,b⟩:=aI n;let⟨q,hv,F,P⟩:=gx h h1;rw[q]at b;split at b;rename_i off t k r y;split at b;rename_i ti z;let⟨_,s2,h2,l⟩:=aI b;let⟨G,A⟩:=bW h2;rw[A]at l;let⟨rest,s3,h3,B⟩:=aI l;let⟨R,D⟩:=aQ B;subst R;let⟨S,e⟩:=vB hv y;have T:(a.eval o).cells.size=ti.size:=by have:=e.length;simp at this;omega
  have m:=j (off,k) (jq ..);simp only at m;have V:=f i off t ti r z;have E:=US off (a.eval o).cells cells (by omega)
  let⟨X,ws,q2,Y,q4⟩:=H ((a.eval o).cells.zipIdx.foldl (λ(cs:bv az)(x:az×Nat)=>cs.setIfInBounds (off+x.2) x.1) cells) (splice cs off k) h3
   (λp hp=>j p (gU _ hp)) (by
     grind [Uk]) (by rw[E];exact d.splice e) (by
     grind [splice])
  refine⟨by rw[D,X],ws,?_,Y,q4⟩;simp_all [Tx];simp[Prog.exec]at b;simp[Prog.exec]at b
include hT in
def ago(h:Rel K β ω Z s a w){t:aW}{parts:bv (Nat×bO)}{dst:Nat}{o:ch}(N:o.op=.build t parts){v:SV}{s':St}(j:(bE cfg o.op dst).exec s=J (v,s')):
  cf K s' a dst ((execOp a.eval o).run K.P w) v:=by
 rw[N]at j
 simp only[bE]at j
 unfold FG at j
 have E:(parts.map λ(x:Nat×bO)=>(x.1,a.eval x.2)).toList=parts.toList.map λp=>(p.1,a.eval p.2):=by simp
 split at j
 ·rename_i size bytes fs z b
  obtain⟨_,s1,h1,c⟩:=aI j
  obtain⟨⟨hz,R⟩,m⟩:=bW h1
  rw[m]at c
  obtain⟨ps,s2,h2,q⟩:=aI c
  obtain⟨_,s3,h3,e⟩:=aI q
  obtain⟨r,y⟩:=bW h3
  rw[y]at e
  obtain⟨S,A⟩:=aQ e
  subst S
  obtain⟨V,B,g⟩:=vy (w:=w) (hT.T _ _ b) rfl
  obtain⟨d,hd,hk,C⟩:=dP (w:=w) (hT.T _ _ b)
  obtain⟨fields,rfl,rfl⟩:=Ba hk
  have D:∀f∈fields,(sizeOf f.type).run K.P w=.ok (K.P.cellsOf f.type) w:=by
   intro f k
   have:=R (f.offset,f.type) (kH.2 ⟨f,by simpa using k,rfl⟩)
   obtain⟨ti,l⟩:=Option.isSome_iff_exists.1 this
   rw[run_sizeOf (hT.T _ _ l)]
   obtain⟨info,d2,g1,g2,g3,_⟩:=qQ (hT.T _ _ l)
   simp[awh,g1,g3]
  have F:=agn (P:=K.P) (w:=w) (λf:Field=>(do pure (f.offset,←sizeOf f.type):Sem (Nat×Nat))) (λf=>(f.offset,K.P.cellsOf f.type)) fields (λf k=>by simp[D f k])
  obtain⟨X,ws,Y,q3,q4⟩:=UU h (place:=λi=>(fields.map λf=>(f.offset,K.P.cellsOf f.type))[i]?) (size:=size) (by
   intro i off t' ti k G
   rw[gj]at k
   cases H:fields.toList[i]? with
   |none=>grind
   |some f=>
    rw[H]at k
    simp only[Option.map_some,Option.some.injEq,fj]at k
    obtain⟨rfl,rfl⟩:=k
    have hfi':fields[i]?=J f:=by simpa using H
    obtain⟨info,d2,g1,g2,g3,_⟩:=qQ (hT.T _ _ G)
    grind [awh]) parts.toList V.cells (z.map .d) h2 r (by
    have h1:=(oF (w:=w) (Z:=Z) g).length
    grind) (FX g) (by simp[ca])
  rw[A,X]
  refine cf.same h (u:=.agg ws) ?_ ⟨ws,rfl,q3⟩ q4
  simp only[execOp,N,Instr.build,cL,B,cO,C,F,E,Y,ek]
 ·rename_i size bytes n et z b
  split at j
  ·rename_i i hft
   obtain⟨_,s1,h1,c⟩:=aI j
   obtain⟨hz,m⟩:=bW h1
   rw[m]at c
   obtain⟨ps,s2,h2,q⟩:=aI c
   obtain⟨_,s3,h3,e⟩:=aI q
   obtain⟨r,y⟩:=bW h3
   rw[y]at e
   obtain⟨S,A⟩:=aQ e
   subst S
   obtain⟨V,B,g⟩:=vy (w:=w) (hT.T _ _ b) rfl
   obtain⟨d,hd,hk,C⟩:=dP (w:=w) (hT.T _ _ b)
   have U0:=F4 hk
   subst U0
   obtain⟨X,ws,Y,q3,q4⟩:=UU h (place:=λi'=>J (i'*i.size,i.size)) (size:=size) (by
    grind) parts.toList V.cells (z.map .d) h2 r (by
     have h1:=(oF (w:=w) (Z:=Z) g).length
     grind) (FX g) (by simp[ca])
   rw[A,X]
   refine cf.same h (u:=.agg ws) ?_ ⟨ws,rfl,q3⟩ q4
   simp only[execOp,N,Instr.build,cL,B,cO,C,run_sizeOf (hT.T _ _ hft),E,Y,ek]
  ·simp[Prog.exec]at j
 ·simp[Prog.exec]at j
end
def UV{e:Nat}{ds:L D}:∀{rows:L (L D)}{i:Nat},(∀r∈rows,r.length=e)→ds.length=e→i<rows.length→(rows.set i ds).flatten=splice rows.flatten (i*e) ds|[],i,_,_,h=>by simp at h|r::rows,0,a,hd,_=>by simp_all [splice]|r::rows,i+1,a,hd,h=>by have c:=a r (jq ..);have d:=UV (rows:=rows) (i:=i) (λx b=>a x (gU _ b)) hd (by simpa using h);simp_all [splice,Nat.add_mul,List.take_append,List.take_of_length_le,List.drop_append]
section
variable{K:Ctx}{β:Key→Option Nat}{ω:Nat→Option cj}{Z:Nat→Prop}{s:St}{a:Act}{w:World}{cfg:bg}(hT:fT K.P cfg)
def agp{size:Nat}:∀(parts:L (Nat×bO))(ω:Nat→Option cj)(Z:Nat→Prop)(s s':St)(cells:bv az)(rows rows':L (L D)),Rel K β ω Z s a w→(rowsOf size parts rows).exec s=J (rows',s')→(∀r∈rows,r.length=size)→DL w Z cells.toList rows.flatten→∃ω' Z' ws,Rel K β ω' Z' s' a w∧Tx (λi=>J (i*size,size)) cells (parts.map λp=>(p.1,a.eval p.2))=J ws∧DL w Z' ws.toList rows'.flatten∧(∀r∈rows',r.length=size)∧rows'.length=rows.length:=by
 intro parts;induction parts with
 |nil=>intro ω Z s s' cells rows rows' h g j hd;let⟨N,P⟩:=aQ g;subst N;subst P;exact⟨ω,Z,cells,h,rfl,hd,j,rfl⟩
 |cons p parts R=>
  let⟨i,o⟩:=p;intro ω Z s s' cells rows rows' h g j hd;simp only[rowsOf]at g;let⟨v,s1,h1,d⟩:=aI g;let⟨k,hv,l,S⟩:=gx h h1;rw[k]at d;split at d;rename_i cs m;let⟨_,s2,h2,f⟩:=aI d;let⟨⟨E,hi⟩,n⟩:=bW h2;rw[n]at f;let⟨ds,F,h3,q⟩:=aI f;let⟨t,e⟩:=vB hv m;let⟨u,T,V,k1,G⟩:=F0 cs _ ω Z s F ds h e (λc X=>l c (by rw[t];exact X)) h3;have y:(a.eval o).cells.size=size:=by have:=e.length;simp at this;omega
  have A:ds.length=size:=by rw[←G.length];simpa using y
  have B:cells.size=rows.length*size:=by have:=hd.length;grind [Gj]
  have H:i*size+size≤cells.size:=by rw[B,←Nat.succ_mul];exact Nat.mul_le_mul_right _ hi
  have C:=US (i*size) (a.eval o).cells cells (by omega)
  let⟨Y,Z2,ws,q1,q2,q3,q4,q5⟩:=R u T F s' ((a.eval o).cells.zipIdx.foldl (λ(cs:bv az)(x:az×Nat)=>cs.setIfInBounds (i*size+x.2) x.1) cells) (rows.set i ds) rows' V q
   (by
     grind) (by
     rw[C,UV j A hi]
     exact aG.splice (hd.mono λb hb=>⟨rfl,k1.z b hb⟩) G)
  grind [Tx];simp[Prog.exec]at d
include hT in
def agq(h:Rel K β ω Z s a w){t:aW}{len:Nat}{parts:bv (Nat×bO)}{dst:Nat}{o:ch}(C:o.op=.buildSlice t len parts){v:SV}{s':St}(b:(bE cfg o.op dst).exec s=J (v,s')):cf K s' a dst ((execOp a.eval o).run K.P w) v:=by
 rw[C]at b;simp only[bE]at b;unfold FH at b;have G:(parts.map λ(x:Nat×bO)=>(x.1,a.eval x.2)).toList=parts.toList.map λp=>(p.1,a.eval p.2):=by simp
 split at b;rename_i size bytes H zz k;split at b;rename_i i e;split at b;rename_i z N;let⟨_,s1,h1,f⟩:=aI b;let⟨⟨R,D,E,l⟩,m⟩:=bW h1;rw[m]at f;let⟨rows,s2,h2,n⟩:=aI f;let⟨S,q⟩:=aQ n;subst S;subst q;let⟨c,V,r⟩:=vy (w:=w) (hT.T _ _ e) N;let⟨d,hd,hk,y⟩:=dP (w:=w) (hT.T _ _ k);have A:=my hk;subst A;have B:=oF (w:=w) (Z:=Z) r;have X:c.cells.size=i.size:=by have:=B.length;simp at this;omega
 have g:((LQ (len*i.size)).map ((if len*i.size=0 then #[]else c.cells)[·%(if len*i.size=0 then #[]else c.cells).size]!)).toList=(dk len c.cells.toList).flatten:=by grind [MX]
 let⟨Y,Z2,ws,q1,q2,F,q4,q5⟩:=agp parts.toList ω Z s s' ((LQ (len*i.size)).map ((if len*i.size=0 then #[]else c.cells)[·%(if len*i.size=0 then #[]else c.cells).size]!)) (dk len z) rows h h2 (by grind) (by simp_all [Gk]);have Un:ws.size=len*i.size:=by have:=F.length;grind [Gj]
 refine Bn (hm:=l) q1 (len:=len) (cap:=len) (ws:=ws) (el:=H) ?_ (by rw[q5];simp) (Nat.le_refl _) (by omega) q4 (λj d hj=>by let⟨u,g1,g2⟩:=F.get hj;grind);simp only[execOp,C,Instr.buildSlice,cL,y,cO,run_sizeOf (hT.T _ _ e)];rw[aK (by omega)];by_cases h0:len*i.size=0;simp_all [sC];simp_all [sC];simp[Prog.exec]at b;simp[Prog.exec]at b;simp[Prog.exec]at b
def wrap_small{n:M}(a:0≤n)(h1:n≤2 ^ 36):aO.wrap n=n:=by simp only[IntKind.wrap,IntKind.bits,Fc];simp;omega
def run_askRoom{P:dr}(n:Nat):(askRoom n).run P w=.ok () w:=by simp_all
include hT in
def agr(h:Rel K β ω Z s a w){t:aW}{l c:bO}{dst:Nat}{o:ch}(ho:o.op=.makeSlice t l c){v:SV}{s':St}(G:(bE cfg o.op dst).exec s=J (v,s')):cf K s' a dst ((execOp a.eval o).run K.P w) v:=by
 rw[ho]at G;simp only[bE]at G;let⟨c1,s1,h1,p⟩:=aI G;let⟨H,o1,r1,Gh⟩:=eV h h1;rw[H]at p;let⟨n,s2,h2,q⟩:=aI p;let⟨N,k,R⟩:=sz h2;rw[N]at q;let⟨c2,s3,h3,r⟩:=aI q;let⟨S,o3,r3,awL⟩:=eV h h3;rw[S]at r;let⟨m,s4,h4,b⟩:=aI r;let⟨V,k',X⟩:=sz h4;rw[V]at b;subst R;subst X;have e1:a.eval l=.int k n:=r1;have e2:a.eval c=.int k' m:=r3;unfold FI at b;split at b;rename_i size bytes et zz Y;split at b;rename_i i e;split at b;rename_i z hz;let⟨_,s5,h5,y⟩:=aI b;let⟨⟨hzl,hpos,hby,hmp⟩,hs5⟩:=bW h5;rw[hs5]at y;let⟨_,s6,h6,A⟩:=aI y;let⟨⟨B,C,hm⟩,MV⟩:=bW h6;rw[MV]at A;let⟨hx,M0⟩:=aQ A;subst hx;rw[M0];let⟨g,UL,hrf⟩:=vy (w:=w) (hT.T _ _ e) hz;let⟨info,f,awM,D,_⟩:=run_typeInfo (w:=w) (hT.T _ _ e);let⟨d,hd,hk,hun⟩:=dP (w:=w) (hT.T _ _ Y);have U0:=my hk;subst U0;have E:=oF (w:=w) (Z:=Z) hrf;have hzs:g.cells.size=i.size:=by have:=E.length;simp at this;omega
 have F:((LQ (m.toNat*i.size)).map ((if m.toNat*i.size=0 then #[]else g.cells)[·%(if m.toNat*i.size=0 then #[]else g.cells).size]!)).toList=(dk m.toNat g.cells.toList).flatten:=by grind [MX]
 have hw1:=wrap_small B (Int.le_trans C hm);have Gl:=wrap_small (Int.le_trans B C) hm;have awN:∀x:M,0≤x→x≤2 ^ 36→¬(x<0∨(i.bytes:M)*x>2 ^ 48):=by intro x hx0 hx1;have h1:(i.bytes:M)*x≤2 ^ 10*2 ^ 36:=Int.mul_le_mul (by exact_mod_cast hby) hx1 hx0 (by decide);grind
 refine Bn (hm:=hmp) h (len:=n.toNat) (cap:=m.toNat) (ws:=(LQ (m.toNat*i.size)).map ((if m.toNat*i.size=0 then #[]else g.cells)[·%(if m.toNat*i.size=0 then #[]else g.cells).size]!)) (el:=et) ?_ (by simp) (by omega) (by simp) (by grind) (λj d hj=>by
  have hj':(dk m.toNat z).flatten[j]?=J d:=by rw[show m.toNat=n.toNat+(m.toNat-n.toNat) by omega,←List.replicate_append_replicate,List.flatten_append,og (gi.1 hj).1];exact hj
  let⟨u,g1,g2⟩:=(Gk E m.toNat).get hj'
  grind)
 simp only[execOp,ho,Instr.makeSlice,cL,hun,cO,e1,e2,Go.asInt,asIntOf,ek,f,hw1,Gl,D];rw[aK (by grind)];simp only[cL,run_askRoom,cO,run_sizeOf (hT.T _ _ e)];grind [cL,ek,cO,sC];simp[Prog.exec]at b;simp[Prog.exec]at b;simp[Prog.exec]at b
theorem UW:∀(rounds need c:Nat),c≤2*need+192→awi need rounds c≤2*need+192|0,need,c,h=>h|r+1,need,c,h=>by simp only[awi];split;exact h;rename_i a;exact UW r need _ (by omega)
def nextslicecap_le{need old:Nat}(h:old<need):xR need old≤2*need+192:=by grind [xR,UW]
def MY(K:Ctx)(Z:Nat→Prop)(w:World)(size:Nat)(u:az)(ys:L (L D)):Prop:=(Fh u).run K.P w=.ok ys.length w∧(∀y∈ys,y.length=size)∧∃arr:bv az,(∀a:World,a.heap=w.heap→(pu size ys.length u).run K.P a=.ok arr a)∧DL w Z arr.toList ys.flatten∧(∀x∈arr.toList,fH x=W)
def DL.fH{us:L az}{ds:L D}(h:DL w Z us ds):∀x∈us,fH x=W:=by
 intro x b;let⟨j,c⟩:=lZ b;have a:j<ds.length:=by rw[←h.length];grind
 let⟨u,h1,h2⟩:=h.get (du a);grind [vA]
def UX{size:Nat}{u:az}{ys:L (L D)}(h:(u=.slice O 0 0∧ys=[])∨∃c cap,u=.slice (J c) ys.length cap∧(cap=0∨c.spot=O)∧ys.length≤cap∧cH w Z size ys c.block c.off):MY K Z w size u ys:=by
 rcases h with⟨rfl,rfl⟩|⟨c,cap,rfl,h2,h3,f⟩
 exact⟨by simp[Fh],by simp, #[],λa _=>by simp[pu],trivial,by simp⟩;let⟨us,g,j,k⟩:=f.us;refine⟨by simp[Fh],f.len,us.toArray,λa l=>?_,by simpa using g,by simpa using g.fH⟩;simp only[pu];have m:us.length=ys.length*size:=j;rw[←m];by_cases i:us.length=0;rw[i];have:us=[]:=List.length_eq_zero_iff.1 i;subst this;simp[loadCells,loadCellsFrom];have d:cap≠0:=by grind
 have h2:=h2.resolve_left d;rw[show(c:dt)=⟨c.block,c.off,O⟩ by rw[←h2]];have b:=k (us.length-1) (by omega);rw[du (by omega)]at b;let⟨ws,el,fz,n,o⟩:=cells_of_cell? b;have e:c.off+us.length≤ws.size:=by grind
 rw[run_loadCells (w:=a) (by rw[l];exact n) e];congr 1;grind [World.cell?]
def ags(l:L ai):MY K Z w 1 (.string ⟨l.toArray⟩) (l.map λb=>[.int .u8 b.toNat]):=by
 refine⟨by simp[Fh,Bg],by simp,(l.map λb:ai=>l9 .u8 (b.toNat:Nat)).toArray,λa d=>?_,?_,?_⟩;simp only[pu,Up,List.length_map,List.take_length,List.drop_zero,ek];simp;show aG _ _ _;simp only;induction l with|nil=>trivial|cons b l c=>exact⟨rfl,by simpa using c⟩
 simp[fH]
include hT in
def agt(h:Rel K β ω Z s a w){i:TI}{t:aW}{c:C}{u:az}{ys:L (L D)}{s':St}(e:aH K β Z s a w c u)(f:(vj cfg i t c).exec s=J (ys,s')):s'=s∧MY K Z w i.size u ys∧∃d,(underlying t).run K.P w=.ok d w∧∀k,d≠.int k:=by unfold vj at f;split at f;rename_i l b;let⟨_,v,h1,m⟩:=aI f;let⟨o,p⟩:=bW h1;let⟨q,r⟩:=aQ m;subst q;let⟨d,hd,hk,n⟩:=dP (w:=w) (hT.T _ _ b);have j:=qR hk;subst j;have x:u=.string ⟨l.toArray⟩:=e;simp_all [ags];rename_i b;let⟨y,g⟩:=Uh h e f;let⟨d,hd,hk,n⟩:=dP (w:=w) (hT.T _ _ b);have j:=my hk;simp_all [UX];simp[Prog.exec]at f
end
section
variable{K:Ctx}{β:Key→Option Nat}{ω:Nat→Option cj}{Z:Nat→Prop}{s:St}{a:Act}{w:World}{cfg:bg}(hT:fT K.P cfg)
theorem UY(z:bv az)(n:Nat):(xT z n).size=n*z.size:=by simp[xT]
def run_append_grow{P:dr}{t t2 d:aW}{i:TI}{z:L D}(m:(underlying t).run P w=.ok (.slice d) w){d2:nc}(g:(underlying t2).run P w=.ok d2 w)(E:∀k,d2≠.int k) (hi:jt P d=J i)(F:i.zero=J z)(G:0<i.bytes)(H:i.bytes≤2 ^ 10){base:Option dt}{sLen sCap n:Nat}{x:az}(h:(Fh x).run P w=.ok n w)(o:sCap<sLen+n)(l:sLen+n≤2 ^ 36) {old new:bv az}(hold:∀a:World,a.heap=w.heap→(pu i.size sLen (.slice base sLen sCap)).run P a=.ok old a)(j:∀a:World,a.heap=w.heap→(pu i.size n x).run P a=.ok new a){ty:aW}:
  ∃(cap:Nat)(rest:bv az),sLen+n≤cap∧(∀B:Nat,B=z.length→rest.size=(cap-(sLen+n))*B)∧
   (rX #[t,t2] ty #[.slice base sLen sCap,x]).run P w=.ok (.slice (J ⟨w.heap.size,0,O⟩) (sLen+n) cap) (({w with drawn:=w.drawn+1}:World).alloc (.cells (old++new++rest) d)):=by
 let⟨info,b,C,f,_⟩:=run_typeInfo (w:=w) hi
 let⟨p,e,q,r,_⟩:=run_typeInfo (w:={w with drawn:=w.drawn+1}) hi
 let⟨K,s,u⟩:=vy (w:={w with drawn:=w.drawn+1}) hi F
 have N:=(oF (w:=w) (Z:=λ_=>cZ) u).length
 have v:=nextslicecap_le o
 have y:¬(xR (sLen+n) sCap*i.bytes>2 ^ 48):=by have h1:xR (sLen+n) sCap*i.bytes≤(2*2 ^ 36+192)*2 ^ 10:=Nat.mul_le_mul (by omega) H;grind
 refine⟨(xU (sLen+n) sCap d).cut (w.tape w.drawn (.appendCap (sLen+n) sCap d)),xT K.cells ((xU (sLen+n) sCap d).cut (w.tape w.drawn (.appendCap (sLen+n) sCap d))-(sLen+n)),?_,?_,?_⟩
 simp only[aeK];omega
 grind [UY]
 have A:(match d2 with|.int _=>W|_=>I)=I:=by cases d2<;>first|rfl|grind
 have c:(choose (.appendCap (sLen+n) sCap d)).run P w=.ok ((xU (sLen+n) sCap d).cut (w.tape w.drawn (.appendCap (sLen+n) sCap d))) {w with drawn:=w.drawn+1}:=by simp[choose,Sem.run,aeL]
 simp only[rX,oc,Fj,fY,pr,cL,m,cO,run_sizeOf hi,g,ek,A,bh,bC,h,qF,bf]
 rw[aK (by omega)]
 simp only[cL,b,cO,f]
 rw[aK (by simp;omega)]
 simp only[cL,b,cO,f]
 rw[aK y]
 simp only[cL,c,cO,e,run_askRoom,hold {w with drawn:=w.drawn+1} rfl,j {w with drawn:=w.drawn+1} rfl,s,sC,ek]
def UZ{P:dr}{t t2 j:aW}{i:TI}(e:(underlying t).run P w=.ok (.slice j) w){d2:nc}(b:(underlying t2).run P w=.ok d2 w)(l:∀k,d2≠.int k) (hi:jt P j=J i){base:Option dt}{sLen sCap n:Nat}{x:az}(c:(Fh x).run P w=.ok n w)(f:sLen+n≤sCap) {new:bv az}(d:(pu i.size n x).run P w=.ok new w){w':World}(m:∀g,base=J g→(storeCells (g.add (sLen*i.size)) new.toList).run P w=.ok () w')(a:base=O→w'=w){ty:aW}:(rX #[t,t2] ty #[.slice base sLen sCap,x]).run P w=.ok (.slice base (sLen+n) sCap) w':=by
 have h:(match d2 with|.int _=>W|_=>I)=I:=by cases d2<;>first|rfl|grind
 simp only[rX,Fj,fY,pr,cL,e,cO,run_sizeOf hi,b,ek,h,bh,bC,c,qF,bf];rw[ax f];simp only[cL,d,cO];cases base with|none=>rw[a rfl];rfl|some g=>simp_all
def agu{P:dr}{t t2 e:aW}{i:TI}{z:L D}(g:(underlying t).run P w=.ok (.slice e) w)(f:(underlying t2).run P w=.ok (.int .i64) w) (hi:jt P e=J i)(A:i.zero=J z)(B:z.length=i.size)(C:0<i.size)(E:0<i.bytes)(H:i.bytes≤2 ^ 10){k:ln}{n:M}(hn:0≤n)(h:n≤2 ^ 36){ty:aW}:(n.toNat=0→(rX #[t,t2] ty #[.slice O 0 0,.int k n]).run P w=.ok (.slice O 0 0) w)∧
  (n.toNat≠0→∃(cap:Nat)(zv:bv az),n.toNat≤cap∧(∀(w:World)(Z:Nat→Prop),DL w Z zv.toList z)∧
    (rX #[t,t2] ty #[.slice O 0 0,.int k n]).run P w=.ok (.slice (J ⟨w.heap.size,0,O⟩) n.toNat cap) (({w with drawn:=w.drawn+1}:World).alloc (.cells (xT zv n.toNat++xT zv (cap-n.toNat)) e))):=by
 let⟨info,a,x,b,_⟩:=run_typeInfo (w:=w) hi
 let⟨l,d,m,o,_⟩:=run_typeInfo (w:={w with drawn:=w.drawn+1}) hi
 let⟨zv,F,p⟩:=vy (w:={w with drawn:=w.drawn+1}) hi A
 have q:∀(w:World)(Z:Nat→Prop),DL w Z zv.cells.toList z:=λw Z=>oF (w:=w) (Z:=Z) p
 have y:aO.wrap n=n:=by simp only[IntKind.wrap,IntKind.bits,Fc];simp;omega
 have j:n*i.bytes≤2 ^ 48:=by have h1:n*i.bytes≤2 ^ 36*2 ^ 10:=Int.mul_le_mul (by omega) (by omega) (by omega) (by decide);omega
 constructor
 intro G
 simp only[rX,Fj,fY,pr,cL,g,cO,run_sizeOf hi,f,ek,bf,asInt,asIntOf,y,a,b]
 grind [cL,cO,ek]
 intro G
 have r:0<0+n.toNat:=by omega
 have s:=nextslicecap_le r
 have u:¬(xR (0+n.toNat) 0*i.bytes>2 ^ 48):=by grind [xR]
 have c:(choose (.appendCap (0+n.toNat) 0 e)).run P w=.ok ((xU (0+n.toNat) 0 e).cut (w.tape w.drawn (.appendCap (0+n.toNat) 0 e))) {w with drawn:=w.drawn+1}:=by simp[choose,Sem.run,aeL]
 refine⟨(xU (0+n.toNat) 0 e).cut (w.tape w.drawn (.appendCap (0+n.toNat) 0 e)),zv.cells,?_,q,?_⟩
 simp only[aeK];omega
 simp only[rX,Fj,fY,pr,cL,g,cO,run_sizeOf hi,f,ek,bf,asInt,asIntOf,y,a,b]
 rw[aK (by omega)]
 simp only[cL,a,cO,b]
 rw[aK (by omega)]
 simp only[cL,ek,cO]
 rw[aK (by omega)]
 simp only[cL,a,cO,b]
 rw[aK (by simp[IntKind.max,IntKind.bits,Fc];omega)]
 simp only[cL,a,cO,b]
 rw[aK u]
 have v:(pu i.size 0 (.slice O 0 0)).run P {w with drawn:=w.drawn+1}=.ok #[] {w with drawn:=w.drawn+1}:=by simp[pu]
 simp only[cL,c,cO,d,run_askRoom,v]
 grind [Nat.mul_eq_zero,cL,cO,ek,sC]
include hT in
def agv(h:Rel K β ω Z s a w){args:bv bO}{f:bv aW}{dst:Nat}{o:ch}(m:o.op=.call {callee:=.builtin .cap,args,argTypes:=f}){v:SV}{s':St}(c:(bE cfg o.op dst).exec s=J (v,s')):cf K s' a dst ((execOp a.eval o).run K.P w) v:=by
 rw[m]at c;simp only[bE]at c;split at c;rename_i x t r y;have e:args=#[x]:=by grind
 have g:f=#[t]:=by grind
 subst e;subst g;split at c;rename_i i;let⟨c1,z,h1,b⟩:=aI c;let⟨j,A,p,n⟩:=eV h h1;rw[j]at b;unfold L2 at b;split at b;have q:a.eval x=.slice O 0 0:=p;obtain⟨rfl,rfl⟩:=aQ b;let⟨d,hd,hk,k⟩:=dP (w:=w) (hT.T _ _ i);have l:=my hk;subst l;refine cf.d h (u:=.int .i64 0) ?_ rfl;simp[execOp,m,resolve,invoke,builtin,Builtin.cap_,q,k,goInt];simp[Prog.exec]at b;simp[Prog.exec]at c;simp[Prog.exec]at c
include hT in
theorem agw(h:Rel K β ω Z s a w){x y:bO}{t t2 F:aW}{i i0 i2:TI}{dst:Nat}{o:ch}(ho:o.op=.call {callee:=.builtin .append,args:=#[x,y],argTypes:=#[t,t2]}) (G:cfg.ti t=J i0)(H:i0.kind=.slice F)(N:cfg.ti F=J i)(m:cfg.ti t2=J i2)(R:i2.kind=.int .i64){v:SV}{s':St} (he:(do let c ←dc x;let n ←nk (←dc y);ye i c n:Prog SV).exec s=J (v,s')):cf K s' a dst ((execOp a.eval o).run K.P w) v:=by
 let⟨c1,s1,h1,p⟩:=aI he;let⟨S,o1,r1,Gh⟩:=eV h h1;rw[S]at p;let⟨c2,s2,h2,q⟩:=aI p;let⟨V,o2,r2,MJ⟩:=eV h h2;rw[V]at q;let⟨n,s3,h3,b⟩:=aI q;let⟨X,k,Y⟩:=sz h3;rw[X]at b;subst Y;have e2:a.eval y=.int k n:=r2;unfold ye at b;split at b;rename_i z hz;have e1:a.eval x=.slice O 0 0:=r1;let⟨_,s5,h5,r⟩:=aI b;let⟨⟨hzs,A,hb0,hb,hmp⟩,hs5⟩:=bW h5;rw[hs5]at r;let⟨_,s6,h6,e⟩:=aI r;let⟨⟨hn0,vJ⟩,MV⟩:=bW h6;rw[MV]at e;let⟨d,hd,hk,hun⟩:=dP (w:=w) (hT.T _ _ G);rw[H]at hk;have MZ:=my hk;subst MZ;let⟨d2,U0,B,C⟩:=dP (w:=w) (hT.T _ _ m);rw[R]at B;have D:=vz B;subst D;have awO:(execOp a.eval o).run K.P w=((rX #[t,t2] o.type #[a.eval x,a.eval y]).run K.P w).andThen λu w'=>.ok (.value u) w':=by simp[execOp,ho,resolve,invoke,builtin]
 let⟨q0,q1⟩:=agu (P:=K.P) (w:=w) hun C (hT.T _ _ N) hz hzs A hb0 hb (k:=k) hn0 vJ (ty:=o.type);split at e;rename_i hn;let⟨f,g⟩:=aQ e;rw[g,f];refine cf.d h (u:=.slice O 0 0) ?_ rfl;simp_all;rename_i hn;let⟨f,g⟩:=aQ e;rw[g,f];let⟨cap,l,p1,p2,p3⟩:=q1 hn;let⟨r5,k5⟩:=h.drew;have hsz:l.size=i.size:=by have:=(p2 w Z).length;simp at this;omega
 refine Bn (hm:=hmp) r5 (len:=n.toNat) (cap:=cap) (ws:=xT l n.toNat++xT l (cap-n.toNat)) (el:=F) ?_ (by simp) p1 ?_ (by grind) (λj d hj=>?_);simp_all;simp only[aeM,UY,hsz];rw[←Nat.add_mul];grind;have E:(xT l n.toNat).toList=(dk n.toNat l.toList).flatten:=MX l n.toNat;let⟨u,g1,g2⟩:=(Gk (p2 {w with drawn:=w.drawn+1} Z) n.toNat).get hj;grind;simp[Prog.exec]at b
include hT in
def agx(h:Rel K β ω Z s a w){args:bv bO}{tys:bv aW}{dst:Nat}{o:ch}(ho:o.op=.call {callee:=.builtin .append,args,argTypes:=tys}){v:SV}{s':St}(Y:(bE cfg o.op dst).exec s=J (v,s')):
  cf K s' a dst ((execOp a.eval o).run K.P w) v:=by
 rw[ho]at Y
 simp only[bE]at Y
 split at Y
 ·rename_i x y t t2 hx ht
  have hargs:args=#[x,y]:=by grind
  have agy:tys=#[t,t2]:=by grind
  subst hargs;subst agy
  split at Y
  ·rename_i size bytes et zz hti
   split at Y
   ·rename_i i hft
    split at Y
    ·grind [agw]
    rename_i awP
    obtain⟨c1,s1,h1,oG⟩:=aI Y
    obtain⟨hs1,o1,r1,Gh⟩:=eV h h1
    rw[hs1]at oG
    obtain⟨c2,s2,h2,Bo⟩:=aI oG
    obtain⟨hs2,o2,r2,MJ⟩:=eV h h2
    rw[hs2]at Bo
    obtain⟨ys,s3,h3,yu⟩:=aI Bo
    obtain⟨hs3,⟨B,U1,arr,C,hdl,hone⟩,d2,D,U0⟩:=agt hT h r2 h3
    rw[hs3]at yu
    obtain⟨d,hd,hk,hun⟩:=dP (w:=w) (hT.T _ _ hti)
    have MZ:=my hk
    subst MZ
    have p:(execOp a.eval o).run K.P w=((rX #[t,t2] o.type #[a.eval x,a.eval y]).run K.P w).andThen λu w'=>.ok (.value u) w':=by
     simp[execOp,ho,resolve,invoke,builtin]
    unfold vi at yu
    obtain⟨_,s4,h4,F⟩:=aI yu
    obtain⟨⟨hpos,hb0,hb,hzl,hmp⟩,hs4⟩:=bW h4
    rw[hs4]at F
    obtain⟨z,hz⟩:∃z,i.zero=J z:=by
     cases hzz:i.zero with
     |none=>grind
     |some z=>exact⟨z,rfl⟩
    have hzs:z.length=i.size:=by grind
    have A:arr.size=ys.length*i.size:=by
     have:=hdl.length
     grind [Gj]
    split at F
    ·
     have e1:a.eval x=.slice O 0 0:=r1
     obtain⟨_,s5,h5,n⟩:=aI F
     obtain⟨hmax,hs5⟩:=bW h5
     rw[hs5]at n
     split at n
     ·rename_i E
      obtain⟨G,H⟩:=aQ n
      rw[H,G]
      refine cf.d h (u:=.slice O 0 0) ?_ rfl
      rw[p,e1,UZ hun D U0 (hT.T _ _ hft) B (by rw[E];simp) (C w rfl) (w':=w) (by intro g h;cases h) (λ_=>rfl)]
      simp[E]
     ·rename_i E
      obtain⟨G,H⟩:=aQ n
      rw[H,G]
      have hy0:0<ys.length:=List.length_pos_iff.2 E
      obtain⟨cap,rest,q1,q2,q3⟩:=run_append_grow (P:=K.P) (w:=w) hun D U0 (hT.T _ _ hft) hz hb0 hb B (base:=O) (sLen:=0) (sCap:=0) (by omega) (by omega) (old:=#[]) (λf _=>by simp[pu]) C (ty:=o.type)
      obtain⟨r5,k5⟩:=h.drew
      refine Bn (hm:=hmp) r5 (len:=ys.length) (cap:=cap) (ws:=#[]++arr++rest) (el:=et) ?_ rfl (by omega) ?_ U1 (λj d hj=>?_)
      ·simp_all
      ·have:=q2 i.size hzs.symm
       simp only[aeM,A,this,Array.size_empty]
       rw[Nat.zero_add,Nat.zero_add,←Nat.add_mul]
       grind
      ·obtain⟨u,g1,g2⟩:=hdl.get hj
       grind [a6.mono]
    ·rename_i r j hv cv e k xs
     simp only[Prog.exec]at F
     obtain⟨_,s5,h5,n⟩:=aI F
     obtain⟨⟨sx,qU,N,oH⟩,hs5⟩:=bW h5
     rw[hs5]at n
     split at n
     ·rename_i e0 zs Mh
      obtain⟨_,s6,h6,Gi⟩:=aI n
      obtain⟨hfull,H⟩:=bW h6
      rw[H]at Gi
      obtain⟨_,s7,h7,Gm⟩:=aI Gi
      obtain⟨hmax,M0⟩:=bW h7
      rw[M0]at Gm
      obtain⟨_,s8,h8,M1⟩:=aI Gm
      obtain⟨G,M2⟩:=aQ M1
      rw[M2,G]
      have R:isMap e=I:=by rw[N];exact hmp
      obtain⟨g,cap,e1,g2,g3,g4⟩:=Mt h R r1 sx qU (vw Mh)
      obtain⟨U2,cap',f1,_,_,_,ad0,awR,awS,ys0,f2,f3,f4,f4b,f5,f6,f7⟩:=Ms h R r1 sx qU (vw Mh)
      rw[e1]at f1
      cases f1
      obtain⟨e9,ys9,u9,b9,ω',t1,t2',t3,t4,t6,t7,t8,t9,t10⟩:=Ub h oH h8 (.tmp dst,J 0)
      rw[t2']at f2
      cases f2
      simp only[dB,Option.some.injEq]at t3
      subst t3
      rw[Mh]at t1
      cases t1
      have hee:e0=e:=by
       rcases f6 with f6|f6<;>rw[Mh]at f6<;>cases f6;rfl
      subst hee
      have hmp0:isMap e0=I:=R
      have U3:DL w Z arr.toList ys.flatten:=hdl
      by_cases S:xs.length+ys.length≤cap
      ·
       have l:g.block=ad0.block:=f3
       obtain⟨ws,el,lo,hi,w1,w2,w3⟩:=t9
       have hfit:g.off+cap*e0≤ws.size:=by omega
       have awU:xs.length*e0+ys.length*e0≤cap*e0:=by rw[←Nat.add_mul];exact Nat.mul_le_mul_right _ S
       obtain⟨w',ga,p1,p2,p3⟩:=Mj (P:=K.P) (b:=g.block) (o:=g.off+xs.length*e0) arr.toList 0 w ws (by rw[l];exact w1) w3 (by grind) hone
       have agC:ga.toList=splice ws.toList (g.off+xs.length*e0) arr.toList:=by simpa using p3
       rw[l]at p2
       obtain⟨n1,n2,n3,n4⟩:=t6.ae7 t8 t10 p2
       have hZ:∀b,Z b→w'.heap[b]?=w.heap[b]? ∧Z b:=λb hb=>⟨p2.other b (λe=>(t6.c9 _ _ t8).1 (e▸hb)),hb⟩
       have hcell:∀q,w'.cell? ⟨g.block,q,O⟩=if g.off+xs.length*e0≤q∧q<g.off+xs.length*e0+ys.length*e0 then(arr.toList)[q-(g.off+xs.length*e0)]? else w.cell? ⟨g.block,q,O⟩:=by
        intro q
        have h1:w'.cell? ⟨g.block,q,O⟩=ga.toList[q]? :=by simp[World.cell?,l,p2.here]
        grind [yr,World.cell?]
       have hrows:cH w' Z e0 (xs++ys) g.block g.off:=by
        refine cH.append ?_ ?_
        ·refine cH.c8 λm x hm=>?_
         obtain⟨q1,q2⟩:=g4.get hm
         refine⟨q1,ed.c8 λjj d hd=>?_⟩
         obtain⟨u2,q3,q4⟩:=q2.get hd
         have hjl:jj<e0:=by grind
         have hml:m<xs.length:=(gi.1 hm).1
         have:m*e0+e0≤xs.length*e0:=by rw[←Nat.succ_mul];exact Nat.mul_le_mul_right _ hml
         grind [a6.mono]
        ·refine Bm (w:=w') (ws:=ga) (el:=el) (fz:=(lo,hi)) (by rw[l];exact p2.here) ys _ (by rw[N];exact U1) λj d hj=>?_
         obtain⟨u2,q1,q2⟩:=U3.get hj
         have hjl:j<ys.length*e0:=by
          grind
         refine⟨u2,?_,a6.mono hZ _ _ q2⟩
         have:ga[g.off+xs.length*e0+j]?=ga.toList[g.off+xs.length*e0+j]? :=by simp
         rw[this,agC,yr (by grind)]
         simp only[Array.length_toList,A,←N]
         rw[ax (by omega),Nat.add_sub_cancel_left]
         exact q1
       have V:(xs++ys).length=xs.length+ys.length:=by simp
       have hown:aH K β Z s8 a w' (.own e0 (xs++ys)) (.slice (J g) (xs.length+ys.length) cap):=(aH.gY hmp0).2 ⟨g,cap,by rw[V],g2,by rw[V];exact S,hrows⟩
       refine⟨.slice (J g) (xs.length+ys.length) cap,w',β,ω',Z,?_,n1,⟨rfl,hown⟩,?_⟩
       ·rw[p,e1,UZ hun D U0 (hT.T _ _ hft) B S (C w rfl) (w':=w') (by
          grind [pQ]) (by intro h;cases h)]
        rfl
       ·intro j' c q hc hq
        have hj:j'=0:=by
         grind [SV.cells]
        subst hj
        simp only[SV.cells,fY,Option.some.injEq]at hc
        simp only[flat,fY,Option.some.injEq]at hq
        subst hc;subst hq
        refine⟨hown,λe' xs' b2 q1 q2=>?_⟩
        cases q1
        cases q2
        exact⟨by rw[l];exact t8,⟨ga,el,lo,hi,by rw[l];exact p2.here,by rw[p2.len];exact hfit,λq hq=>w3 q (by rw[←p2.len];exact hq)⟩,by rw[l];exact n2⟩
      ·
       obtain⟨agD,rest,q1,q2,q3⟩:=run_append_grow (P:=K.P) (w:=w) hun D U0 (hT.T _ _ hft) hz hb0 hb B (base:=J g) (sLen:=xs.length) (sCap:=cap) (by omega) hmax (old:=(g4.us.choose).toArray) (λf hW=>by
        obtain⟨_,a2,a3⟩:=g4.us.choose_spec
        generalize g4.us.choose=us at a2 a3
        simp only[pu]
        rw[show(g:dt)=⟨g.block,g.off,O⟩ by rw[←g2],←N,←a2]
        by_cases h0:us.length=0
        ·rw[h0]
         have:us=[]:=List.length_eq_zero_iff.1 h0
         subst this
         simp[loadCells,loadCellsFrom]
        ·have X:=a3 (us.length-1) (by omega)
         rw[du (by omega)]at X
         obtain⟨ws,el,fz,hw,yv⟩:=cells_of_cell? X
         have hlt:g.off+us.length≤ws.size:=by
          grind
         rw[run_loadCells (w:=f) (by rw[hW];exact hw) hlt]
         congr 1
         grind [World.cell?]) C (ty:=o.type)
       obtain⟨a1,a2,_⟩:=g4.us.choose_spec
       generalize g4.us.choose=us at a1 a2 q3
       obtain⟨r5,k5⟩:=t6.drew
       have hfl:(xs++ys).flatten=xs.flatten++ys.flatten:=by simp
       have hall:DL w Z (us++arr.toList) (xs++ys).flatten:=by rw[hfl];exact aG.append a1 U3
       refine Bn (hm:=hmp0) r5 (len:=xs.length+ys.length) (cap:=agD) (ws:=us.toArray++arr++rest) (el:=et) ?_ (by simp) (by omega) ?_ (by
        intro r hr
        rcases l5.1 hr with hr|hr
        ·exact g4.len r hr
        grind) (λj d hj=>?_)
       ·rw[p,e1,q3];rfl
       ·have:=q2 i.size hzs.symm
        simp only[aeM,A,this,List.size_toArray,a2,N]
        rw[←Nat.add_mul,←Nat.add_mul]
        grind
       ·obtain⟨u,Gn,M3⟩:=hall.get hj
        grind [a6.mono,Array.size]
     ·simp[Prog.exec]at n
    ·simp[Prog.exec]at F
   ·simp[Prog.exec]at Y
  ·simp[Prog.exec]at Y
 ·simp[Prog.exec]at Y
end
section
variable{K:Ctx}{β:Key→Option Nat}{ω:Nat→Option cj}{Z:Nat→Prop}{s:St}{a:Act}{w:World}{cfg:bg}(hT:fT K.P cfg)
def agE(h:Rel K β ω Z s a w){e dst len cap lo hi:Nat}{ws:bv az}{el:aW}{rows:L (L D)}{r:Result Next}{w':World}(X:r=.ok (.value (.slice (J ⟨w.heap.size,0,O⟩) len cap)) w') (f:∀b,b<w.heap.size→w'.heap[b]?=w.heap[b]?)(m:w'.heap.size=w.heap.size+1)(A:w'.os=w.os)(n:w'.tape=w.tape)(t:w'.output=w.output) (g:w'.heap[w.heap.size]?=J (.cells ws el (lo,hi)))(B:∀o,o<ws.size→¬(lo≤o∧o<hi)) (z:rows.length=len)(k:len≤cap)(C:cap*e≤ws.size)(v:∀r∈rows,r.length=e)(hd:∀(j:Nat)d,rows.flatten[j]?=J d→∃u,ws[j]?=J u∧a6 w Z d u)(hm:isMap e=I):cf K s a dst r (.one (.own e rows)):=by
 let⟨Y,k1⟩:=h.grow (w':=w') (ω':=λb=>if b=w.heap.size then J (.tmp dst,J 0)else ω b) f (by omega) A n t (λb p=>by simp[Nat.ne_of_lt p]) (λb g' p R=>by rw[m];by_cases E:b=w.heap.size;omega;rw[aK E]at R;have:=(h.c9 b _ R).2.1;omega);have f1:jK K β s a w' w.heap.size:=by intro q l S xs u' b' hq F y G p;rw[h.Mi f]at y;have:=(h.c9 _ _ (h.own q l S xs u' b' hq F y G).1).2.1;omega
 have i:cH w' Z e rows w.heap.size 0:=by refine Bm g rows 0 v λj d H=>?_;let⟨u,N,P⟩:=hd j d H;exact⟨u,by simpa using N,a6.mono (λb p=>⟨k1.heap b (h.cD b p),p⟩) _ _ P⟩
 refine⟨_,_,β,_,Z,X,Y,⟨rfl,(aH.gY hm).2 ⟨⟨w.heap.size,0,O⟩,cap,by rw[z],rfl,by rw[z];exact k,i⟩⟩,?_⟩;intro j c x T V;have H:j=0:=by grind [SV.cells]
 subst H;simp only[SV.cells,fY,Option.some.injEq]at T;simp only[flat,fY,Option.some.injEq]at V;subst T;subst V;refine⟨(aH.gY hm).2 ⟨⟨w.heap.size,0,O⟩,cap,by rw[z],rfl,by rw[z];exact k,i⟩,λS xs b N P=>?_⟩;cases N;cases P;exact⟨by simp,⟨ws,el,lo,hi,g,by simpa using C,B⟩,f1⟩
def agF{P:dr}(el:aW)(l:L ai):∃(cap:Nat)(w':World)(ws:bv az),l.length≤cap∧(awj el ⟨l.toArray⟩).run P w=.ok (.slice (J ⟨w.heap.size,0,O⟩) l.length cap) w'∧(∀b,b<w.heap.size→w'.heap[b]?=w.heap[b]?)∧w'.heap.size=w.heap.size+1∧w'.os=w.os∧w'.tape=w.tape∧w'.output=w.output∧w'.heap[w.heap.size]?=J (.cells ws el (ws.size,ws.size+1))∧ws.size=cap∧∀(j:Nat),j<l.length→ws[j]?=(l[j]?).map λb=>.int .u8 b.toNat:=by
 have a:(choose (.appendCap l.length 0 el)).run P w=.ok ((xU l.length 0 el).cut (w.tape w.drawn (.appendCap l.length 0 el))) {w with drawn:=w.drawn+1}:=by simp[choose,Sem.run,aeL]
 have c:l.length≤(xU l.length 0 el).cut (w.tape w.drawn (.appendCap l.length 0 el)):=by simp only[aeK];omega
 generalize (xU l.length 0 el).cut (w.tape w.drawn (.appendCap l.length 0 el))=cap at a c;let ws:bv az:=(l.toArray.map λb=>l9 .u8 b.toNat)++Array.replicate (cap-l.length) (.int .u8 0);have d:ws.size=cap:=by simp[ws];omega
 let w1:World:=({w with drawn:=w.drawn+1}:World).alloc (.cells ws el);have h1:w1.heap[w.heap.size]?=J (.cells ws el (0,0)):=by show(w.heap.push _)[w.heap.size]?=_;simp
 refine⟨cap,w1.freeze ⟨w.heap.size,ws.size,O⟩ 1,ws,c,?_,?_,?_,rfl,rfl,rfl,?_,d,?_⟩;simp only[awj,cL,Bg,a,cO];have e:(shape w.heap.size).run P w1=.ok (J (el,ws.size)) w1:=by simp[shape,Sem.run,World.shape?,h1]
 show((newRow el ws).run P {w with drawn:=w.drawn+1}).andThen _=_;simp only[sC,cO];show((markStringish ⟨w.heap.size,0,O⟩).run P w1).andThen _=_;simp only[markStringish,cL,e,cO];rfl;intro b g;have f:w.heap.size≠b:=by omega
 show((w1.freeze ⟨w.heap.size,ws.size,O⟩ 1).heap)[b]?=_;simp only[World.freeze,Nat.one_ne_zero,bC,Array.getElem?_modify,aK f];show(w.heap.push _)[b]?=_;grind;show((w1.freeze ⟨w.heap.size,ws.size,O⟩ 1).heap).size=_;simp only[World.freeze,Nat.one_ne_zero,bC,Array.size_modify];show(w.heap.push _).size=_;simp;grind [World.freeze];grind
def U4{α a:Type}(f:α→a):∀l:L α,(l.map λb=>[f b]).flatten=l.map f|[]=>rfl|b::l=>by simp only[dO,Tw,U4 f l];rfl
def U5{P:dr}:∀(us:L az)(l:L ai)(acc:L ai),aG (λu(b:ai)=>∃n:M,u=.int .u8 n∧b=je n.toNat) us l→
  (forIn us (kh acc.toArray) λc(__s:mc)=>
    match c with
    |l9 IntKind.u8 n=>(pure (Fk (__s.push (je n.toNat))):Sem (ForInStep mc))|x=>do
     stuck "bytesToString: byte expected"
     pure (Fk __s)).run P w=.ok (kh (acc++l).toArray) w
 |[],[],acc,_=>by simp|u::us,b::l,acc,h=>by
  obtain⟨⟨n,rfl,rfl⟩,h2⟩:=h;rw[List.forIn_cons];simp only[cL,ek,cO];have hp:(kh acc.toArray).push (je n.toNat)=kh (acc++[je n.toNat]).toArray:=by apply aeB;simp[ByteArray.push]
  rw[hp,U5 us l _ h2];simp
def agG{P:dr}{u:az}{xs:L (L D)}{l:L ai}(j:(u=.slice O 0 0∧xs=[])∨∃e cap,u=.slice (J e) xs.length cap∧(cap=0∨e.spot=O)∧xs.length≤cap∧cH w Z 1 xs e.block e.off) (h:xs.mapM (λx=>match x with|[.int .u8 n]=>J (je n.toNat)|_=>O)=J l):(awk u).run P w=.ok (.string ⟨l.toArray⟩) w:=by
 rcases j with⟨rfl,rfl⟩|⟨e,cap,rfl,h2,h3,m⟩
 simp at h;subst h;rfl;have o:=UX (K:={P:=P,N:=0,base:=0,w0:=w,E0:=λ_=>gT,Z0:=λ_=>gT,argv:=#[],iV:=λ_=>O}) (w:=w) (Z:=Z) (size:=1) (u:=.slice (J e) xs.length cap) (ys:=xs) (.inr ⟨e,cap,rfl,h2,h3,m⟩);let⟨_,_,arr,g,i,_⟩:=o;have d:=g w rfl;simp only[pu,Nat.mul_one]at d;have key:∀(xs:L (L D))(us:L az)(l:L ai),DL w Z us xs.flatten→xs.mapM (λx=>match x with|[.int .u8 n]=>J (je n.toNat)|_=>O)=J l→aG (λu(b:ai)=>∃n:M,u=.int .u8 n∧b=je n.toNat) us l:=by
  intro xs;induction xs with
  |nil=>
   intro us l hd c;simp at c;subst c;cases us with|nil=>trivial|cons _ _=>exact hd.elim
  |cons x xs p=>
   intro us l hd c;rw[List.mapM_cons]at c;match x,c with
   |[.int .u8 n],c=>
    cases f:xs.mapM (λx=>match x with|[.int .u8 n]=>J (je n.toNat)|_=>O)with
    |none=>simp[f]at c|some q=>
     simp[f]at c;subst c;cases us with|nil=>exact hd.elim|cons u us=>exact⟨⟨n,hd.1,rfl⟩,p us q hd.2 f⟩
   |[],c=>simp at c|.bool _::_,c=>simp at c|.str _::_,c=>simp at c|.nil::_,c=>simp at c|.sl _ _::_,c=>simp at c|.ck _::_,c=>simp at c|.rep _ _::_,c=>simp at c|.int k n::y::r,c=>simp at c|[.int .i8 n],c=>simp at c|[.int .i16 n],c=>simp at c|[.int .i32 n],c=>simp at c|[.int .i64 n],c=>simp at c|[.int .u16 n],c=>simp at c|[.int .u32 n],c=>simp at c|[.int .u64 n],c=>simp at c
 have s:=U5 (P:=P) (w:=w) arr.toList l [] (key xs _ l i h);simp only[awk,cL,d,cO];rw[←Array.forIn_toList];have t:ByteArray.empty=kh ([]:L ai).toArray:=rfl;rw[t];exact(congrArg (λr:Result mc=>r.andThen λa w'=>Sem.run P (pure (Value.string a)) w') s).trans (by simp)
include hT in
def agH(h:Rel K β ω Z s a w){src A:aW}{x:bO}{dst:Nat}{o:ch}(ho:o.op=.convert src A x){v:SV}{s':St}(R:(bE cfg o.op dst).exec s=J (v,s')):cf K s' a dst ((execOp a.eval o).run K.P w) v:=by
 rw[ho]at R;simp only[bE]at R;let⟨v1,s1,h1,e⟩:=aI R;let⟨S,hv,hno,hnu⟩:=gx h h1;rw[S]at e;have B:(execOp a.eval o).run K.P w=((convert src A (a.eval x)).run K.P w).andThen λu w'=>.ok (.value u) w':=by simp only[execOp,ho,cL,ek]
 unfold sd at e;split at e;rename_i i1 _ _ k _ _ n f i;let⟨d1,_,_,r⟩:=dP (w:=w) (hT.T _ _ f);let⟨d2,_,m,t⟩:=dP (w:=w) (hT.T _ _ i);have p:=vz m;subst p;let⟨C,q⟩:=aQ e;rw[C,q];have G:=hv.2;simp only[aH,a6]at G;refine cf.d (d:=.int k (k.wrap n)) h (u:=.int k (k.wrap n)) ?_ rfl;rw[B,G];simp only[convert,cL,r,t,cO,Conv.intToInt,ek];rename_i l f i;let⟨d1,_,_,r⟩:=dP (w:=w) (hT.T _ _ f);let⟨d2,_,m,t⟩:=dP (w:=w) (hT.T _ _ i);have p:=qR m;subst p;let⟨C,q⟩:=aQ e;rw[C,q];have G:=hv.2;simp only[aH,a6]at G;refine cf.d (d:=.str l) h (u:=.string ⟨l.toArray⟩) ?_ rfl;grind [convert,cL,cO,ek];rename_i V z l f i;let⟨d1,_,_,r⟩:=dP (w:=w) (hT.T _ _ f);let⟨d2,_,m,t⟩:=dP (w:=w) (hT.T _ _ i);have p:=my m;subst p;split at e;rename_i D;let⟨d3,_,E,H⟩:=dP (w:=w) (hT.T _ _ D);have F:=vz E;subst F;let⟨C,q⟩:=aQ e;rw[C,q];have G:=hv.2;simp only[aH,a6]at G;let⟨cap,w',ws,q1,q2,q3,q4,q5,q6,q7,q8,q9,q10⟩:=agF (P:=K.P) (w:=w) V l;refine agE (hm:=by decide) h (w':=w') (len:=l.length) (cap:=cap) (lo:=ws.size) (hi:=ws.size+1) (ws:=ws) (el:=V) ?_ q3 q4 q5 q6 q7 q8 (by omega) (by simp) q1 (by omega) (by simp) (λj d N=>?_);grind [convert,cL,cO];rw[U4,gj]at N;cases X:l[j]? with|none=>grind|some b=>rw[X]at N;simp only[Option.map_some,Option.some.injEq]at N;subst N;refine⟨.int .u8 b.toNat,?_,rfl⟩;grind
 simp[Prog.exec]at e;rename_i V z c f i;let⟨d1,_,Y,r⟩:=dP (w:=w) (hT.T _ _ f);have U3:=my Y;subst U3;let⟨d2,_,m,t⟩:=dP (w:=w) (hT.T _ _ i);have p:=qR m;subst p;split at e;rename_i D;let⟨d3,_,E,H⟩:=dP (w:=w) (hT.T _ _ D);have F:=vz E;subst F;let⟨xs,s2,h2,y⟩:=aI e;let⟨q,g⟩:=Uh h hv.2 h2;rw[q]at y;split at y;rename_i l hl;let⟨C,hs3⟩:=aQ y;rw[C,hs3];have hrun:=agG (P:=K.P) g hl;refine cf.d (d:=.str l) h (u:=.string ⟨l.toArray⟩) ?_ rfl;grind [convert,cL,cO];simp[Prog.exec]at y;simp[Prog.exec]at e;simp[Prog.exec]at e
end
def cA(args:L SV)(boxes:L (L C)):St
 |.tmp _=>{}|.arg i=>{v:=args.getD i .undef}|.box (.inb i)=>{v:=match boxes[i]? with|some cs=>.agg cs|none=>.undef}
 |.box _=>{}
def dL(args:L SV)(r:pC):St
 |.tmp 0=>{v:=r.v}|.tmp _=>{}|.arg i=>{v:=(jI r.bR args).getD i .undef}|.box (.inb i)=>{v:=match r.boxes[i]? with|some cs=>.agg cs|none=>.undef}
 |.box _=>{}
def cm(P:dr)(N:Nat)(w:World)(vals:bv az)(β:Key→Option Nat)(ω:Nat→Option cj)(Z:Nat→Prop):Ctx:={P,N,base:=w.heap.size,w0:=w,E0:=λb=>ω b≠O,Z0:=Z,argv:=vals,iV:=β}
section
variable{K:Ctx}{β:Key→Option Nat}{ω:Nat→Option cj}{Z:Nat→Prop}{s:St}{a:Act}{w:World}{cfg:bg}
def U6(h:Rel K β ω Z s a w){c c':C}{u:az}{s':St}(e:aH K β Z s a w c u)(j:ca c)(d:(nu cfg c).exec s=J (c',s')):∃ω' Z',Rel K β ω' Z' s' a w∧Calm K β a ω Z s w ω' Z' s' w∧aH K β Z' s' a w c' u∧ca c':=by unfold nu at d;split at d;split at d;grind [aQ,Calm.refl];let⟨x,k,h1,b⟩:=aI d;let⟨f,g⟩:=aQ b;rw[f,g];let⟨ω',Z',i,k1,d1⟩:=A8 h e h1;exact⟨ω',Z',i,k1,d1,by simp[ca]⟩;split at d;let⟨x,k,h1,b⟩:=aI d;let⟨f,g⟩:=aQ b;rw[f,g];let⟨ω',Z',i,k1,d1⟩:=A8 h e h1;exact⟨ω',Z',i,k1,d1,by simp[ca]⟩;grind [aQ,Calm.refl];grind [aQ,Calm.refl]
def agI:∀(cs:L C)(us:L az)(ω:Nat→Option cj)(Z:Nat→Prop)(s s':St)(cs':L C),Rel K β ω Z s a w→aG (λu c=>aH K β Z s a w c u) us cs→(∀c∈cs,ca c)→(vm cfg cs).exec s=J (cs',s')→∃ω' Z',Rel K β ω' Z' s' a w∧Calm K β a ω Z s w ω' Z' s' w∧aG (λu c=>aH K β Z' s' a w c u) us cs'∧(∀c∈cs',ca c):=by
 intro cs;induction cs with
 |nil=>intro us ω Z s s' cs' h b g i;let⟨d,o⟩:=aQ i;grind [Calm.refl]
 |cons c cs q=>
  intro us ω Z s s' cs' h b g i;cases us with|nil=>exact b.elim|cons u us=>simp only[vm]at i;let⟨c1,r,h1,j⟩:=aI i;let⟨k,F,h2,l⟩:=aI j;let⟨d,o⟩:=aQ l;subst d;subst o;let⟨m,t,p,k1,v,y⟩:=U6 h b.1 (g c (jq ..)) h1;have f:∀x∈cs,ca x:=λx d=>g x (gU _ d);let⟨n,z,A,k2,B,G⟩:=q us m t r _ k p (b.2.ju λu c D E=>k1.jM h.cD (λe xs _ d _=>bX d (f c D e xs)) E) f h2;refine⟨n,z,A,k1.trans k2,⟨k2.jM p.cD (λe xs _ d _=>bX d (y e xs)) v,B⟩,λx d=>?_⟩;grind
def mA(K:Ctx)(β:Key→Option Nat)(Z:Nat→Prop)(s:St)(a:Act)(w:World)(u:az)(v:SV):Prop:=bj (aH K β Z s a w) u v∧(∀c∈v.cells,ca c)∧v≠.undef
theorem mA.lift{ω':Nat→Option cj}{Z':Nat→Prop}{s':St}{w':World}(d:Rel K β ω Z s a w)(k:Calm K β a ω Z s w ω' Z' s' w'){u:az}{v:SV}(h:mA K β Z s a w u v):mA K β Z' s' a w' u v:=⟨bj.mono (λc _ f b=>k.jM d.cD (λe xs _ g _=>bX g (h.2.1 c f e xs)) b) h.1,h.2⟩
def agJ(h:Rel K β ω Z s a w){v v':SV}{u:az}{s':St}(hv:mA K β Z s a w u v)(e:(oA cfg v).exec s=J (v',s')):∃ω' Z',Rel K β ω' Z' s' a w∧Calm K β a ω Z s w ω' Z' s' w∧mA K β Z' s' a w u v':=by
 cases v with
 |one c=>simp only[oA]at e;let⟨c1,n,h1,b⟩:=aI e;let⟨g,i⟩:=aQ b;subst g;subst i;let⟨d,j,k,k1,l,m⟩:=U6 h hv.1.2 (hv.2.1 c (by simp[SV.cells])) h1;exact⟨d,j,k,k1,⟨hv.1.1,l⟩,by simpa[SV.cells]using m,by simp⟩
 |agg cs=>simp only[oA]at e;let⟨c1,n,h1,b⟩:=aI e;let⟨g,i⟩:=aQ b;subst g;subst i;let⟨ws,o,f⟩:=hv.1;let⟨d,j,k,k1,l,m⟩:=agI cs ws.toList ω Z s _ _ h f (λc p=>hv.2.1 c p) h1;exact⟨d,j,k,k1,⟨ws,o,l⟩,m,by simp⟩
 |aX x=>simp[oA,Prog.exec]at e|undef=>simp[oA,Prog.exec]at e
def agK:∀(vs:L SV)(us:L az)(ω:Nat→Option cj)(Z:Nat→Prop)(s s':St)(vs':L SV),Rel K β ω Z s a w→aG (mA K β Z s a w) us vs→(yi cfg vs).exec s=J (vs',s')→∃ω' Z',Rel K β ω' Z' s' a w∧Calm K β a ω Z s w ω' Z' s' w∧aG (mA K β Z' s' a w) us vs':=by
 intro vs;induction vs with
 |nil=>intro us ω Z s s' vs' h b c;let⟨j,k⟩:=aQ c;grind [Calm.refl]
 |cons v vs m=>
  intro us ω Z s s' vs' h b c;cases us with|nil=>exact b.elim|cons u us=>simp only[yi]at c;let⟨v1,n,h1,d⟩:=aI c;let⟨e,y,h2,f⟩:=aI d;let⟨j,k⟩:=aQ f;subst j;subst k;let⟨g,o,l,k1,p⟩:=agJ h b.1 h1;let⟨i,q,r,k2,t⟩:=m us g o n _ e l (aG.mono (λ_ _ x=>mA.lift h k1 x) b.2) h2;exact⟨i,q,r,k1.trans k2,mA.lift l k2 p,t⟩
def fB(ks:L Key)(β:Key→Option Nat):Key→Option Nat|.inb i=>if i<ks.length then β (ks.getD i default)else O|_=>O
def eW(ks:L Key)(ω:Nat→Option cj)(b:Nat):Option cj:=
 match ω b with|some (.box k,j)=>if k∈ks then J (.box (.inb (idx k ks)),j)else O|_=>O
theorem Gp:∀{ks:L Key}{k:Key},k∈ks→idx k ks<ks.length∧ks[idx k ks]?=J k
 |k'::ks,k,h=>by
  simp only[idx];split;grind;rename_i e;have:k∈ks:=by grind
  let⟨h1,h2⟩:=Gp this;grind
theorem pS{ks:L Key}{k:Key}(h:k∈ks)(β:Key→Option Nat):fB ks β (.inb (idx k ks))=β k:=by grind [Gp,fB]
theorem pT:∀{ks:L Key}(_:ks.Nodup){i:Nat}{k:Key},ks[i]?=J k→idx k ks=i
 |[],_,_,_,h=>by simp at h|k'::ks,hn,0,k,h=>by simp_all [idx]|k'::ks,hn,i+1,k,h=>by
  simp only[pr]at h;have a:k≠k':=by grind
  simp only[idx,aK a,pT (xV.1 hn).2 h]
theorem yw:∀(l:L Key),(dedup l).Nodup|[]=>List.nodup_nil|k::r=>by simp only[dedup];exact xV.2 ⟨by simp,(yw r).filter _⟩
theorem U7:∀{l:L Key}{k:Key},k∈l→k∈dedup l|k'::r,k,h=>by simp only[dedup,iA,List.mem_filter,eh];by_cases e:k=k';exact .inl e;exact .inr ⟨U7 (by simpa[e]using h),e⟩
def U8:∀{cs:L C}{c:C}{k:Key},c∈cs→k∈fZ [c]→k∈fZ cs
 |b::cs,c,k,a,hk=>by
  rcases iA.1 a with rfl|a
  cases c<;>simp_all [fZ];have:=U8 a hk;cases b<;>simp_all [fZ]
def U9(h:Rel K β ω Z s a w){ks:L Key}{c c':C}{u:az}{s':St}(m:aH K β Z s a w c u)(V:ca c)(hk:∀k∈fZ [c],k∈ks)(o:(canon ks c).exec s=J (c',s')):s'=s∧(∀(K₀:Ctx)(s₀:St)(a₀:Act),aH K₀ (fB ks β) Z s₀ a₀ w c' u)∧(∀(e:Nat)(xs:L (L D))(b:Nat),c'=.own e xs→dB u=J b→eW ks ω b=O∧b<w.heap.size):=by
 unfold canon at o;split at o;let⟨l,n⟩:=aQ o;subst l;exact⟨n,λ_ _ _=>m,by simp⟩;rename_i r j hv cv e k xs;simp only[Prog.exec]at o;let⟨_,s1,h1,d⟩:=aI o;let⟨⟨E,F⟩,G⟩:=bW h1;rw[G]at d;have v:(s r).at j≠.dead:=by grind [Prog.exec]
 let⟨ys,P,z,f6,f2,f3,f4,f5,_,f8⟩:=FY h m E F v;rcases f6 with f6|f6
 rw[f6]at d;simp only at d;let⟨_,s2,h2,y⟩:=aI d;let⟨X,H⟩:=bW h2;rw[H]at y;let⟨l,n⟩:=aQ y;subst l;refine⟨n,λ_ _ _=>nB.iff.2 f5,λe' Y b1 q1 A=>?_⟩;rw[f4]at A;cases A;by_cases q:r.isArg=W;cases r with
 |arg i=>
  let⟨B,R⟩:=h.gw i j e ys P z (gK f6 (by simp)) f2 f3;refine⟨?_,Nat.lt_of_lt_of_le B h.base⟩;have:ω z=O:=by
   cases N:ω z with|none=>rfl|some g=>exact bX ((h.c9 _ _ N).2.2 B) R
  simp[eW,this]
 |tmp t=>simp[aD.isArg]at q|box k=>simp[aD.isArg]at q
 let⟨B,R⟩:=h.own r j e ys P z (by simpa using q) (gK f6 (by simp)) f2 f3;refine⟨?_,(h.c9 _ _ B).2.1⟩;grind [eW];rw[f6]at d;simp only at d;let⟨l,n⟩:=aQ d;subst l;refine⟨n,λ_ _ _=>f8 Z (λb hb=>hb) (h.frozen f6 f2 f3),by simp⟩;rename_i k off;let⟨l,n⟩:=aQ o;subst l;let⟨b,S,T⟩:=m;exact⟨n,λ_ _ _=>⟨b,by simp_all [pS,fZ],T⟩,by simp⟩;rename_i f caps;let⟨l,n⟩:=aQ o;subst l;let⟨vs,S,T⟩:=m;refine⟨n,λ_ _ _=>⟨vs,S,?_⟩,by simp⟩;have key:∀(us:L az)(caps:L (Key×Nat)),(∀p∈caps,p.1∈ks)→aG (λu(p:Key×Nat)=>∃b,β p.1=J b∧u=.pointer (J ⟨b,p.2,O⟩)) us caps→aG (λu(p:Key×Nat)=>∃b,fB ks β p.1=J b∧u=.pointer (J ⟨b,p.2,O⟩)) us (caps.map λp=>(.inb (idx p.1 ks),p.2)):=by
  intro us;induction us with
  |nil=>intro caps _ h;cases caps with|nil=>trivial|cons _ _=>exact h.elim
  |cons u us ih=>
   intro caps hm h;cases caps with|nil=>exact h.elim|cons p caps=>let⟨⟨b,q1,A⟩,q3⟩:=h;exact⟨⟨b,by grind [pS],A⟩,ih caps (λx l=>hm x (gU _ l)) q3⟩
 grind [fZ];simp[Prog.exec]at o
def Bp(ks:L Key)(β:Key→Option Nat)(ω:Nat→Option cj)(Z:Nat→Prop)(w:World)(u:az)(v:SV):Prop:=(∀(a:Ctx)(c:St)(d:Act),bj (aH a (fB ks β) Z c d w) u v)∧(∀(j e:Nat)(xs:L (L D))(f:az)(b:Nat),v.cells[j]?=J (.own e xs)→(flat u)[j]?=J f→dB f=J b→eW ks ω b=O∧b<w.heap.size)∧v≠.undef
def agL:∀(cs:L C)(us:L az)(s':St)(cs':L C){ks:L Key},Rel K β ω Z s a w→aG (λu c=>aH K β Z s a w c u) us cs→(∀c∈cs,ca c)→(∀k∈fZ cs,k∈ks)→
  (qM ks cs).exec s=J (cs',s')→s'=s∧(∀(K₀:Ctx)(s₀:St)(a₀:Act),aG (λu c=>aH K₀ (fB ks β) Z s₀ a₀ w c u) us cs')∧
    (∀(j e:Nat)(xs:L (L D))(n:az)(b:Nat),cs'[j]?=J (.own e xs)→us[j]?=J n→dB n=J b→eW ks ω b=O∧b<w.heap.size):=by
 intro cs
 induction cs with
 |nil=>
  intro us s' cs' ks h d f hk m;let⟨g,o⟩:=aQ m;subst g;cases us with|nil=>exact⟨o,λ_ _ _=>trivial,by simp⟩|cons u us=>exact d.elim
 |cons c cs v=>
  intro us s' cs' ks h d f hk m;cases us with|nil=>exact d.elim|cons u us=>simp only[qM]at m;let⟨c1,E,h1,i⟩:=aI m;let⟨p,y,F⟩:=U9 h d.1 (f c (jq ..)) (λk l=>hk k (U8 (jq ..) l)) h1;rw[p]at i;let⟨q,z,h2,r⟩:=aI i;let⟨g,o⟩:=aQ r;let⟨t,A,G⟩:=v us z q h d.2 (λx g=>f x (gU _ g)) (λk l=>hk k (by cases c<;>simp_all [fZ])) h2;subst g;refine⟨by rw[o,t],λK₀ s₀ a₀=>⟨y K₀ s₀ a₀,A K₀ s₀ a₀⟩,λj e xs n H N P B=>?_⟩;grind
theorem Va(l m:L C):fZ (l++m)=fZ l++fZ m:=by
 induction l with|nil=>rfl|cons c l a=>cases c<;>simp[fZ,a]
def agM:∀(vs:L SV)(us:L az)(s':St)(vs':L SV){ks:L Key},Rel K β ω Z s a w→aG (mA K β Z s a w) us vs→(∀k∈fZ (vs.flatMap SV.cells),k∈ks)→(se ks vs).exec s=J (vs',s')→s'=s∧aG (Bp ks β ω Z w) us vs':=by
 intro vs;induction vs with
 |nil=>
  intro us s' vs' ks h b hk z;let⟨l,m⟩:=aQ z;subst l;cases us with|nil=>exact⟨m,trivial⟩|cons u us=>exact b.elim
 |cons v vs T=>
  intro us s' vs' ks h b hk z;cases us with
  |nil=>exact b.elim|cons u us=>
   simp only[se]at z;let⟨v1,V,h1,r⟩:=aI z;have t:∀k∈fZ v.cells,k∈ks:=λk n=>hk k (by grind [Va]);have i:V=s∧Bp ks β ω Z w u v1:=by
    cases v with
    |one c=>simp only[mo]at h1;let⟨c1,H,h3,o⟩:=aI h1;let⟨l,m⟩:=aQ o;subst l;let⟨p,C,N⟩:=U9 h b.1.1.2 (b.1.2.1 c (by simp[SV.cells])) (λk n=>t k (by simpa[SV.cells]using n)) h3;refine⟨by rw[m,p],λd f g=>⟨b.1.1.1,C d f g⟩,λj e xs P R A B y=>?_,by simp⟩;rw[yn b.1.1.1]at B;grind [SV.cells]
    |agg cs=>simp only[mo]at h1;let⟨c1,H,h3,o⟩:=aI h1;let⟨l,m⟩:=aQ o;subst l;let⟨ws,B,D⟩:=b.1.1;let⟨p,C,N⟩:=agL cs ws.toList H c1 h D (λc A=>b.1.2.1 c A) t h3;refine⟨by rw[m,p],λd f g=>⟨ws,B,C d f g⟩,λj e xs P R A S y=>?_,by simp⟩;rw[B]at S;exact N j e xs P R A S y
    |aX x=>simp[mo,Prog.exec]at h1|undef=>simp[mo,Prog.exec]at h1
   rw[i.1]at r;let⟨E,X,h2,F⟩:=aI r;let⟨l,m⟩:=aQ F;subst l;let⟨G,q⟩:=T us X E h b.2 (λk n=>hk k (by grind [Va])) h2;exact⟨by rw[m,G],i.2,q⟩
def Vb{d:L Key}:∀(ks:L Key)(s':St)(b:L (L C)),(vn d ks).exec s=J (b,s')→s'=s∧b.length=ks.length∧∀(i:Nat)(k:Key),ks[i]?=J k→∃cs,b[i]?=J (cs.map (tc d))∧(s (.box k)).v=.agg cs∧cs.all (tok d)=W:=by
 intro ks;induction ks with
 |nil=>intro s' b a;let⟨h,j⟩:=aQ a;grind
 |cons k ks l=>intro s' b a;simp only[vn,Prog.exec]at a;split at a;rename_i cs f;let⟨_,m,h1,c⟩:=aI a;let⟨hp,e⟩:=bW h1;rw[e]at c;let⟨r,n,h2,g⟩:=aI c;grind [aQ];simp[Prog.exec]at a
def agN:∀(ks:L Key)(s':St)(l:L Key),(yj ks).exec s=J (l,s')→s'=s:=by
 intro ks;induction ks with
 |nil=>intro s' l a;exact(aQ a).2
 |cons k ks c=>intro s' l a;simp only[yj,Prog.exec]at a;split at a;let⟨r,d,h2,b⟩:=aI a;grind [aQ];simp[Prog.exec]at a
def Vc{ks:L Key}{cs:L C}(h:cs.all (tok ks)=W){c:C}(a:c∈cs):tok ks c=W:=fO.1 h c a
def Vd{f:Ctx}{ks:L Key}{s':St}{g:Act}{c:C}{u:az}(hp:tok ks c=W)(h:aH K β Z s a w c u):aH f (fB ks β) Z s' g w (tc ks c) u:=by
 cases c with
 |d x=>exact h|own e xs=>exact h|ptr k off=>let⟨b,j,i⟩:=h;exact⟨b,by simp_all [pS,tok],i⟩
 |dead=>trivial|_=>cases hp
theorem Vf{ks:L Key}{c:C}{e:Nat}{xs:L (L D)}(h:tc ks c=.own e xs):c=.own e xs:=by cases c<;>first|exact h|cases h
def aG.Gq{α β a:Type}{R:α→β→Prop}{S:α→a→Prop}{f:β→a}:∀{us:L α}{cs:L β},aG R us cs→(∀u c,c∈cs→R u c→S u (f c))→aG S us (cs.map f)|[],[],_,_=>trivial|_::_,_::_,h,g=>⟨g _ _ (jq ..) h.1,aG.Gq h.2 λu c b=>g u c (gU _ b)⟩
def Vg{ks:L Key}{c:C}(h:tok ks c=W):ic ks.length (tc ks c)=W:=by
 cases c with|d x=>rfl|own e xs=>rfl|ptr k off=>exact decide_eq_true (Gp (by simpa[tok]using h)).1|dead=>rfl|_=>cases h
def agO{b:Ctx}{n:Nat}{s':St}{f:Act}{c:C}{u:az}(hp:ic n c=W)(h:aH K β Z s a w c u):aH b β Z s' f w c u:=by
 cases c with|d x=>exact h|own e xs=>exact h|ptr k off=>exact h|dead=>trivial|_=>cases hp
def Vh{n:Nat}{cs:L C}(h:cs.all (ic n)=W){c:C}(a:c∈cs):ic n c=W:=fO.1 h c a
theorem Vi{ks:L Key}{β:Key→Option Nat}{k:Key}{b:Nat}(h:fB ks β k=J b):∃i k',k=.inb i∧ks[i]?=J k'∧β k'=J b:=by unfold fB at h;grind
def agP(h:Rel K β ω Z s a w){ks:L Key}(hnd:ks.Nodup){us:L az}{d:L SV}{x:L (L C)}(D:aG (Bp ks β ω Z w) us d)(yx:x.length=ks.length) (E:∀(i:Nat)(k:Key),ks[i]?=J k→∃cs,x[i]?=J (cs.map (tc ks))∧(s (.box k)).v=.agg cs∧cs.all (tok ks)=W):Rel (cm K.P 0 w us.toArray (fB ks β) (eW ks ω) Z) (fB ks β) (eW ks ω) Z (cA d x) {tmps:=#[],defers:=[]} w:=by
 have o:∀i,us.toArray.getD i undef=us.getD i undef:=λi=>by simp_all
 have f:∀i(v:SV),d.getD i .undef=v→v≠.undef→Bp ks β ω Z w (us.getD i undef) v:=by
  intro i v hv F;rw[iy]at hv;cases m:d[i]? with|none=>grind|some v'=>rw[m]at hv;simp only[Option.getD_some]at hv;subst hv;let⟨u,n,p⟩:=D.get m;grind
 have q:∀(k:Key)(y:L C),(cA d x (.box k)).v=.agg y→∃i k' cs,k=.inb i∧ks[i]?=J k'∧(s (.box k')).v=.agg cs∧y=cs.map (tc ks)∧cs.all (tok ks)=W:=by
  intro k cs hk;cases k with
  |inb i=>
   simp only[cA]at hk;cases H:x[i]? with|none=>grind|some y=>rw[H]at hk;cases hk;have hi:i<ks.length:=(by grind);let⟨cs2,n,p,G⟩:=E i _ (du hi);grind
  |loc t=>simp[cA]at hk|esc t i=>simp[cA]at hk
 have N:∀(i:Nat)(k':Key)(j:Option Nat)(b:Nat),ks[i]?=J k'→ω b=J (.box k',j)→eW ks ω b=J (.box (.inb i),j):=by grind [eW,pT]
 refine⟨rfl,⟨rfl,λg l R=>?_,λg R=>?_⟩,rfl,rfl,rfl,Nat.le_refl _,λ_ _ _=>rfl,h.cD,λ_ h=>h,λb E=>.inl E,?_,?_,?_,?_,?_,?_,λ_ _ h=>h⟩;let⟨n,p,G,S⟩:=h.laid g l R;refine⟨n,p,λT=>T ?_,S⟩;simp only[eW,G];let⟨n,p,G,S⟩:=h.opens g R;refine⟨n,p,λT=>T ?_,S⟩;simp only[eW,G];intro t;exact trivial;intro i;show bj _ (us.toArray.getD i undef) (d.getD i .undef);rw[o];by_cases hu:d.getD i .undef=.undef;rw[hu];trivial;exact(f i _ rfl hu).1 _ _ _;intro k;cases hv:(cA d x (.box k)).v with
 |agg cs=>obtain⟨i,k',z,rfl,hi,n,rfl,p⟩:=q k cs hv;let⟨b,ws,el,lo,V,f1,f2,f3,f4,f5⟩:=di.cell h n;refine⟨b,ws,el,lo,V,?_,N i k' O b hi f2,f3,f4,f5.Gq λu c m X=>Vd (Vc p m) X⟩;have:=pS (eA hi) β;grind [pT]
 |undef=>
  show fB ks β k=O;cases Y:fB ks β k with|none=>rfl|some b=>grind [Vi,cA]
 |one c=>cases k<;>simp only[cA]at hv<;>(try (split at hv))<;>cases hv
 |aX c=>cases k<;>simp only[cA]at hv<;>(try (split at hv))<;>cases hv
 intro r j e xs u1 b1 X m hh A;cases r with
 |tmp t=>simp[cA,SV.cells]at m|arg i=>simp[aD.isArg]at X|box k=>
  cases hv:(cA d x (.box k)).v with
  |agg cs=>obtain⟨i,k',z,rfl,hi,n,rfl,p⟩:=q k cs hv;rw[hv]at m;have m:(z.map (tc ks))[j]?=J (.own e xs):=m;have hc0:z[j]?=J (.own e xs):=(by grind [Vf]);have Y:fB ks β (.inb i)=β k':=(by have:=pS (eA hi) β;grind [pT]);have B:bU K β a w (.box k') j=J u1:=(by simp_all [bU]);let⟨p1,p2⟩:=h.own (.box k') j e xs u1 b1 rfl (by rw[n];exact hc0) B A;grind
  |undef=>simp_all [SV.cells]|one c=>cases k<;>simp only[cA]at hv<;>(try (split at hv))<;>cases hv
  |aX c=>cases k<;>simp only[cA]at hv<;>(try (split at hv))<;>cases hv
 intro i j e xs u1 b1 m hh A;have Ng:(d.getD i .undef).cells[j]?=J (.own e xs):=m;have F:d.getD i .undef≠.undef:=by grind [SV.cells]
 have B:(flat (us.getD i undef))[j]?=J u1:=by rw[←o];exact hh
 let⟨p1,p2⟩:=(f i _ rfl F).2.1 j e xs u1 b1 Ng B A;exact⟨p2,λhE=>hE p1⟩;intro b g E;have hb':eW ks ω b≠O:=by rw[E];simp
 have:∃g',ω b=J g':=by grind [eW]
 let⟨g',hg'⟩:=this;let⟨q1,q2,_⟩:=h.c9 b g' hg';exact⟨q1,q2,λ_=>hb'⟩
end
end Go.Vs
