/- The statement ExportSpansUptoCardSaid of the given program is proved here: for every input whose bulk is at most the bound of its row, the law returns true and changes nothing. Part 3 of 7. -/
import Derived.SevenTiedAt
import Derived.Stop.Joined
import Derived.Below
import Derived.Test.YtgbmhohlapmgbaaGreatDoorS2
set_option linter.unusedVariables false
set_option linter.unusedSimpArgs false
set_option linter.unusedSectionVars false
set_option linter.constructorNameAsVariable false
set_option linter.defProp false
open Array renaming getElem?_toList->qV,toList->T
open Bool renaming and_eq_true->ck,and_true->qX,false->I,not_eq_true'->lQ,or_eq_false_iff->qZ,or_eq_true->qY,true->W
open Eq renaming symm->adJ,trans->ab0
open False renaming elim->ab1
open Go renaming DataW->jo,FuncId->dT,Oper->cS,Program->ew,ResultVar->nV,TypeId->bq,Value->aJ,World->bZ,wp_cond_split->ahO
open Go.IntKind renaming i64->a7,signed->Hs
open Go.Program renaming underlying->acK
open Go.RowKit renaming Below->c7
open Go.RowKit.Below renaming block->ady
open Go.World renaming var?_cell->ayK,cell?->ve
open Iff renaming rfl->uq
open List renaming all_cons->nR,all_eq_true->gy,any_append->ahN,getElem?_cons_succ->qU,getElem?_eq_getElem->eM,getElem?_map->iQ,length_map->kE,map->jq,map_append->mj,map_cons->eU,map_map->sC,mem_append->nP,mem_cons->jQ,mem_cons_of_mem->i7,mem_map->mh,mem_of_getElem?->fK,mem_singleton->m7,take_append_drop->nQ,contains->ab4,getD->H,length->Y,reverse->adE
open List.cons renaming injEq->zJ
open Nat renaming ble->gN,le_of_ble_eq_true->wY,zero_add->wZ,zero_le->fV
open Option renaming isSome->Cr,map_eq_some_iff->pT,map_some->m8,none->O,some->J
open Option.some renaming inj->ra,injEq->nU
open Prod.mk renaming injEq->gO
open Sum renaming inr->mm
open _root_ renaming Array->bW,Bool->az,False->jn,Int->L,List->M,Nat->U,Option->Q,True->dK,UInt8->ao,Unit->bV,absurd->cO,beq_iff_eq->dL,congrArg->bX,decide_eq_true_eq->eY,if_neg->aV,if_pos->aF,if_true->bI,of_decide_eq_true->jr
namespace Go.Ve
open Go.Vs
def ef(c c':C):Prop:=c'=c∨c'=.bK
def nw:SV→SV→Prop|_,.undef=>dK|.one c,.one d=>ef c d|.agg cs,.agg a=>aQ ef cs a|.bw vs,.bw b=>aQ (λp q=>p.1=q.1∧aQ ef p.2 q.2) vs b|_,_=>jn
theorem ef.oD:∀(cs:List C),aQ ef cs cs|[]=>trivial|_::cs=>⟨.inl rfl,ef.oD cs⟩
theorem aQ.comp{α β d:Type}{R:α→β→Prop}{S:β→d→Prop}{U:α→d→Prop}(h:∀a b c,R a b→S b c→U a c):∀{as:List α}{e:List β}{cs:List d},aQ R as e→aQ S e cs→aQ U as cs|[],[],[],_,_=>trivial|_::_,_::_,_::_,h1,h2=>⟨h _ _ _ h1.1 h2.1,aQ.comp h h1.2 h2.2⟩|[],[],_::_,_,h2=>ab1 h2|_::_,[],_,h1,_=>ab1 h1|[],_::_,_,h1,_=>ab1 h1|_::_,_::_,[],_,h2=>ab1 h2
def bO.weak{R j:C→aJ→Prop}{u:aJ}{v v':SV}(g:∀c c' x,R c x→ef c c'→j c' x)(h:bO R u v)(d:nw v v'):bO j u v':=by
 cases v' with
 |undef=>trivial|one c'=>cases v<;>first|exact⟨h.1,g _ _ _ h.2 d⟩|exact d.elim
 |agg f=>
  cases v with
  |agg cs=>let⟨ws,h1,h2⟩:=h;exact⟨ws,h1,aQ.comp (λa b c h1 h2=>g b c a h1 h2) h2 d⟩
  |_=>exact d.elim
 |bw k=>
  cases v with
  |bw vs=>
   let⟨ws,h1,h2⟩:=h;refine⟨ws,h1,aQ.comp ?_ h2 d⟩;rintro x ⟨b,cs⟩ ⟨o,f⟩ i ⟨e,hy⟩;simp only at e hy;subst e;unfold eC at i ⊢;cases b with
   |true=>grind [aQ.comp]|false=>
    simp only[Bool.false_eq_true,if_false]at i ⊢;let⟨c,l,m,n⟩:=i;subst l;cases f with
    |nil=>exact hy.elim|cons c' r=>
     cases r with|nil=>exact⟨c',rfl,m,g _ _ _ n hy.1⟩|cons=>exact hy.2.elim
  |_=>exact d.elim
theorem nw.cell:∀{v f:SV},nw v f→∀(j:Nat)(c':C),f.cells[j]?=J c'→∃c,v.cells[j]?=J c∧ef c c':=by
 have eB:∀{cs cs':List C},aQ ef cs cs'→∀(j:Nat)(c':C),cs'[j]?=J c'→∃c,cs[j]?=J c∧ef c c':=λh j c' b=>h.aE b;have app:∀{cs cs' ds e:List C},aQ ef cs cs'→aQ ef ds e→aQ ef (cs++ds) (cs'++e):=λh1 h2=>aQ.append h1 h2;intro v f h j c' b;cases f with
 |undef=>simp[SV.cells]at b|one d=>cases v<;>first|exact eB (cs:=[_]) (cs':=[_]) ⟨h,trivial⟩ j c' b|exact ab1 h
 |agg cs'=>cases v<;>first|exact eB h j c' b|exact ab1 h
 |bw a=>
  cases v with
  |bw vs=>
   replace b:(a.flatMap (λp:az×List C=>p.2))[j]?=J c':=b;show ∃c,(vs.flatMap (λp:az×List C=>p.2))[j]?=J c∧_;refine eB ?_ j c' b;clear b;have:∀{vs a:List (az×List C)},aQ (λp q=>p.1=q.1∧aQ ef p.2 q.2) vs a→aQ ef (vs.flatMap (·.2)) (a.flatMap (·.2)):=by
    intro vs;induction vs with
    |nil=>intro a h;cases a<;>first|trivial|exact h.elim
    |cons p vs g=>
     intro a h;cases a with|nil=>exact ab1 h|cons q a=>simp only[List.flatMap_cons];exact app h.1.2 (g h.2)
   exact this h
  |_=>exact ab1 h
section
variable{K:dh}{β:aC→Option Nat}{ω:Nat→Option cT}{Z:Nat→Prop}{s s':St}{a:Act}{w:World}
def aY.weak(h:aY K β ω Z s a w)(H:∀r,(s' r).hv=(s r).hv∧(s' r).cv=(s r).cv)(ht:∀t,nw (s (.tmp t)).v (s' (.tmp t)).v) (N:∀k,nw (s (.box k)).v (s' (.box k)).v∧((s' (.box k)).v=.undef→(s (.box k)).v=.undef))(ha:∀i,(s' (.bN i)).v=(s (.bN i)).v):aY K β ω Z s' a w:=by
 have f:∀r,nw (s r).v (s' r).v:=by
  intro r;cases r with
  |tmp t=>exact ht t|box k=>exact(N k).1|bN i=>
   rw[ha];cases hv:(s (.bN i)).v with
   |one c=>exact .inl rfl|agg cs=>exact ef.oD cs|bw vs=>
    show aQ _ vs vs;clear hv;induction vs with|nil=>trivial|cons p vs ih=>exact⟨⟨rfl,ef.oD _⟩,ih⟩
   |undef=>trivial
 have Ou:∀r j,(s' r).at j≠.bK→(s' r).at j=(s r).at j:=by
  intro r j hd;cases q:(s' r).v.cells[j]? with
  |none=>grind [RV.at]|some c=>
   let⟨c0,h0,h1⟩:=(f r).cell j c q;have e0:=uO h0;have P:=uO q;rw[P]at hd ⊢;rw[e0];rcases h1 with h1|h1
   exact h1;exact cO h1 hd
 have R:∀(c:C)(u:aJ),aR K β Z s a w c u→aR K β Z s' a w c u:=by
  intro c u x;cases c with
  |bj r j hv cv e k xs=>by_cases G:ca e=W;grind [aR.rz];have G:ca e=I:=(by simpa using G);let⟨S,E,A,B,F,T,V,g6⟩:=(aR.pj G).1 x;refine(aR.pj G).2 ⟨S,E,A,B,F,by rw[(H r).1];exact T,by rw[(H r).2];exact V,λP e2=>?_⟩;grind
  |ea r j hv e i off=>let⟨b,o,A,B,F⟩:=x;refine⟨b,o,A,by rw[(H r).1];exact B,λP e2=>?_⟩;grind
  |_=>exact x
 have y:∀(c X:C)(u:aJ),aR K β Z s a w c u→ef c X→aR K β Z s' a w X u:=by
  intro c X u h1 h2;rcases h2 with rfl|rfl
  exact R _ u h1;trivial
 have l:∀(r:aO)(j e:Nat)(xs:List (List D)),(s' r).v.cells[j]?=J (.ak e xs)→(s r).v.cells[j]?=J (.ak e xs):=by
  intro r j e xs q;let⟨c,h1,h2⟩:=(f r).cell j _ q;rcases h2 with h2|h2
  rw[h1,←h2];cases h2
 refine⟨h.size,h.defers,h.os,h.tape,h.output,h.base,h.frame,h.dp,h.lZ,?_,λt=>bO.weak y (h.tmps t) (ht t),λi=>bO.weak y (h.args i) (f (.bN i)),?_,?_,?_,h.dZ,h.og⟩;intro b Y;rcases h.nj b Y with g|g|g|⟨i,j,e,ys,u0,A,B,F⟩
 exact .inl g;exact .inr (.inl g);grind;grind;intro k;have d:=h.aI k;cases hv:(s (.box k)).v with
 |agg cs=>
  have m:=(N k).1;rw[hv]at m;cases n:(s' (.box k)).v with
  |agg cs'=>rw[n]at m;let⟨b,ws,el,lo,hi,A,B,F,T,V⟩:=ek.cell h hv;exact⟨b,ws,el,lo,hi,A,B,F,T,aQ.comp (λa b c h1 h2=>y b c a h1 h2) V m⟩
  |undef=>grind|one c=>rw[n]at m;exact ab1 m|bw vs=>rw[n]at m;exact ab1 m
 |undef=>
  have m:=(N k).1;rw[hv]at m d;cases n:(s' (.box k)).v with|undef=>exact d|_=>rw[n]at m;exact ab1 m
 |one c=>rw[hv]at d;exact ab1 d|bw vs=>rw[hv]at d;exact ab1 d
 intro r j e xs u1 b1 hr q hh z;exact h.ak r j e xs u1 b1 hr (l r j e xs q) hh z;intro i j e xs u1 b1 q hh z;exact h.iS i j e xs u1 b1 (l (.bN i) j e xs q) hh z
end
structure bH where
 cj:List (Nat×aP)
 aI:List (aC×List E)
 cH:List (Nat×Nat)
 cI:List (aO×Option (List Bool))
def cP(t:Nat):List (Nat×aP)→aP
 |[]=>.undef|(u,v)::r=>match t==u with|true=>v|false=>cP t r
def cG(k:aC):List (aC×List E)→Option (List E)
 |[]=>O|(q,v)::r=>match gH k q with|true=>J v|false=>cG k r
def stM(p:bH):List (aO×dU):=p.cj.map (λx=>(.tmp x.1,{v:=x.2}))++p.aI.map λx=>(.box x.1,{v:=.agg x.2})
def cy(A:List aP)(p:bH):bp:={m:=stM p,args:=A,cH:=p.cH,cI:=p.cI}
def dP(A:List aP)(p:bH):PS:={cj:=p.cj.map λx=>(x.1,aL x.2),aI:=p.aI.map λx=>(x.1,aU x.2),args:=(jd p.cH A).map aL}
def aaO(r:aO):∀(l m:List (aO×dU)),(∀x∈l,iq r x.1=I)→gl r (l++m)=gl r m|[],m,_=>rfl|(q,x)::l,m,h=>by simp only[List.cons_append,gl];rw[h (q,x) (List.mem_cons_self ..)];exact aaO r l m λy hy=>h y (List.mem_cons_of_mem _ hy)
theorem oF(A:List aP)(p:bH)(t:Nat):(cy A p).aE (.tmp t)={v:=cP t p.cj}:=by
 show gl (.tmp t) (p.cj.map (λx=>(.tmp x.1,{v:=x.2}))++p.aI.map λx=>(.box x.1,{v:=.agg x.2}))=_;induction p.cj with
 |nil=>
  induction p.aI with|nil=>rfl|cons b r a=>exact a
 |cons x r a=>grind [gl,iq,cP]
theorem kW(A:List aP)(p:bH)(k:aC):(cy A p).aE (.box k)={v:=match cG k p.aI with|some cs=>.agg cs|none=>.undef}:=by
 show gl (.box k) (p.cj.map (λx=>(.tmp x.1,{v:=x.2}))++p.aI.map λx=>(.box x.1,{v:=.agg x.2}))=_;rw[aaO _ _ _ (by intro x a;obtain⟨y,_,rfl⟩:=List.mem_map.1 a;rfl)];induction p.aI with|nil=>rfl|cons x r b=>grind [gl,iq,cG]
theorem JR(A:List aP)(p:bH)(t:Nat):((dP A p).st (.tmp t)).v=aL (cP t p.cj):=by
 show(lk t (p.cj.map λx=>(x.1,aL x.2))).getD .undef=_;induction p.cj with|nil=>rfl|cons x r a=>grind [lk,cP]
def JS(A:List aP)(p:bH)(k:aC):((dP A p).st (.box k)).v=match cG k p.aI with|some cs=>.agg (aU cs)|none=>.undef:=by
 show(match n6 k (p.aI.map λx=>(x.1,aU x.2))with|some cs=>SV.agg cs|none=>.undef)=_
 induction p.aI with|nil=>rfl|cons x r a=>grind [n6,cG,lE]
theorem JT(A:List aP)(p:bH)(i:Nat):((dP A p).st (.bN i)).v=aL (H (jd p.cH A) i .undef):=AN aL _ i .undef
def DX(A:List aP)(p:bH):dH (cy A p)=(dP A p).st:=by
 have ext:∀(x y:RV),x.hv=y.hv→x.cv=y.cv→x.v=y.v→x=y:=by intro x y h1 h2 h3;cases x;simp_all
 funext r;cases r with
 |tmp t=>refine ext _ _ ?_ ?_ ?_<;>simp only[dH,oF,cL];rfl;rfl;exact(JR A p t).symm|box k=>refine ext _ _ ?_ ?_ ?_<;>simp only[dH,kW,cL];rfl;rfl;rw[JS];cases cG k p.aI<;>rfl
 |bN i=>refine ext _ _ rfl rfl ?_;exact(JT A p i).symm
def QE:∀(l:List (Nat×Nat))(A:List aP),Y (jd l A)=Y A|[],A=>rfl|(i,j)::r,A=>by simp only[jd];rw[QE r];rw[tf];simp
theorem aaP(A:List aP)(p:bH):Y (dP A p).args=Y A:=by simp[dP,QE]
def jV(s:bp)(bk:List aC):E→E
 |.l (.bj r j hv cv k) t xs=>match(s.aE r).hv==hv&&(s.aE r).cv==cv with|true=>.l (.bj r j 0 0 k) t xs|false=>.bK
 |.n (.bj r j hv cv k) t o=>match(s.aE r).hv==hv&&(s.aE r).cv==cv with|true=>.n (.bj r j 0 0 k) t o|false=>.bK
 |.ea _ _ _ _ _ _=>.bK|.hO _=>.bK|.aW k off=>match bk.any (gH k)with|true=>.aW k off|false=>.bK
 |.dj f caps=>match caps.all (λp=>bk.any (gH p.1))with|true=>.dj f caps|false=>.bK
 |.it m t xs a=>match m with|.bj .. =>.bK|m=>.it m t xs a
 |c=>c
def vE(s:bp)(bk:List aC):aP→aP|.one c=>.one (jV s bk c)|.agg cs=>.agg (cs.map (jV s bk))|.bw vs=>.bw (vs.map λp=>(p.1,p.2.map (jV s bk)))|.undef=>.undef
def ye(s:bp)(bk:List aC):List Nat→List (Nat×aP)
 |[]=>[]|t::ts=>match(s.aE (.tmp t)).v with|.undef=>ye s bk ts|v=>(t,vE s bk v)::ye s bk ts
def yf(s:bp)(bk:List aC):List aC→List (aC×List E)
 |[]=>[]|k::ks=>match(s.aE (.box k)).v with|.agg cs=>(k,cs.map (jV s bk))::yf s bk ks|_=>yf s bk ks
def gm(s:bp)(keys:List Nat)(bk:List aC):bH:={cj:=ye s bk keys,aI:=yf s bk bk,cH:=s.cH,cI:=s.cI}
theorem AY(k:aC)(bk:List aC):bk.any (gH k)=ab4 bk k:=by grind [lE]
def aaQ(s:bp)(bk:List aC)(c:E):ef (kj (dH s) bk (cE c)) (cE (jV s bk c)):=by
 have bj:∀(r:aO)(j hv cv k:Nat)(t:Ty)(xs:List t.T),ef (kj (dH s) bk (C.bj r j hv cv t.e k (xs.map (bf t)))) (cE (match(s.aE r).hv==hv&&(s.aE r).cv==cv with
  |true=>E.l (.bj r j 0 0 k) t xs|false=>.bK)):=by
  intro r j hv cv k t xs
  cases h:(s.aE r).hv==hv&&(s.aE r).cv==cv with|false=>exact .inr rfl|true=>simp only[ck,dL]at h;left;simp only[kj];rw[aF (show(dH s r).hv=hv∧(dH s r).cv=cv from h)];rfl
 cases c with
 |l m t xs=>
  cases m with|bj r j hv cv k=>exact bj r j hv cv k t xs|_=>exact .inl rfl
 |n m t o=>
  cases m with
  |bj r j hv cv k=>
   cases o with
   |none=>
    simp only[jV];cases(s.aE r).hv==hv&&(s.aE r).cv==cv with|true=>exact .inl rfl|false=>exact .inr rfl
   |some xs=>
    have:=bj r j hv cv k t xs;simp only[jV];revert this;cases(s.aE r).hv==hv&&(s.aE r).cv==cv with|true=>exact λh=>h|false=>exact λh=>h
  |_=>cases o<;>exact .inl rfl
 |aW k off=>
  simp only[jV,AY,cE,kj];cases h:ab4 bk k with|true=>left;simp only[bI]|false=>exact .inr rfl
 |dj f caps=>
  have e:(caps.all λp=>bk.any (gH p.1))=caps.all λp=>ab4 bk p.1:=by grind [AY]
  simp only[jV,e,cE,kj];cases h:caps.all λp=>ab4 bk p.1 with|true=>left;simp only[bI]|false=>exact .inr rfl
 |ea=>exact .inr rfl|hO b=>exact .inr rfl|it m t xs a=>cases m<;>first|exact .inl rfl|exact .inr rfl
 |_=>exact .inl rfl
def JU(s:bp)(bk:List aC):∀(cs:List E),aQ ef (jF (dH s) bk (aU cs)) (aU (cs.map (jV s bk)))|[]=>trivial|c::cs=>⟨aaQ s bk c,JU s bk cs⟩
def al5(s:bp)(bk:List aC)(v:aP):nw (jb (dH s) bk (aL v)) (aL (vE s bk v)):=by
 cases v with
 |one c=>exact aaQ s bk c|agg cs=>exact JU s bk cs|bw vs=>
  show aQ _ (uK (dH s) bk (ft vs)) (ft (vs.map λp=>(p.1,p.2.map (jV s bk))));induction vs with|nil=>trivial|cons p vs a=>exact⟨⟨rfl,JU s bk p.2⟩,a⟩
 |undef=>trivial
def DY(s:bp)(bk:List aC)(t:Nat):∀(ks:List Nat),cP t (ye s bk ks)=if t∈ks then vE s bk (s.aE (.tmp t)).v else .undef|[]=>rfl|u::ks=>by have a:=DY s bk t ks;grind [ye,cP,vE]
theorem vF(s:bp)(bk:List aC)(k:aC):∀(ks:List aC),cG k (yf s bk ks)=if k∈ks then(match(s.aE (.box k)).v with|.agg cs=>J (cs.map (jV s bk))|_=>O)else O|[]=>rfl|u::ks=>by have a:=vF s bk k ks;grind [yf,cG,lE]
def mE(bk:List aC):E→az|.i _ _|.b _|.tt|.ff|.s _|.nil|.cX _|.r _ _|.l .data _ _|.l .ak _ _|.n .data _ _|.n .ak _ _|.it .data _ _ _|.it .ak _ _ _=>W|.aW k _=>bk.any (gH k)|.dj _ caps=>caps.all λp=>bk.any (gH p.1)|_=>I
def DZ(bk:List aC)(A:List aP):az:=A.all λv=>v.cells.all (mE bk)
theorem aaR{bk:List aC}{c:E}(h:mE bk c=W)(s:St):kj s bk (cE c)=cE c:=by
 cases c with
 |l m t xs=>cases m<;>first|rfl|cases h
 |n m t o=>cases m<;>cases o<;>first|rfl|cases h
 |aW k off=>simp only[mE,AY]at h;simp only[cE,kj,h,bI]|dj f caps=>grind [AY,mE,cE,kj]|ea=>cases h
 |da=>cases h
 |hO b=>cases h
 |it m t xs a=>cases m<;>first|rfl|cases h
 |bK=>rfl|_=>rfl
theorem aaS{bk:List aC}{cs:List E}(h:cs.all (mE bk)=W)(s:St):jF s bk (aU cs)=aU cs:=by
 induction cs with|nil=>rfl|cons c cs a=>grind [jF,aU,aaR]
def al6{bk:List aC}{v:aP}(h:v.cells.all (mE bk)=W)(s:St):jb s bk (aL v)=aL v:=by
 cases v with
 |one c=>simp only[aP.cells,List.all_cons,List.all_nil,qX]at h;show SV.one _=_;rw[aaR h s];rfl|agg cs=>show SV.agg _=_;rw[aaS (cs:=cs) h s];rfl|bw vs=>
  show SV.bw (uK s bk (ft vs))=.bw (ft vs);congr 1;simp only[aP.cells]at h;induction vs with|nil=>rfl|cons p vs a=>grind [uK,ft,aaS]
 |undef=>rfl
def al7{bk:List aC}{v:aP}(h:v.cells.all (mE bk)=W)(j:Nat):(vh v j).cells.all (mE bk)=W:=by
 have a:∀(v:aP)(c:E),v.cells.all (mE bk)=W→mE bk c=W→(v.setCell j c).cells.all (mE bk)=W:=by
  intro v c hv f;have d:∀(cs:List E)(j:Nat),cs.all (mE bk)=W→(ly cs j c).all (mE bk)=W:=by
   intro cs;induction cs with
   |nil=>intro j h;simp[ly]
   |cons x cs e=>
    intro j h;simp only[List.all_cons,ck]at h;cases j with|zero=>simp_all [ly]|succ j=>grind [ly]
  cases v with
  |one x=>grind [aP.setCell,aP.cells]|agg cs=>exact d cs j hv|bw vs=>
   simp only[aP.setCell,aP.cells]at hv ⊢;induction vs generalizing j with|nil=>rfl|cons p vs e=>let⟨b,cs⟩:=p;simp only[List.flatMap_cons,List.all_append,ck]at hv;simp only[Dk];split;grind;simp only[List.flatMap_cons,List.all_append,ck];exact⟨hv.1,e _ hv.2⟩
  |undef=>exact hv
 unfold vh;split;exact a v _ h rfl;exact a v _ h rfl;exact a v _ h rfl;exact h
def aaT{bk:List aC}:∀(l:List (Nat×Nat))(A:List aP),DZ bk A=W→DZ bk (jd l A)=W
 |[],A,h=>h|(i,j)::r,A,h=>by
  simp only[jd];refine aaT r _ ?_;have a:∀v∈A,v.cells.all (mE bk)=W:=List.all_eq_true.1 h;rw[tf];refine List.all_eq_true.2 λv hv=>?_;rcases List.mem_or_eq_of_mem_set hv with hv|rfl
  exact a v hv;refine al7 ?_ j;rw[List.getD_eq_getElem?_getD];cases hi:A[i]? with|none=>rfl|some x=>grind
section
variable{K:dh}{A:List aP}{a:Act}{w:World}
def QG{s:bp}(c:s.args=A)(j:K.argv.size=Y A){keys:List Nat}{bk:List aC}(e:DZ bk A=W)(f:∀k b,K.kn k=J b→k∈bk)(h:Vs.gG K (dH s) a w):dI K (dP A (gm s keys bk)) a w:=by
 let⟨β,ω,Z,h⟩:=h;let⟨g,m⟩:=h.fin keys bk j.symm f;refine⟨⟨g,ω,Z,aY.weak m (λr=>⟨ab0 (sV _ r).1 (sV _ r).1.symm,ab0 (sV _ r).2 (sV _ r).2.symm⟩) (λt=>?_) (λk=>?_) λi=>?_⟩,ab0 (aaP A _) j.symm⟩;rw[JR,Y0];simp only[gm];rw[DY];split;exact al5 s bk _;trivial;rw[JS,Y1];simp only[gm];rw[vF];have hv:(dH s (.box k)).v=aL (s.aE (.box k)).v:=rfl;split;cases l:(s.aE (.box k)).v with
 |agg cs=>rw[hv,l];exact⟨JU s bk cs,λh=>by cases h⟩
 |_=>rw[hv,l];exact⟨trivial,λ_=>rfl⟩
 exact⟨trivial,λ_=>rfl⟩;rw[JT,Y2];have n:(dH s (.bN i)).v=aL (H (jd s.cH A) i .undef):=by rw[←c];rfl
 have d:=aaT s.cH A e;split;rw[n];refine(al6 ?_ _).symm;show((H (jd s.cH A) i .undef).cells.all (mE bk))=W;rw[List.getD_eq_getElem?_getD];cases hi:(jd s.cH A)[i]? with|none=>rfl|some x=>exact List.all_eq_true.1 d x (List.mem_of_getElem? hi)
 simp_all [aL,QE]
end
abbrev eO:=M (aO×Q (M az))
def jI(r:aO)(d:eO):az:=d.any λe=>iq r e.1
def whole(r:aO)(d:eO):az:=d.any λe=>iq r e.1&&e.2.isNone
def part(r:aO)(j:U)(d:eO):az:=d.any λe=>iq r e.1&&(match e.2 with|some m=>H m j I|none=>W)
def dq:E→E|.l (.bj q j _ _ k) t xs=>.l (.bj q j 0 0 k) t xs|.n (.bj q j _ _ k) t o=>.n (.bj q j 0 0 k) t o|c=>c
def al8(c:E):dq (dq c)=dq c:=by
 cases c with
 |l m t xs=>cases m<;>rfl
 |n m t o=>cases m<;>rfl
 |_=>rfl
def eg(c c':E):Prop:=c'=c∨c'=dq c∨c'=.bK
theorem eg.same(c:E):eg c c:=.inl rfl
theorem eg.trans{a b c:E}(h:eg a b)(d:eg b c):eg a c:=by
 rcases h with rfl|rfl|rfl
 exact d;rcases d with rfl|rfl|rfl
 exact .inr (.inl rfl);exact .inr (.inl (al8 a));exact .inr (.inr rfl);rcases d with rfl|rfl|rfl<;>exact .inr (.inr rfl)
def l7:E→az|.bK=>I|.l (.bj _ _ hv cv _) _ _=>hv==0&&cv==0|.n (.bj _ _ hv cv _) _ _=>hv==0&&cv==0|_=>W
def al9{c:E}(h:l7 c=W):dq c=c:=by
 cases c with
 |l m t xs=>
  cases m with
  |bj q j hv cv k=>simp only[l7,ck,dL]at h;obtain⟨rfl,rfl⟩:=h;rfl
  |_=>rfl
 |n m t xs=>
  cases m with
  |bj q j hv cv k=>simp only[l7,ck,dL]at h;obtain⟨rfl,rfl⟩:=h;rfl
  |_=>rfl
 |_=>rfl
def QH{c a:E}(h:eg c a)(b:l7 a=W):a=dq c:=by
 rcases h with rfl|rfl|rfl
 exact(al9 b).symm;rfl;cases b
def aaU{c a b:E}(h:eg c a)(d:eg c b)(e:l7 a=W)(f:l7 b=W):a=b:=ab0 (QH h e) (QH d f).symm
def hX:aP→aP→Prop|_,.undef=>dK|.one c,.one d=>eg c d|.agg cs,.agg a=>aQ eg cs a|.bw vs,.bw b=>aQ (λp q=>p.1=q.1∧aQ eg p.2 q.2) vs b|_,_=>jn
theorem aQ.same{α:Type}{R:α→α→Prop}(h:∀a,R a a):∀(l:M α),aQ R l l|[]=>trivial|a::l=>⟨h a,aQ.same h l⟩
theorem hX.same(v:aP):hX v v:=by
 cases v with|one c=>exact eg.same c|agg cs=>exact aQ.same eg.same cs|bw vs=>exact aQ.same (λp=>⟨rfl,aQ.same eg.same p.2⟩) vs|undef=>trivial
theorem hX.trans{a b c:aP}(h:hX a b)(d:hX b c):hX a c:=by
 cases c with
 |undef=>trivial|one z=>cases b<;>first|exact ab1 d|(cases a<;>first|exact ab1 h|exact eg.trans h d)
 |agg z=>cases b<;>first|exact ab1 d|(cases a<;>first|exact ab1 h|exact aQ.comp (R:=eg) (S:=eg) (U:=eg) (λ_ _ _ h1 h2=>eg.trans h1 h2) h d)
 |bw z=>cases b<;>first|exact ab1 d|(cases a<;>first|exact ab1 h|exact aQ.comp (λ_ _ _ h1 h2=>⟨ab0 h1.1 h2.1,aQ.comp (R:=eg) (S:=eg) (U:=eg) (λ_ _ _ h1 h2=>eg.trans h1 h2) h1.2 h2.2⟩) h d)
def pu(k:aC)(d:eO)(v b:aP):Prop:=b=.undef∨∃cs a,v=.agg cs∧b=.agg a∧Y cs=Y a∧∀j,part (.box k) j d=I→∀e,a[j]?=J e→∃c,cs[j]?=J c∧eg c e
def eP(d:eO)(s s':bp):Prop:=(∀t,jI (.tmp t) d=I→hX (s.aE (.tmp t)).v (s'.aE (.tmp t)).v)∧(∀k,whole (.box k) d=I→pu k d (s.aE (.box k)).v (s'.aE (.box k)).v)
def JV(r:aO)(l d:eO):jI r (l++d)=(jI r l||jI r d):=by simp[jI,ahN]
def QI(r:aO)(l d:eO):whole r (l++d)=(whole r l||whole r d):=by simp[whole,ahN]
def JW(r:aO)(j:U)(l d:eO):part r j (l++d)=(part r j l||part r j d):=by simp[part,ahN]
def qr(s:bp):Prop:=∀k,(s.aE (.box k)).v=.undef∨∃cs,(s.aE (.box k)).v=.agg cs
theorem pu.same{k:aC}{d:eO}{v:aP}(h:v=.undef∨∃cs,v=.agg cs):pu k d v v:=by
 rcases h with h|⟨cs,h⟩
 exact .inl h;exact .inr ⟨cs,cs,h,h,rfl,λj _ c a=>⟨c,a,eg.same c⟩⟩
def eP.more{d l:eO}{s s':bp}(h:eP d s s'):eP (l++d) s s':=by
 refine⟨λt b=>h.1 t ?_,λk hk=>?_⟩;rw[JV,qZ]at b;exact b.2;rw[QI,qZ]at hk;rcases h.2 k hk.2 with h|⟨cs,a,e,f,g,i⟩
 exact .inl h;refine .inr ⟨cs,a,e,f,g,λj c=>i j ?_⟩;rw[JW,qZ]at c;exact c.2
theorem eP.trans{d:eO}{s b s2:bp}(h:eP d s b)(c:eP d b s2):eP d s s2:=by
 refine⟨λt e=>hX.trans (h.1 t e) (c.1 t e),λk hk=>?_⟩;rcases c.2 k hk with g|⟨ds,a,f1,f2,f3,f4⟩
 exact .inl g;rcases h.2 k hk with g|⟨cs,f,i,l,m,o⟩
 rw[g]at f1;cases f1;rw[l]at f1;cases f1;refine .inr ⟨cs,a,i,f2,ab0 m f3,λj p q n=>?_⟩;grind [eg.trans]
theorem JX{r q:aO}(h:iq q r=I):q≠r:=by grind [vw]
theorem eP.dX{d:eO}{s s':bp}(b:qr s)(h:∀r,r.isArg=I→jI r d=I→s'.aE r=s.aE r)(hp:∀k,whole (.box k) d=I→jI (.box k) d=W→pu k d (s.aE (.box k)).v (s'.aE (.box k)).v):eP d s s':=by
 refine⟨λt a=>by rw[h (.tmp t) rfl a];exact hX.same _,λk hk=>?_⟩;cases a:jI (.box k) d with|false=>rw[h (.box k) rfl a];exact pu.same (b k)|true=>exact hp k hk a
theorem aaV:∀(cs:M E)(os:M (Q E))(j:U),H (os.map Cr) j I=I→(fg cs os)[j]?=cs[j]?|[],os,j,_=>by simp[fg]|c::cs,[],j,_=>by simp[fg]|c::cs,o::os,0,h=>by simp_all [fg]|c::cs,o::os,j+1,h=>by simp only[fg,qU];exact aaV cs os j (by simpa using h)
def aaW:∀(cs:M E)(os:M (Q E)),Y (fg cs os)=Y cs|[],os=>by simp[fg]|c::cs,[]=>by simp[fg]|c::cs,o::os=>by simp[fg,aaW cs os]
def hY(s s':bp):Prop:=qr s'∧s'.args=s.args∧∃l,s'.cI=l++s.cI∧eP s'.cI s s'
theorem hY.trans{s a s2:bp}(h:hY s a)(b:hY a s2):hY s s2:=by let⟨j,c,d,k,k1⟩:=h;let⟨e,f,g,i,k2⟩:=b;refine⟨e,ab0 f c,g++d,by grind,eP.trans ?_ k2⟩;rw[i];exact k1.more
theorem hY.same{s:bp}(h:qr s):hY s s:=⟨h,rfl,[],rfl,eP.dX h (λ_ _ _=>rfl) λk _ _=>pu.same (h k)⟩
theorem hY.put{s:bp}(h:qr s){r:aO}{x:dU}(a:r.isArg=I)(hx:(∃t,r=.tmp t)∨∃cs,x.v=.agg cs):hY s (s.put r x):=by refine⟨λk=>?_,rfl,[(r,O)],rfl,eP.dX h (λq _ hd=>?_) λk h1 h2=>?_⟩;rw[AP s x a];split;grind;exact h k;rw[AP s x a,aV];have:jI q ((r,O)::s.cI)=(iq q r||jI q s.cI):=rfl;have hd:jI q ((r,O)::s.cI)=I:=hd;simp_all [JX];rw[AP s x a];have h1:whole (.box k) ((r,O)::s.cI)=I:=h1;have b:whole (.box k) ((r,O)::s.cI)=((iq (.box k) r&&W)||whole (.box k) s.cI):=rfl;rw[b,qZ,qX]at h1;rw[aV (JX h1.1)];exact pu.same (h k)
theorem hY.gI{s:bp}(h:qr s)(r:aO)(b:az):hY s (s.gI r b):=by
 cases r with
 |tmp t=>have:=hY.put (s:=s) h (r:=.tmp t) (x:={gl (.tmp t) s.m with v:=.one (kb b)}) rfl (.inl ⟨t,rfl⟩);exact this
 |_=>exact hY.same h
def hY.cH{s:bp}(h:qr s)(i j:U):hY s {s with cH:=s.cH++[(i,j)],cI:=(.bN i,O)::s.cI}:=⟨λk=>h k,rfl,[(.bN i,O)],rfl,eP.dX h (λq a _=>by cases q<;>first|rfl|cases a) λk _ _=>pu.same (h k)⟩
def hY.wr{s:bp}(h:qr s)(k:aC)(os:M (Q E)):hY s (s.wr k os):=by
 rcases h k with g|⟨cs,a⟩
 have i:(gl (.box k) s.m).v=.undef:=g;have c:∀q,q.isArg=I→((s.wr k os).aE q).v=(s.aE q).v∧(iq q (.box k)=I→(s.wr k os).aE q=s.aE q):=by
  intro q b;have key:∀q,gl q (s.wr k os).m=if q=.box k then{hv:=(gl (.box k) s.m).hv+1,cv:=(gl (.box k) s.m).cv,v:=match(gl (.box k) s.m).v with|.agg cs=>.agg (fg cs os)|v=>v}else gl q s.m:=λq=>vy (.box k) _ q s.m
  have:(s.wr k os).aE q=gl q (s.wr k os).m:=by cases q<;>first|rfl|cases b
  have n:s.aE q=gl q s.m:=by cases q<;>first|rfl|cases b
  grind [vw]
 refine⟨λq=>?_,rfl,[(.box k,J (os.map Cr))],rfl,eP.dX h (λq b hd=>?_) λq h1 h2=>?_⟩;rw[(c (.box q) rfl).1];exact h q;have d:jI q (s.wr k os).cI=(iq q (.box k)||jI q s.cI):=rfl;grind;rw[(c (.box q) rfl).1];exact pu.same (h q);refine⟨λq=>?_,rfl,[(.box k,J (os.map Cr))],rfl,eP.dX h (λq _ hd=>?_) λq h1 h2=>?_⟩;rw[DF s k os _ a];split;exact .inr ⟨_,rfl⟩;exact h q;rw[DF s k os _ a,aV];have d:jI q (s.wr k os).cI=(iq q (.box k)||jI q s.cI):=rfl;grind [JX];rw[DF s k os _ a];split;rename_i e;cases e;refine .inr ⟨cs,fg cs os,a,rfl,adJ (aaW cs os),λj o f l=>⟨f,?_,eg.same f⟩⟩;have d:part (.box k) j (s.wr k os).cI=((iq (.box k) (.box k)&&H (os.map Cr) j I)||part (.box k) j s.cI):=rfl;grind [vw,aaV];exact pu.same (h q)
def aaX{α:Type}(p:PE α):∀(s:bp),qr s→(p.cV s).eJ λx=>hY s x.2.1:=by
 induction p with
 |ret a=>intro s h;exact hY.same h
 |ai=>intro s h;trivial
 |br c t e g l=>intro s h;exact⟨g s h,l s h⟩
 |call d o k f=>intro s h;exact λx=>f x s h
 |aE r k f=>simp_all [PE.cV,Tr.lD]|put r x k f=>
  intro s h;simp only[PE.cV];cases hp:xW r x with
  |false=>trivial|true=>
   simp only[Tr.lD];(have m:r.isArg=I:=by cases r<;>first|rfl|(simp[xW]at hp));have n:(∃t,r=.tmp t)∨∃cs,x.v=.agg cs:=by
    cases r with
    |tmp t=>exact .inl ⟨t,rfl⟩|box k=>
     cases hv:x.v with|agg cs=>grind|_=>simp[xW,hv]at hp
    |bN i=>cases m
   have h1:=hY.put h m n;exact Tr.hV (λy hy=>hY.trans h1 hy) (f _ h1.1)
 |cH i j k f=>intro s h;simp only[PE.cV,Tr.lD];have h1:=hY.cH h i j;exact Tr.hV (λy hy=>hY.trans h1 hy) (f _ h1.1)
 |gI r b k f=>intro s h;have h1:=hY.gI h r b;exact Tr.hV (λy hy=>hY.trans h1 hy) (f _ h1.1)
 |wr q os k f=>intro s h;simp only[PE.cV,Tr.lD];have h1:=hY.wr h q os;exact Tr.hV (λy hy=>hY.trans h1 hy) (f _ h1.1)
def JY(af:eW)(b:bW cS):∀(l:M cS)(s:bp),qr s→(rM af b l s).eJ λx=>hY s x.1|[],s,h=>hY.same h|o::r,s,h=>by simp only[rM];rw[Tr.kI];refine Tr.hV ?_ (aaX (Jv af b o) s h);rintro ⟨a,s',f,g⟩ h1;rw[Tr.kI];refine Tr.hV ?_ (JY af b r s' h1.1);rintro ⟨c,l⟩ h2;exact hY.trans h1 h2
def qt(A:M aP)(p:bH):qr (cy A p):=by intro k;grind [kW]
theorem QJ(s:bp)(bk:M aC)(c:E):eg c (jV s bk c):=by
 have dd:∀(b:az)(x y:E),(x=y∨x=dq y)→eg y (match b with|true=>x|false=>.bK):=by
  intro b x y h;cases b with
  |true=>rcases h with rfl|rfl<;>first|exact .inl rfl|exact .inr (.inl rfl)
  |false=>exact .inr (.inr rfl)
 cases c with
 |l m t xs=>cases m<;>first|exact .inl rfl|exact dd _ _ _ (.inr rfl)
 |n m t xs=>cases m<;>first|exact .inl rfl|exact dd _ _ _ (.inr rfl)
 |aW k off=>exact dd _ _ _ (.inl rfl)|dj f caps=>exact dd _ _ _ (.inl rfl)|ea=>exact .inr (.inr rfl)|hO b=>exact .inr (.inr rfl)|it m t xs a=>cases m<;>first|exact .inl rfl|exact .inr (.inr rfl)
 |_=>exact .inl rfl
def QK(s:bp)(bk:M aC):∀(cs:M E),aQ eg cs (cs.map (jV s bk))|[]=>trivial|c::cs=>⟨QJ s bk c,QK s bk cs⟩
def ama(s:bp)(bk:M aC)(v:aP):hX v (vE s bk v):=by
 cases v with
 |one c=>exact QJ s bk c|agg cs=>exact QK s bk cs|bw vs=>
  show aQ _ vs (vs.map λp=>(p.1,p.2.map (jV s bk)));induction vs with|nil=>trivial|cons p vs a=>exact⟨⟨rfl,QK s bk p.2⟩,a⟩
 |undef=>trivial
def yg(A:M aP)(s:bp)(a:qr s)(keys:M U)(bk:M aC)(d:eO):eP d s (cy A (gm s keys bk)):=by
 refine⟨λt _=>?_,λk _=>?_⟩;rw[oF];simp only[gm];rw[DY];split;exact ama s bk _;trivial;rw[kW];simp only[gm];rw[vF];rcases a k with h|⟨cs,h⟩
 rw[h];left;grind;rw[h];by_cases hk:k∈bk;rw[aF hk];refine .inr ⟨cs,_,rfl,rfl,by simp,λj _ c b=>?_⟩;grind [QJ];rw[aV hk];exact .inl rfl
def D0(c:Bool)(a b:E):E:=
 match a,b with|.tt,.tt=>.tt|.ff,.ff=>.ff|.tt,.ff=>.b c|.ff,.tt=>.b (!c)|.tt,.b y=>.b (c||y)|.b x,.ff=>.b (c&&x)|.ff,.b y=>.b (!c&&y)|.b x,.tt=>.b (!c||x)|.b x,.b y=>.b (if c=W then x else y)|_,_=>.bK
def yh(c:Bool)(a b:E):E:=
 match a,b with|.i k a,.i k' b=>if k=k' then .i k (if c=W then a else b)else .bK|.s a,.s b=>.s (if c=W then a else b)|.l m t xs,.l d e ys=>if m=d then(if h:e=t then .l m t (if c=W then xs else h▸ys)else .bK)else .bK|.n m t o,.n d e g=>if m=d then(if h:e=t then .n m t (if c=W then o else h▸g)else .bK)else .bK|.n m t o,.l d e ys=>if m=d then(if h:e=t then .n m t (if c=W then o else J (h▸ys))else .bK)else .bK|.l m t xs,.n d e g=>if m=d then(if h:e=t then .n m t (if c=W then J xs else h▸g)else .bK)else .bK|.n m t o,.nil=>.n m t (if c=W then o else O)|.nil,.n m t o=>.n m t (if c=W then O else o)|.l m t xs,.nil=>.n m t (if c=W then J xs else O)|.nil,.l m t xs=>.n m t (if c=W then O else J xs)|.nil,.nil=>.nil|.cX k,.cX k'=>if k=k' then .cX k else .bK|.r u ps,.r p j=>if u=p then .r u (if c=W then ps else j)else .bK|.aW k o,.aW k' g=>if k=k'∧o=g then .aW k o else .bK|.dj f l,.dj q v=>if f=q∧l=v then .dj f l else .bK|a,b=>D0 c a b
def amb(a b:E):ef (cE a) (cE (D0 W a b)):=by unfold D0;split<;>first|exact .inl rfl|exact .inr rfl
def amc(a b:E):ef (cE b) (cE (D0 I a b)):=by unfold D0;split<;>first|exact .inl rfl|exact .inr rfl
theorem aaY(a b:E):ef (cE a) (cE (yh W a b)):=by
 unfold yh;repeat' split
 all_goals first|exact .inl rfl|exact .inr rfl|exact cO rfl ‹¬ W=W› |exact amb _ _
def aaZ(a b:E):ef (cE b) (cE (yh I a b)):=by
 unfold yh;repeat' split
 all_goals first|exact .inl rfl|exact .inr rfl|exact cO ‹I=W› (by decide)|exact amc _ _|(subst_vars;exact .inl rfl)|(rename_i h;obtain⟨rfl,rfl⟩:=h;exact .inl rfl)
def qu(a b:E):E:=match l7 a&&l7 b with|true=>a|false=>.bK
def D6(f:E→E→E):List E→List E→List E|a::as,b::c=>f a b::D6 f as c|_,_=>[]
def oG(f:E→E→E)(v u:aP):aP:=
 match v,u with
 |.one a,.one b=>.one (f a b)|.agg as,.agg c=>match Y as==Y c with|true=>.agg (D6 f as c)|false=>.undef
 |_,_=>.undef
theorem aa0(a b:E):eg a (qu a b):=by unfold qu;split<;>first|exact .inl rfl|exact .inr (.inr rfl)
theorem aa1(a b:E):ef (cE a) (cE (qu a b)):=by unfold qu;split<;>first|exact .inl rfl|exact .inr rfl
def QL{c a b:E}(h:eg c a)(e:eg c b):ef (cE b) (cE (qu a b)):=by unfold qu;split;rename_i d;simp only[Bool.and_eq_true]at d;rw[aaU h e d.1 d.2];exact .inl rfl;exact .inr rfl
def QM{f:E→E→E}{R:E→E→Prop}(d:∀a b,R a (f a b)):∀(as c:List E),Y as=Y c→aQ R as (D6 f as c)|[],[],_=>trivial|a::as,b::c,h=>⟨d a b,QM d as c (by simpa using h)⟩|[],_::_,h=>by simp at h|_::_,[],h=>by simp at h
def aa2{f:E→E→E}{R:E→E→Prop}(d:∀a b,R b (f a b)):∀(as c:List E),Y as=Y c→aQ R c (D6 f as c)|[],[],_=>trivial|a::as,b::c,h=>⟨d a b,aa2 d as c (by simpa using h)⟩|[],_::_,h=>by simp at h|_::_,[],h=>by simp at h
theorem aQ.gn{R:C→C→Prop}:∀{as c:List E},aQ (λa b=>R (cE a) (cE b)) as c→aQ R (aU as) (aU c)|[],[],_=>trivial|_::_,_::_,h=>⟨h.1,aQ.gn h.2⟩
theorem amd{f:E→E→E}(c:∀a b,ef (cE a) (cE (f a b)))(v u:aP):nw (aL v) (aL (oG f v u)):=by unfold oG;split;exact c _ _;split;rename_i h;exact aQ.gn (QM c _ _ (by simpa using h));trivial;trivial
def ame{f:E→E→E}(c:∀a b,eg a (f a b))(v u:aP):hX v (oG f v u):=by unfold oG;split;exact c _ _;split;rename_i h;exact QM c _ _ (by simpa using h);trivial;trivial
def amf{f:E→E→E}(c:∀a b,ef (cE b) (cE (f a b)))(v u:aP):nw (aL u) (aL (oG f v u)):=by unfold oG;split;exact c _ _;split;rename_i h;exact aQ.gn (aa2 c _ _ (by simpa using h));trivial;trivial
def amg{cs:List E}:∀{as d:List E},aQ eg cs as→aQ eg cs d→aQ (λb x=>ef (cE b) (cE x)) d (D6 qu as d):=by
 induction cs with
 |nil=>intro as d h1 h2;cases as<;>cases d<;>first|trivial|exact h1.elim|exact h2.elim
 |cons c cs e=>
  intro as d h1 h2;cases as with
  |nil=>exact ab1 h1|cons a as=>
   cases d with|nil=>exact ab1 h2|cons b d=>exact⟨QL h1.1 h2.1,e h1.2 h2.2⟩
def amh{v0 v u:aP}(h:hX v0 v)(a:hX v0 u):nw (aL u) (aL (oG qu v u)):=by
 unfold oG;split;cases v0 with|one c=>exact QL h a|_=>exact ab1 h
 split;cases v0 with|agg cs=>exact aQ.gn (amg h a)|_=>exact ab1 h
 trivial;trivial
def D7(c:Bool)(d:eO)(q:bH):List (U×aP)→List (U×aP)
 |[]=>[]|(t,v)::r=>(t,match jI (.tmp t) d with|true=>oG (yh c) v (cP t q.cj)|false=>oG qu v (cP t q.cj))::D7 c d q r
def qv(c:Bool)(d:eO)(k:aC):U→List E→List E→List E
 |j,a::as,b::e=>(match whole (.box k) d||part (.box k) j d with|true=>yh c a b|false=>qu a b)::qv c d k (j+1) as e
 |_,_,_=>[]
def JZ(c:Bool)(d:eO)(q:bH):List (aC×List E)→List (aC×List E)
 |[]=>[]|(k,as)::r=>(k,match cG k q.aI with
  |some a=>(match Y as==Y a with|true=>qv c d k 0 as a|false=>as.map λ_=>.bK)
  |none=>as.map λ_=>.bK)::JZ c d q r
def mF(A:List aP)(aB bk:List aC):Bool:=DZ bk A&&aB.all λk=>bk.any (gH k)
def hasB(k:aC)(p:bH):Bool:=match cG k p.aI with|some _=>W|none=>I
def ami(bk:List aC)(p q:bH):Bool:=bk.all λk=>match cG k p.aI,cG k q.aI with|some as,J a=>Y as==Y a|_,_=>I
def merge(A:List aP)(aB:List aC)(c:Bool)(p q:bH):Q bH:=let bk:=(p.aI.map (·.1)).filter λk=>hasB k q
 match decide (p.cH=q.cH)&&mF A aB bk&&ami bk p q with|true=>let d:=p.cI++q.cI;let a:=gm (cy A p) (p.cj.map (·.1)) bk;let b:=gm (cy A q) (q.cj.map (·.1)) bk;J {cj:=D7 c d b a.cj,aI:=JZ c d b a.aI,cH:=p.cH,cI:=d}|false=>O
theorem J0(c:Bool)(d:eO)(q:bH)(t:U):∀(l:List (U×aP)),cP t (D7 c d q l)=match jI (.tmp t) d with|true=>oG (yh c) (cP t l) (cP t q.cj)|false=>oG qu (cP t l) (cP t q.cj)
 |[]=>by grind [D7,cP,oG]|(u,v)::r=>by
  simp only[D7,cP];cases h:t==u with|true=>grind|false=>exact J0 c d q t r
theorem J1(c:Bool)(d:eO)(q:bH)(k:aC):∀(l:List (aC×List E)),cG k (JZ c d q l)=match cG k l with
  |some as=>J (match cG k q.aI with
   |some a=>(match Y as==Y a with|true=>qv c d k 0 as a|false=>as.map λ_=>.bK)
   |none=>as.map λ_=>.bK)
  |none=>O
 |[]=>rfl|(u,v)::r=>by
  simp only[JZ,cG];cases h:gH k u with|true=>simp_all [lE]|false=>exact J1 c d q k r
def aa3(c:Bool)(d:eO)(k:aC):∀(as e:List E)(j:U),Y as=Y e→Y (qv c d k j as e)=Y as|[],[],_,_=>rfl|a::as,b::e,j,h=>by simp[qv,aa3 c d k as e (j+1) (by simpa using h)]|[],_::_,_,h=>by simp at h|_::_,[],_,h=>by simp at h
theorem aa4{c:Bool}(f:c=W)(d:eO)(k:aC):∀(as e:List E)(j:U),Y as=Y e→aQ (λa x=>ef (cE a) (cE x)) as (qv c d k j as e)|[],[],_,_=>trivial|a::as,b::e,j,h=>by refine⟨?_,aa4 f d k as e (j+1) (by simpa using h)⟩;grind [aaY,aa1]|[],_::_,_,h=>by simp at h|_::_,[],_,h=>by simp at h
def aa5{c:Bool}(g:c=I)(d:eO)(k:aC):∀(as e:List E)(j:U),Y as=Y e→(∀i,whole (.box k) d=I→part (.box k) (j+i) d=I→∀a b,as[i]?=J a→e[i]?=J b→∃x,eg x a∧eg x b)→aQ (λb x=>ef (cE b) (cE x)) e (qv c d k j as e)
 |[],[],_,_,_=>trivial|a::as,b::e,j,h,hk=>by refine⟨?_,aa5 g d k as e (j+1) (by simpa using h) λi h1 h2 x y l hy=>hk (i+1) h1 (by grind) x y (by simpa using l) (by simpa using hy)⟩;split;subst g;exact aaZ a b;rename_i f;rw[Bool.or_eq_false_iff]at f;let⟨x,h1,h2⟩:=hk 0 f.1 (by simpa using f.2) a b rfl rfl;exact QL h1 h2
 |[],_::_,_,h,_=>by simp at h|_::_,[],_,h,_=>by simp at h
def aa6(c:Bool)(d:eO)(k:aC):∀(as e:List E)(j i:U)(x:E),Y as=Y e→whole (.box k) d=I→part (.box k) (j+i) d=I→(qv c d k j as e)[i]?=J x→∃a,as[i]?=J a∧eg a x|[],[],_,i,x,_,_,_,h=>by simp[qv]at h|a::as,b::e,j,0,x,f,g,hp,h=>by grind [qv,aa0]|a::as,b::e,j,i+1,x,f,g,hp,h=>by simp only[qv,List.getElem?_cons_succ]at h ⊢;exact aa6 c d k as e (j+1) i x (by simpa using f) g (by grind) h|[],_::_,_,_,_,h,_,_,_=>by simp at h|_::_,[],_,_,_,h,_,_,_=>by simp at h
theorem aa7{cs cs':List E}(h:aQ (λa x=>ef (cE a) (cE x)) cs cs'):aQ ef (aU cs) (aU cs'):=aQ.gn h
section
variable{K:dh}{A:List aP}{aB:List aC}{a:Act}{w:World}{p0:bp}{c:Bool}{p q m:bH}
structure jy(K:dh)(A:List aP)(aB:List aC):Prop where
 size:K.argv.size=Y A
 keys:∀k b,K.kn k=some b→k∈aB
def jy.bk(a:jy K A aB){bk:List aC}(h:mF A aB bk=W):DZ bk A=W∧∀k b,K.kn k=J b→k∈bk:=by simp only[mF,Bool.and_eq_true]at h;refine⟨h.1,λk b hk=>?_⟩;have:=List.all_eq_true.1 h.2 k (a.keys k b hk);simp_all [AY]
theorem dI.gm(c:jy K A aB){bk:List aC}(b:mF A aB bk=W)(keys:List U)(h:dI K (dP A p) a w):dI K (dP A (gm (cy A p) keys bk)) a w:=by let⟨h1,h2⟩:=c.bk b;refine QG rfl c.size h1 h2 ?_;rw[DX];exact h.1
def aY.AZ{p b:bH}(d:K.argv.size=Y A)(h:dI K (dP A p) a w)(c:b.cH=p.cH)(f:∀t,nw (aL (cP t p.cj)) (aL (cP t b.cj))) (e:∀k,match cG k p.aI,cG k b.aI with|some cs,J cs'=>aQ ef (aU cs) (aU cs')|none,O=>dK|_,_=>jn):dI K (dP A b) a w:=by
 let⟨⟨β,ω,Z,h⟩,_⟩:=h;refine⟨⟨β,ω,Z,aY.weak h (λr=>⟨ab0 (sV _ r).1 (sV _ r).1.symm,ab0 (sV _ r).2 (sV _ r).2.symm⟩) (λt=>by grind [JR]) (λk=>?_) λi=>by rw[JT,JT,c]⟩,ab0 (aaP A _) d.symm⟩;rw[JS,JS];have:=e k;cases h1:cG k p.aI with
 |none=>
  cases h2:cG k b.aI with|none=>exact⟨trivial,λ_=>rfl⟩|some cs'=>grind
 |some cs=>
  cases h2:cG k b.aI with|none=>grind|some cs'=>rw[h1,h2]at this;exact⟨this,λh=>by cases h⟩
def amj(C:jy K A aB)(hp:eP p.cI p0 (cy A p))(Y:eP q.cI p0 (cy A q))(hm:merge A aB c p q=J m):(c=W→dI K (dP A p) a w→dI K (dP A m) a w)∧(c=I→dI K (dP A q) a w→dI K (dP A m) a w)∧eP m.cI p0 (cy A m)∧m.cI=p.cI++q.cI:=by
 unfold merge at hm;generalize Z:((p.aI.map (·.1)).filter λk=>hasB k q)=bk at hm;simp only at hm;split at hm;rename_i R;simp only[Bool.and_eq_true,eY]at R;let⟨⟨r,s⟩,u⟩:=R;cases hm;have hd:eP (p.cI++q.cI) p0 (cy A (gm (cy A p) (p.cj.map (·.1)) bk)):=by
  refine eP.trans ?_ (yg A _ (qt A p) _ _ _);refine⟨λt f=>hp.1 t ?_,λk hk=>?_⟩;rw[JV,Bool.or_eq_false_iff]at f;exact f.1;rw[QI,Bool.or_eq_false_iff]at hk;rcases hp.2 k hk.1 with h|⟨cs,l,D,v,E,G⟩
  exact .inl h;refine .inr ⟨cs,l,D,v,E,λj H=>G j ?_⟩;rw[JW,Bool.or_eq_false_iff]at H;exact H.1
 have z:eP (p.cI++q.cI) p0 (cy A (gm (cy A q) (q.cj.map (·.1)) bk)):=eP.trans Y.more (yg A _ (qt A q) _ _ _);generalize n:gm (cy A p) (p.cj.map (·.1)) bk=S at *;generalize o:gm (cy A q) (q.cj.map (·.1)) bk=T at *;have g:∀k,(∃as e,cG k S.aI=J as∧cG k T.aI=J e∧as.length=e.length)∨(cG k S.aI=O∧cG k T.aI=O):=by intro k;rw[←n,←o];simp only[gm];rw[vF,vF,kW,kW];by_cases hk:k∈bk;rw[aF hk,aF hk];have:=List.all_eq_true.1 u k hk;grind;grind
 refine⟨λhct N=>?_,λB N=>?_,?_,rfl⟩;have b:=dI.gm C s (p.cj.map (·.1)) N;rw[n]at b;refine aY.AZ C.size b (by rw[←n];rfl) (λt=>?_) λk=>?_;grind [J0,amd,aaY,aa1];grind [J1,aa7,aa4];have b:=dI.gm C s (q.cj.map (·.1)) N;rw[o]at b;refine aY.AZ C.size b (by rw[←o];exact r) (λt=>?_) λk=>?_;simp only;rw[J0];split;subst B;exact amf aaZ _ _;rename_i f;have h1:=hd.1 t f;have h2:=z.1 t f;rw[oF]at h1 h2;exact amh h1 h2;simp only;rw[J1];rcases g k with⟨as,e,h1,h2,h3⟩|⟨h1,h2⟩
 rw[h1,h2];simp only;rw[show(as.length==e.length)=W by simpa using h3];refine aa7 (aa5 B _ k as e 0 h3 λi V P x y X hy=>?_);rw[wZ]at P;have d:=hd.2 k V;have F:=z.2 k V;rw[kW,h1]at d;rw[kW,h2]at F;rcases d with d|⟨cs,l,D,v,E,G⟩
 cases d;cases v;rcases F with F|⟨ds,ds',f1,f2,f3,f4⟩
 cases F;grind;rw[h1,h2];trivial;refine⟨λt f=>?_,λk hk=>?_⟩;rw[oF];simp only;rw[J0,f];have:=hd.1 t f;rw[oF]at this;exact hX.trans this (ame aa0 _ _);rw[kW];simp only;rw[J1];have d:=hd.2 k hk;rw[kW]at d;rcases g k with⟨as,e,h1,h2,h3⟩|⟨h1,h2⟩
 rw[h1,h2];rw[h1]at d;simp only;rw[show(as.length==e.length)=W by simpa using h3];rcases d with d|⟨cs,l,D,v,E,G⟩
 cases d;cases v;refine .inr ⟨cs,_,D,rfl,ab0 E (aa3 c _ k as e 0 h3).symm,λj H x X=>?_⟩;let⟨y,y1,y2⟩:=aa6 c _ k as e 0 j x h3 hk (by grind) X;grind [eg.trans];grind;cases hm
end
def view:Tr (Ex×bH)→Q (Q az×bH)
 |.dz x=>match x with|(.normal,p)=>J (O,p)|_=>O
 |.br g t e=>match t,e with|.dz (.normal,p),.ai=>J (J g,p)|_,_=>O
 |_=>O
def aa8{α:Type}:Tr α→az|.ai=>W|_=>I
def tm{α:Type}(g:Q az)(t:Tr α):Tr α:=
 match g with|none=>t|some g=>.br g t .ai
def aa9:E→E→az|.aW _ _,.cX _=>W|.cX _,.aW _ _=>W|_,_=>I
def amk(p q:bH):az:=(p.cj.any λx=>match x.2,cP x.1 q.cj with
 |.one a,.one b=>aa9 a b|_,_=>I)||p.aI.any λx=>match cG x.1 q.aI with|some c=>(x.2.zip c).any λy=>aa9 y.1 y.2|none=>I
def QN(A:List aP)(aB:List aC)(c:az)(p q:bH):Q bH:=match amk p q with|true=>O|false=>merge A aB c p q
def aml{A:List aP}{aB:List aC}{c:az}{p q m:bH}(h:QN A aB c p q=J m):merge A aB c p q=J m:=by grind [QN]
def J2(A:List aP)(aB:List aC)(c:az)(a b:Tr (Ex×bH)):Tr (Ex×bH):=
 match view a,view b with
 |some (g,p),J (h,q)=>match QN A aB c p q with
  |some m=>tm (match g,h with|none,O=>O|some g,O=>J (!c||g)|none,J h=>J (c||h)|some g,J h=>J (if c=W then g else h)) (.dz (.normal,m))
  |none=>.br c a b
 |some (g,p),O=>match aa8 b with|true=>tm (J (match g with|none=>c|some g=>c&&g)) (.dz (.normal,p))|false=>.br c a b
 |none,J (h,q)=>match aa8 a with|true=>tm (J (match h with|none=> !c|some h=> !c&&h)) (.dz (.normal,q))|false=>.br c a b
 |none,O=>.br c a b
def oH(A:List aP)(aB:List aC):Tr (Ex×bH)→Tr (Ex×bH)|.dz x=>.dz x|.ai=>.ai|.br c a b=>J2 A aB c (oH A aB a) (oH A aB b)|.call d o k=>.call d o λx=>oH A aB (k x)|.sum o k k'=>.sum o (λx=>oH A aB (k x)) λx=>oH A aB (k' x)
def J3{t:Tr (Ex×bH)}{g:Q az}{p:bH}(h:view t=J (g,p)):t=tm g (.dz (.normal,p)):=by unfold view at h;split at h;split at h<;>cases h;rfl;split at h<;>cases h;rfl;cases h
section
variable{K:dh}{A:List aP}{aB:List aC}
def Reach(K:dh)(A:List aP)(Q:Ex×bH→Prop)(x:Ex×bH):Prop:=∀a w,dI K (dP A x.2) a w→∃y,uV x.1=uV y.1∧Q y∧dI K (dP A y.2) a w
theorem Reach.of{Q:Ex×bH→Prop}{x:Ex×bH}(h:Q x):Reach K A Q x:=λ_ _ a=>⟨x,rfl,h,a⟩
def Reach.idem{Q:Ex×bH→Prop}{x:Ex×bH}(h:Reach K A (Reach K A Q) x):Reach K A Q x:=by intro a w b;let⟨y,h1,h2,h3⟩:=h a w b;let⟨z,c,d,e⟩:=h2 a w h3;grind
def J4{α:Type}{t:Tr α}{Q Q':α→Prop}(h:∀a,Q a→Q' a)(b:t.all Q):t.all Q':=by grind [Tr.AL]
def fu(p0:bp)(A:List aP)(x:Ex×bH):Prop:=(∃l,x.2.cI=l++p0.cI)∧eP x.2.cI p0 (cy A x.2)
theorem Ea{α:Type}{g:Option az}{x:α}{Q:α→Prop}:(tm g (.dz x)).all Q↔((∀b,g=J b→b=W)∧Q x):=by
 cases g with|none=>simp[tm,Tr.all]|some b=>cases b<;>simp[tm,Tr.all]
theorem Eb{α:Type}{g:Option az}{x:α}{Q:α→Prop}:(tm g (.dz x)).eJ Q↔Q x:=by cases g<;>simp[tm,Tr.eJ]
def amm(t:jy K A aB){p0:bp}(c:az)(a b:Tr (Ex×bH))(n:a.eJ (fu p0 A))(kb:b.eJ (fu p0 A)):(J2 A aB c a b).eJ (fu p0 A)∧∀Q,(J2 A aB c a b).all Q→(c=W→a.all (Reach K A Q))∧(c=I→b.all (Reach K A Q)):=by have plain:(Tr.br c a b).eJ (fu p0 A)∧∀Q,(Tr.br c a b).all Q→(c=W→a.all (Reach K A Q))∧(c=I→b.all (Reach K A Q)):=⟨⟨n,kb⟩,λQ h=>⟨λk=>J4 (λ_=>Reach.of) (h.1 k),λk=>J4 (λ_=>Reach.of) (h.2 k)⟩⟩;unfold J2;split;rename_i g p h q f i;have ea:=J3 f;have o:=J3 i;rw[ea,Eb]at n;rw[o,Eb]at kb;split;rename_i m hm;replace hm:=aml hm;have d:=λa w=>amj (K:=K) (A:=A) (aB:=aB) (a:=a) (w:=w) (p0:=p0) (c:=c) t n.2 kb.2 hm;let⟨_,_,hk,u⟩:=d {tmps:=#[],defers:=[]} default;refine⟨Eb.2 ⟨?_,hk⟩,λQ j=>?_⟩;let⟨l,y⟩:=kb.1;grind;rw[Ea]at j;let⟨z,s⟩:=j;refine⟨λk=>?_,λk=>?_⟩;rw[ea,Ea];refine⟨λv e=>?_,λa w r=>⟨(.normal,m),rfl,s,(d a w).1 k r⟩⟩;grind;rw[o,Ea];refine⟨λv e=>?_,λa w r=>⟨(.normal,m),rfl,s,(d a w).2.1 k r⟩⟩;grind;exact plain;rename_i g p f i;split;rename_i x;have ea:=J3 f;grind [Eb,Ea,Reach.of];exact plain;rename_i h q f i;split;rename_i x;have o:=J3 i;grind [Eb,Ea,Reach.of];exact plain;exact plain
def A0(n:jy K A aB){p0:bp}:∀(t:Tr (Ex×bH)),t.eJ (fu p0 A)→(oH A aB t).eJ (fu p0 A)∧∀Q,(oH A aB t).all Q→t.all (Reach K A Q):=by
 intro t;induction t with
 |dz x=>exact λh=>⟨h,λQ e=>Reach.of e⟩|ai=>exact λ_=>⟨trivial,λQ e=>e⟩|br c a b j l=>intro h;let⟨p,q⟩:=j h.1;let⟨kb,r⟩:=l h.2;let⟨h1,h2⟩:=amm n c _ _ p kb;refine⟨h1,λQ e=>?_⟩;let⟨s,u⟩:=h2 Q e;exact⟨λm=>J4 (λ_=>Reach.idem) (q _ (s m)),λm=>J4 (λ_=>Reach.idem) (r _ (u m))⟩
 |call d o k f=>exact λh=>⟨λx=>(f x (h x)).1,λQ⟨x,g,e⟩=>⟨x,g,(f x (h x)).2 Q e⟩⟩|sum o k k' f i=>exact λh=>⟨⟨λx=>(f x (h.1 x)).1,λx=>(i x (h.2 x)).1⟩,λQ e=>⟨λx g=>(f x (h.1 x)).2 Q (e.1 x g),λx g=>(i x (h.2 x)).2 Q (e.2 x g)⟩⟩
end
inductive Sh where
 |i(k:IntKind)|b|s|l(m:Md)(t:Ty)|n(m:Md)(t:Ty)|p(k:aC)(off:Nat)|dd|u(k:NK)|r(u:TypeId)
@[reducible] def Sh.T:Sh→Type|.i _=>L|.b=>az|.s=>List ao|.l _ t=>List t.T|.n _ t=>Q (List t.T)|.p _ _=>bV|.dd=>bV|.u _=>bV|.r _=>List (ao×List ao)
def Sh.cD:(h:Sh)→h.T→E|.i k,x=>.i k x|.b,x=>.b x|.s,x=>.s x|.l m t,xs=>.l m t xs|.n m t,o=>.n m t o|.p k off,_=>.aW k off|.dd,_=>.bK|.u k,_=>.cX k|.r z,ps=>.r z ps
def Sh.gV:(h:Sh)→h.T|.i _=>(0:L)|.b=>I|.s=>([]:List ao)|.l _ t=>([]:List t.T)|.n _ t=>(O:Q (List t.T))|.p _ _=>()|.dd=>()|.u _=>()|.r _=>([]:List (ao×List ao))
def Sh.eV:(h:Sh)→E→Q h.T
 |.i k=>λc=>match c with|.i k' x=>if k'=k then J x else O|_=>O
 |.b=>λc=>vl c|.s=>λc=>match c with|.s x=>J x|_=>O
 |.l m t=>λc=>match c with|.l a d xs=>if a=m then(if h:d=t then J (h▸xs)else O)else O|_=>O
 |.n m t=>λc=>match c with|.l a d xs=>if a=m then(if h:d=t then J (J (h▸xs))else O)else O|.n a d o=>if a=m then(if h:d=t then J (h▸o)else O)else O|.nil=>J O|_=>O
 |.p k off=>λc=>match c with
  |.aW k' e=>match gH k k'&&off==e with|true=>J ()|false=>O
  |_=>O
 |.dd=>λc=>match c with|.bK=>J ()|_=>O
 |.u k=>λc=>match c with|.cX k'=>if k'=k then J ()else O|_=>O
 |.r z=>λc=>match c with|.r f ps=>if f=z then J ps else O|_=>O
theorem Sh.l8:∀{h:Sh}{c:E}{x:h.T},h.eV c=J x→cE (h.cD x)=cE c
 |.i k,c,x,e=>by simp only[Sh.eV]at e;split at e;split at e;rename_i h;subst h;cases e;rfl;cases e;cases e
 |.r z,c,x,e=>by simp only[Sh.eV]at e;split at e;split at e;rename_i h;subst h;cases e;rfl;cases e;cases e
 |.b,c,x,e=>adJ (JE e)|.dd,c,x,e=>by simp only[Sh.eV]at e;split at e<;>cases e;rfl
 |.u k,c,x,e=>by simp only[Sh.eV]at e;split at e;split at e;rename_i h;subst h;rfl;cases e;cases e
 |.p k off,c,x,e=>by simp only[Sh.eV]at e;split at e;split at e;rename_i h;simp only[ck,dL,lE]at h;obtain⟨rfl,rfl⟩:=h;rfl;cases e;cases e
 |.s,c,x,e=>by simp only[Sh.eV]at e;split at e<;>cases e;rfl
 |.l m t,c,x,e=>by simp only[Sh.eV]at e;split at e;split at e;rename_i h;subst h;split at e;rename_i h;subst h;cases e;rfl;cases e;cases e;cases e
 |.n m t,c,x,e=>by simp only[Sh.eV]at e;split at e;split at e;rename_i h;subst h;split at e;rename_i h;subst h;cases e;rfl;cases e;cases e;split at e;rename_i h;subst h;split at e;rename_i h;subst h;cases e;rfl;cases e;cases e;cases e;rfl;cases e
inductive Pl where
 |a6(t:Nat)(h:Sh)|oJ(t:Nat)(r:Ty)|cell(k:aC)(j:Nat)(h:Sh)
@[reducible] def Pl.T:Pl→Type|.a6 _ h=>h.T|.oJ _ r=>r.T|.cell _ _ h=>h.T
def Pl.gV:(p:Pl)→p.T|.a6 _ h=>h.gV|.oJ _ r=>r.zero|.cell _ _ h=>h.gV
@[reducible] def VT:List Pl→Type
  |[]=>bV|p::r=>match r with|[]=>p.T|q::r=>p.T×VT (q::r)
def VT.gV:(l:List Pl)→VT l|[]=>()|[p]=>p.gV|p::q::r=>(p.gV,VT.gV (q::r))
def tq(t:U)(v:aP):List (U×aP)→List (U×aP)
 |[]=>[(t,v)]|(u,x)::r=>match t==u with|true=>(t,v)::r|false=>(u,x)::tq t v r
def setB(k:aC)(j:U)(c:E):List (aC×List E)→List (aC×List E)
 |[]=>[]|(q,x)::r=>match gH k q with|true=>(q,ly x j c)::r|false=>(q,x)::setB k j c r
def Pl.aE:(q:Pl)→bH→Q q.T
 |.a6 t h=>λp=>match cP t p.cj with|.one c=>h.eV c|_=>O
 |.oJ t r=>λp=>match cP t p.cj with|.agg cs=>lA r cs|_=>O
 |.cell k j h=>λp=>match cG k p.aI with
  |some cs=>match cs[j]? with|some c=>h.eV c|none=>O
  |none=>O
def Pl.put:(q:Pl)→q.T→bH→bH
 |.a6 t h,x,p=>{p with cj:=tq t (.one (h.cD x)) p.cj}
 |.oJ t r,x,p=>{p with cj:=tq t (.agg (fc r x)) p.cj}
 |.cell k j h,x,p=>{p with aI:=setB k j (h.cD x) p.aI}
def vG:(l:List Pl)→bH→Q (VT l)
 |[],_=>J ()|[q],p=>q.aE p|q::a::r,p=>match q.aE p,vG (a::r) p with|some x,J y=>J (x,y)|_,_=>O
def dE:(l:List Pl)→VT l→bH→bH|[],_,b=>b|[q],x,b=>q.put x b|q::a::r,x,b=>q.put x.1 (dE (a::r) x.2 b)
def Pl.iE(t:U):Pl→az|.a6 u _=>t==u|.oJ u _=>t==u|_=>I
def Pl.kr(k:aC)(j:U):Pl→az|.cell q i _=>gH k q&&j==i|_=>I
theorem yi(t u:U)(v:aP):∀(l:List (U×aP)),cP u (tq t v l)=match u==t with|true=>v|false=>cP u l
 |[]=>by simp only[tq,cP]<;>cases u==t<;>rfl
 |(q,x)::r=>by
  simp only[tq];cases h:t==q with|true=>grind [cP]|false=>simp only[cP,yi t u v r];grind
def QO(k q:aC)(j:U)(c:E):∀(l:List (aC×List E)),cG q (setB k j c l)=match gH q k with|true=>(cG q l).map λx=>ly x j c|false=>cG q l
 |[]=>by simp only[setB,cG];cases gH q k<;>rfl
 |(u,x)::r=>by
  simp only[setB];cases h:gH k u with|true=>grind [lE,cG]|false=>simp only[cG,QO k q j c r];grind [lE]
def Pl.J5(q:Pl)(x:q.T)(b:bH)(t:U)(h:q.iE t=I):cP t (q.put x b).cj=cP t b.cj:=by
 cases q with|a6 u sh=>simp only[Pl.iE]at h;simp only[Pl.put,yi,h]|oJ u sh=>simp only[Pl.iE]at h;simp only[Pl.put,yi,h]|cell k j sh=>rfl
def Pl.abb{q:Pl}{x:q.T}{p:bH}(h:q.aE p=J x)(b:bH)(t:U)(a:q.iE t=W):aL (cP t (q.put x b).cj)=aL (cP t p.cj):=by
 cases q with|a6 u sh=>grind [Pl.iE,Pl.aE,Pl.put,yi,aL,Sh.l8]|oJ u sh=>grind [Pl.iE,Pl.aE,Pl.put,yi,aL,kV,Jy]|cell k j sh=>cases a
def QP{p:bH}:∀(l:List Pl)(y:VT l)(b:bH),vG l p=J y→∀t,(l.any (Pl.iE t)=W∧aL (cP t (dE l y b).cj)=aL (cP t p.cj))∨(l.any (Pl.iE t)=I∧cP t (dE l y b).cj=cP t b.cj)
 |[],_,b,_,t=>.inr ⟨rfl,rfl⟩|[q],y,b,h,t=>by
  simp only[List.any_cons,List.any_nil,Bool.or_false];cases a:q.iE t with|true=>exact .inl ⟨rfl,Pl.abb h b t a⟩|false=>exact .inr ⟨rfl,Pl.J5 q y b t a⟩
 |q::c::r,y,b,h,t=>by
  simp only[vG]at h;split at h;rename_i x ys h1 h2;cases h;rw[List.any_cons];cases a:q.iE t with|true=>exact .inl ⟨rfl,Pl.abb h1 _ t a⟩|false=>simp only[dE];rw[Pl.J5 q x _ t a];exact QP (c::r) ys b h2 t
  cases h
theorem A1:∀(l:List Pl)(y:VT l)(b:bH)(t:U),l.any (Pl.iE t)=I→cP t (dE l y b).cj=cP t b.cj|[],_,b,t,_=>rfl|[q],y,b,t,h=>Pl.J5 q y b t (by simpa using h)|q::a::r,y,b,t,h=>by rw[List.any_cons,qZ]at h;simp only[dE];rw[Pl.J5 q _ _ t h.1];exact A1 (a::r) y.2 b t h.2
def ny(l:List Pl)(k:aC)(R:U→E→Prop)(o o':Q (List E)):Prop:=
 match o,o' with|none,O=>dK|some a,J cs=>Y a=Y cs∧∀j c,cs[j]?=J c→(l.any (Pl.kr k j)=W∧R j c)∨(l.any (Pl.kr k j)=I∧a[j]?=J c)|_,_=>jn
def ny.step{l:List Pl}{k:aC}{R:U→E→Prop}{q:Pl}{x:q.T}{b a:bH}(h:ny l k R (cG k b.aI) (cG k a.aI))(m:∀j sh(e:q=.cell k j sh),R j (sh.cD (by subst e;exact x))):ny (q::l) k R (cG k b.aI) (cG k (q.put x a).aI):=by
 have other:(∀j,q.kr k j=I)→cG k (q.put x a).aI=cG k a.aI→ny (q::l) k R (cG k b.aI) (cG k (q.put x a).aI):=by
  intro h1 h2;rw[h2];revert h;cases cG k b.aI with
  |none=>cases cG k a.aI<;>exact λh=>h
  |some g=>
   cases cG k a.aI with|none=>exact λh=>h|some cs=>intro h;refine⟨h.1,λj c d=>?_⟩;rw[List.any_cons,h1 j];exact h.2 j c d
 cases q with
 |a6 u sh=>exact other (λ_=>rfl) rfl|oJ u sh=>exact other (λ_=>rfl) rfl|cell k' i sh=>
  cases hk:gH k k' with
  |false=>simp_all [Pl.kr,Pl.put,QO]|true=>
   have e:=(lE k k').1 hk;subst e;simp only[Pl.put,QO,hk];revert h;cases cG k b.aI with
   |none=>cases cG k a.aI<;>exact λh=>h
   |some g=>
    cases cG k a.aI with|none=>exact λh=>h|some cs=>intro h;simp only[m8];refine⟨by rw[tf];simpa using h.1,λj c d=>?_⟩;rw[tf]at d;rw[List.any_cons];by_cases f:j=i;grind [Pl.kr];rw[List.getElem?_set_ne (Ne.symm f)]at d;have:Pl.kr k j (.cell k i sh)=I:=(by simp[Pl.kr,f]);rw[this];exact h.2 j c d
def QQ(p:bH)(k:aC)(j:U)(c:E):Prop:=∃cs c0,cG k p.aI=J cs∧cs[j]?=J c0∧cE c=cE c0
def Pl.abd{k:aC}{j:U}{sh:Sh}{p:bH}{x:sh.T}(h:(Pl.cell k j sh).aE p=J x):QQ p k j (sh.cD x):=by simp only[Pl.aE]at h;split at h;rename_i cs a;split at h;rename_i c b;exact⟨cs,c,a,b,Sh.l8 h⟩;cases h;cases h
def J6{p:bH}(k:aC):∀(l:List Pl)(y:VT l)(b:bH),vG l p=J y→ny l k (QQ p k) (cG k b.aI) (cG k (dE l y b).aI)
 |[],_,b,_=>by
  simp only[dE,ny];cases cG k b.aI with|none=>trivial|some d=>grind
 |[q],y,b,h=>by have a:ny [] k (QQ p k) (cG k b.aI) (cG k b.aI):=J6 k [] () b rfl;exact ny.step a λj sh e=>by subst e;exact Pl.abd h|q::c::r,y,b,h=>by
  simp only[vG]at h;split at h;rename_i x ys h1 h2;cases h;exact ny.step (J6 k (c::r) ys b h2) λj sh e=>by subst e;exact Pl.abd h1
  cases h
def A2(k:aC):∀(l:List Pl)(y:VT l)(b:bH),ny l k (λ_ _=>dK) (cG k b.aI) (cG k (dE l y b).aI)
 |[],_,b=>by
  simp only[dE,ny];cases cG k b.aI with|none=>trivial|some d=>grind
 |[q],y,b=>by have a:ny [] k (λ_ _=>dK) (cG k b.aI) (cG k b.aI):=A2 k [] () b;exact ny.step a λj sh e=>trivial|q::c::r,y,b=>ny.step (A2 k (c::r) y.2 b) λj sh e=>trivial
def Pl.abe(q:Pl)(x:q.T)(b:bH):(q.put x b).cH=b.cH∧(q.put x b).cI=b.cI:=by cases q<;>exact⟨rfl,rfl⟩
theorem yj:∀(l:List Pl)(y:VT l)(b:bH),(dE l y b).cH=b.cH∧(dE l y b).cI=b.cI|[],_,b=>⟨rfl,rfl⟩|[q],y,b=>Pl.abe q y b|q::a::r,y,b=>by simp only[dE];let⟨h1,h2⟩:=Pl.abe q y.1 (dE (a::r) y.2 b);let⟨h3,c⟩:=yj (a::r) y.2 b;grind
structure iu where
 live:List Nat
 fO:List aC
 vs:List Pl
structure gJ where
 head:iu
 gq:List (Ex×iu)
 rng:Option Nat:=none
def amn:E→az|.bK=>W|_=>I
def A3(a c:E):az:=amn a||(l7 a&&l7 c)
def J7:List E→List E→az|[],[]=>W|a::as,c::cs=>A3 a c&&J7 as cs|_,_=>I
def QR(v u:aP):az:=
 match v,u with|.undef,_=>W|.one a,.one c=>A3 a c|.agg as,.agg cs=>J7 as cs|_,_=>I
def yk(l:List Pl)(d:eO)(k:aC):U→List E→List E→az|_,[],[]=>W|j,a::as,c::cs=>(l.any (Pl.kr k j)||(!part (.box k) j d&&A3 a c))&&yk l d k (j+1) as cs|_,_,_=>I
def base(A:List aP)(a:iu)(h:bH):bH:={gm (cy A h) a.live a.fO with cI:=[]}
def amo(l:List Pl)(d:eO)(p:bH)(b:List (U×aP)):az:=b.all λx=>l.any (Pl.iE x.1)||(!jI (.tmp x.1) d&&QR x.2 (cP x.1 p.cj))
def amq(l:List Pl)(k:aC)(n:U):az:=(List.range n).all λj=>l.any (Pl.kr k j)
def amr(l:List Pl)(d:eO)(p:bH)(b:List (aC×List E)):az:=b.all λx=>match cG x.1 p.aI with|some cs=>(!whole (.box x.1) d||amq l x.1 (Y x.2))&&yk l d x.1 0 x.2 cs|none=>I
def fit(A:List aP)(aB:List aC)(a:iu)(b p:bH):Q (VT a.vs):=
 let bk:=b.aI.map (·.1)
 let c:=gm (cy A p) (p.cj.map (·.1)) bk
 match decide (p.cH=b.cH)&&mF A aB bk&&amo a.vs p.cI c b.cj&&amr a.vs p.cI c b.aI with
 |true=>vG a.vs c
 |false=>O
theorem QS{z a c:E}(h:A3 a c=W)(h1:eg z a)(h2:eg z c):ef (cE c) (cE a):=by
 simp only[A3,qY,ck]at h;rcases h with h|⟨h,b⟩
 ·cases a<;>first|(cases h;done)|exact .inr rfl
 rw[aaU h1 h2 h b];exact .inl rfl
def abg:∀{b as cs:List E},J7 as cs=W→aQ eg b as→aQ eg b cs→aQ ef (aU cs) (aU as)|[],[],[],_,_,_=>trivial|z::b,a::as,c::cs,h,h1,h2=>by simp only[J7,ck]at h;exact⟨QS h.1 h1.1 h2.1,abg h.2 h1.2 h2.2⟩|[],_::_,_,_,h1,_=>ab1 h1|_::_,[],_,_,h1,_=>ab1 h1|[],[],_::_,_,_,h2=>ab1 h2|_::_,_::_,[],_,_,h2=>ab1 h2
theorem ams{z v u:aP}(h:QR v u=W)(h1:hX z v)(h2:hX z u):nw (aL u) (aL v):=by
 unfold QR at h;split at h;cases u<;>trivial;cases z with|one z=>exact QS h h1 h2|_=>exact ab1 h1
 cases z with|agg z=>exact abg h h1 h2|_=>exact ab1 h1
 cases h
def abh{l:List Pl}{d:eO}{k:aC}:∀{as cs:List E}{j:U},yk l d k j as cs=W→Y as=Y cs
 |[],[],_,_=>rfl|a::as,c::cs,j,h=>by simp only[yk,ck]at h;simp[abh h.2]|[],_::_,_,h=>by cases h
 |_::_,[],_,h=>by cases h
def abj{l:List Pl}{d:eO}{k:aC}:∀{as cs:List E}{j i:U}{a c:E},yk l d k j as cs=W→as[i]?=J a→cs[i]?=J c→l.any (Pl.kr k (j+i))=W∨(part (.box k) (j+i) d=I∧A3 a c=W)
 |a::as,c::cs,j,0,x,y,h,b,hy=>by simp_all [yk]|a::as,c::cs,j,i+1,x,y,h,b,hy=>by simp only[yk,ck]at h;rw[show j+(i+1)=j+1+i by omega];exact abj h.2 (by simpa using b) (by simpa using hy)|[],[],_,_,_,_,_,b,_=>by simp at b|[],_::_,_,_,_,_,h,_,_=>by cases h
 |_::_,[],_,_,_,_,h,_,_=>by cases h
def QT{t:U}:∀{l:List (U×aP)},cP t l=.undef∨∃v,(t,v)∈l∧cP t l=v
 |[]=>.inl rfl
 |(u,x)::r=>by
  simp only[cP]
  cases h:t==u with
  |true=>grind
  |false=>rcases QT (t:=t) (l:=r)with h|⟨v,h1,h2⟩
          ·exact .inl h
          grind
def QU{k:aC}:∀{l:List (aC×List E)}{cs:List E},cG k l=J cs→(k,cs)∈l|(u,x)::r,cs,h=>by simp only[cG]at h;split at h;simp_all [lE];exact List.mem_cons_of_mem _ (QU h)
theorem abk{k:aC}:∀{l:List (aC×List E)},cG k l=O→k ∉ l.map (·.1)|[],_=>by simp|(u,x)::r,h=>by simp only[cG]at h;split at h;cases h;rename_i hk;simp only[List.map_cons,List.mem_cons,not_or];refine⟨λe=>?_,abk h⟩;grind [lE]
section
variable{K:dh}{A:List aP}{aB:List aC}{a:Act}{w:World}
def QV(X:jy K A aB){d:iu}{h b p:bH}{y:VT d.vs}(hk:eP p.cI (cy A h) (cy A p)) (hs:∀t,d.vs.any (Pl.iE t)=I→hX (cP t h.cj) (cP t b.cj)) (hb:∀k u,cG k b.aI=J u→∃cs,cG k h.aI=J cs∧cs.length=u.length∧∀j,d.vs.any (Pl.kr k j)=I→∀c,u[j]?=J c→∃c0,cs[j]?=J c0∧eg c0 c) (e:fit A aB d b p=J y)(hr:dI K (dP A p) a w):dI K (dP A (dE d.vs y b)) a w:=by
 unfold fit at e;generalize hbk:b.aI.map (·.1)=bk at e;simp only at e;split at e;rename_i Y;simp only[ck,eY]at Y;let⟨⟨⟨Z,H⟩,h3⟩,h4⟩:=Y;have N:=dI.gm X H (p.cj.map (·.1)) hr;have E:eP p.cI (cy A h) (cy A (gm (cy A p) (p.cj.map (·.1)) bk)):=eP.trans hk (yg A _ (qt A p) _ _ _);have hfr:(gm (cy A p) (p.cj.map (·.1)) bk).cH=p.cH:=rfl;have n:∀k,cG k b.aI=O→cG k (gm (cy A p) (p.cj.map (·.1)) bk).aI=O:=by grind [gm,vF,abk]
 generalize hp1:gm (cy A p) (p.cj.map (·.1)) bk=p1 at *;have m:=e;refine aY.AZ X.size N (by grind [yj]) (λt=>?_) λk=>?_;rcases QP d.vs y b m t with⟨_,h2⟩|⟨h1,h2⟩
 rw[h2];cases hv:cP t p1.cj with|one c=>exact .inl rfl|agg cs=>exact ef.oD _|bw vs=>exact aQ.same (R:=λp q:az×List C=>p.1=q.1∧aQ ef p.2 q.2) (λp=>⟨rfl,ef.oD _⟩) _|undef=>trivial
 rw[h2];rcases QT (t:=t) (l:=b.cj)with o|⟨v,P,hv⟩
 rw[o];trivial;have:=List.all_eq_true.1 h3 (t,v) P;simp only[h1,Bool.false_or,ck,lQ]at this;let⟨i,S⟩:=this;have B:=E.1 t i;grind [oF,ams];have f:=J6 k d.vs y b m;cases g:cG k b.aI with
 |none=>
  rw[g]at f;rw[n k g];cases hi:cG k (dE d.vs y b).aI with|none=>trivial|some cs=>rw[hi]at f;exact f.elim
 |some u=>
  rw[g]at f;have P:=QU g;have:=List.all_eq_true.1 h4 (k,u) P;simp only at this;cases r:cG k p1.aI with
  |none=>grind|some cs=>
   rw[r]at this;simp only[ck,qY,lQ]at this;let⟨i,S⟩:=this;cases hi:cG k (dE d.vs y b).aI with
   |none=>rw[hi]at f;exact f.elim|some ds=>
    rw[hi]at f;let⟨f1,f2⟩:=f;have hlen:=abh S;refine aQ.dX (by simp_all) λj x z T V=>?_;simp only[aU,List.getElem?_map]at T V;cases F:ds[j]? with
    |none=>grind|some c'=>
     rw[F]at V;cases V;cases s:cs[j]? with
     |none=>grind|some c0=>
      rw[s]at T;cases T;rcases f2 j c' F with⟨_,xH,c1,B,D,e3⟩|⟨B,D⟩
      rw[r]at B;cases B;rw[s]at D;cases D;exact .inl e3;have o:=abj S D s;rw[wZ]at o;rcases o with o|⟨hu1,hu2⟩
      rw[B]at o;cases o;let⟨hs0,q1,q2,q3⟩:=hb k u g;let⟨x0,x1,x2⟩:=q3 j B c' D;have i:whole (.box k) p.cI=I:=by
       rcases i with i|i
       exact i;have:=List.all_eq_true.1 i j (List.mem_range.2 (List.getElem?_eq_some_iff.1 D).1);grind
      have G:=E.2 k i;rw[kW,kW,q1,r]at G;rcases G with G|⟨as,as',r1,r2,r3,r4⟩
      cases G;grind [QS]
 cases e
theorem J8(a:iu)(h:bH)(t:U):hX (cP t h.cj) (cP t (base A a h).cj):=by have:=(yg A (cy A h) (qt A h) a.live a.fO []).1 t rfl;rw[oF,oF]at this;exact this
theorem J9(a:iu)(h:bH)(k:aC)(bs:List E)(hk:cG k (base A a h).aI=J bs):∃cs,cG k h.aI=J cs∧Y cs=Y bs∧∀(j:U)c,bs[j]?=J c→∃c0,cs[j]?=J c0∧eg c0 c:=by
 have:=(yg A (cy A h) (qt A h) a.live a.fO []).2 k rfl;rw[kW,kW]at this;have d:cG k (gm (cy A h) a.live a.fO).aI=J bs:=hk;rw[d]at this;rcases this with h|⟨cs,f,b,g,i,l⟩
 cases h;cases g;cases e:cG k h.aI with
 |none=>rw[e]at b;cases b
 |some x=>rw[e]at b;cases b;exact⟨_,rfl,i,λj c m=>l j rfl c m⟩
def covers(H a:iu):az:=H.vs.all λq=>match q with|.a6 t _|.oJ t _=>a.vs.any (Pl.iE t)|| !ab4 a.live t|.cell k j _=>a.vs.any (Pl.kr k j)|| !ab4 a.fO k
theorem amt{H a:iu}(h:covers H a=W){t:U}(e:a.vs.any (Pl.iE t)=I)(f:t∈a.live):H.vs.any (Pl.iE t)=I:=by
 cases b:H.vs.any (Pl.iE t)with|false=>rfl|true=>let⟨q,c,d⟩:=List.any_eq_true.1 b;have:=List.all_eq_true.1 h q c;grind [Pl.iE]
theorem amu{H a:iu}(h:covers H a=W){k:aC}{j:U}(e:a.vs.any (Pl.kr k j)=I)(hk:k∈a.fO):H.vs.any (Pl.kr k j)=I:=by
 cases b:H.vs.any (Pl.kr k j)with|false=>rfl|true=>let⟨q,c,d⟩:=List.any_eq_true.1 b;have:=List.all_eq_true.1 h q c;grind [Pl.kr,lE]
def abl{a:iu}{h:bH}{t:U}(b:t ∉ a.live):cP t (base A a h).cj=.undef:=by show cP t (ye (cy A h) a.fO a.live)=_;rw[DY,aV b]
def amv{a:iu}{h:bH}{k:aC}{bs:List E}(hk:cG k (base A a h).aI=J bs):k∈a.fO:=by have hk:cG k (yf (cy A h) a.fO a.fO)=J bs:=hk;simp_all [vF]
def amw(n:jy K A aB){H b:iu}(C:covers H b=W){h q hx p:bH}{x:VT H.vs}{y:VT b.vs}(i:∀t,ab4 b.live t=W→cP t q.cj=cP t (dE H.vs x h).cj)(d:q.aI=(dE H.vs x h).aI) (o:∀t,ab4 b.live t=W→hX (cP t h.cj) (cP t hx.cj))(l:hx.aI=h.aI)(hk:eP p.cI (cy A q) (cy A p)) (e:fit A aB b (base A b hx) p=J y)(r:dI K (dP A p) a w):dI K (dP A (dE b.vs y (base A b hx))) a w:=by
 refine QV n hk (λt s=>?_) (λk u f=>?_) e r;by_cases v:t∈b.live;grind [A1,amt,hX.trans,J8];rw[abl v];trivial;have z:=amv f;let⟨cs,h1,h2,h3⟩:=J9 b hx k u f;rw[l]at h1;have hi:=A2 k H.vs x h;rw[h1]at hi;rw[d];cases g:cG k (dE H.vs x h).aI with
 |none=>rw[g]at hi;exact ab1 hi|some ds=>
  rw[g]at hi;refine⟨ds,rfl,ab0 hi.1.symm h2,λj s c m=>?_⟩;let⟨c0,D,E⟩:=h3 j c m;have B:j<Y ds:=by rw[←hi.1];grind
  rcases hi.2 j ds[j] (List.getElem?_eq_getElem B)with⟨f1,_⟩|⟨_,f2⟩
  grind [amu];grind
def amx(m:jy K A aB){H:iu}{h q p:bH}{x:VT H.vs}{y:VT H.vs}{d:U}(hd:cP d h.cj=.undef)(f:∀t,t≠d→cP t q.cj=cP t (dE H.vs x h).cj)(b:q.aI=(dE H.vs x h).aI)(hk:eP p.cI (cy A q) (cy A p)) (e:fit A aB H h p=J y)(n:dI K (dP A p) a w):dI K (dP A (dE H.vs y h)) a w:=by
 refine QV m hk (λt i=>?_) (λk u g=>?_) e n;by_cases o:t=d;subst o;rw[hd];trivial;grind [A1,hX.same];have hi:=A2 k H.vs x h;rw[g]at hi;rw[b];cases l:cG k (dE H.vs x h).aI with
 |none=>rw[l]at hi;exact ab1 hi|some ds=>
  rw[l]at hi;refine⟨ds,rfl,adJ hi.1,λj i c r=>?_⟩;have s:j<Y ds:=by rw[←hi.1];grind
  rcases hi.2 j ds[j] (List.getElem?_eq_getElem s)with⟨f1,_⟩|⟨_,f2⟩
  rw[i]at f1;cases f1;simp_all [eg.same]
def amy(g:jy K A aB){H:iu}{h p:bH}{x:VT H.vs}{y:VT H.vs}(hk:eP p.cI (cy A (dE H.vs x h)) (cy A p)) (b:fit A aB H h p=J y)(i:dI K (dP A p) a w):dI K (dP A (dE H.vs y h)) a w:=by
 refine QV g hk (λt d=>?_) (λk n e=>?_) b i;rw[A1 H.vs x h t d];exact hX.same _;have hi:=A2 k H.vs x h;rw[e]at hi;cases f:cG k (dE H.vs x h).aI with
 |none=>rw[f]at hi;exact ab1 hi|some ds=>
  rw[f]at hi;refine⟨ds,rfl,adJ hi.1,λj d c l=>?_⟩;have m:j<Y ds:=by rw[←hi.1];grind
  rcases hi.2 j ds[j] (List.getElem?_eq_getElem m)with⟨f1,_⟩|⟨_,f2⟩
  rw[d]at f1;cases f1;simp_all [eg.same]
end
def eD{σ ρ:Type}(f:σ→Q (σ⊕ρ)):U→σ→Q ρ
 |0,_=>O|n+1,x=>match f x with|some (.inl y)=>eD f n y|some (.inr z)=>J z|none=>O
def fuel:U:=340282366920938463463374607431768211456
def bR{σ ρ:Type}(f:σ→Q (σ⊕ρ))(x:σ):Q ρ:=eD f fuel x
def kX:List (Ex×iu)→Type
 |[]=>bV|e::r=>match r with|[]=>VT e.2.vs|a::r=>VT e.2.vs⊕kX (a::r)
def kX.gV:(l:List (Ex×iu))→kX l|[]=>()|[e]=>VT.gV e.2.vs|e::_::_=>.inl (VT.gV e.2.vs)
def nz:List Pl→eO|[]=>[]|.a6 t _::r=>(.tmp t,O)::nz r|.oJ t _::r=>(.tmp t,O)::nz r|.cell k j _::r=>(.box k,J (List.replicate j I++[W]))::nz r
def Ka(A:List aP)(h:bH)(d:eO)(a:iu)(y:VT a.vs):bH:={dE a.vs y (base A a h)with cI:=nz a.vs++d}
def Ec:Ex→Ex→az|.normal,.normal=>W|.ret,.ret=>W|.exit i,.exit j=>i==j|_,_=>I
def rP(A:List aP)(aB:List aC)(H:iu)(h p:bH)(e:Ex):(l:List (Ex×iu))→Q (kX l)
 |[]=>O|[x]=>match Ec e x.1&&covers H x.2 with|true=>fit A aB x.2 (base A x.2 h) p|false=>O
 |x::y::r=>match Ec e x.1 with
  |true=>match covers H x.2 with
   |true=>match fit A aB x.2 (base A x.2 h) p with|some v=>J (.inl v)|none=>O
   |false=>O
  |false=>match rP A aB H h p e (y::r)with|some v=>J (.inr v)|none=>O
def yl(A:List aP)(aB:List aC)(R:gJ)(h:bH)(x:Ex×bH):Tr (VT R.head.vs⊕kX R.gq):=
 match x.1 with
 |.normal=>match fit A aB R.head h x.2 with|some y=>.dz (.inl y)|none=>.ai
 |e=>match rP A aB R.head h x.2 e R.gq with|some y=>.dz (.inr y)|none=>.ai
def vH(A:List aP)(h:bH)(d:eO):(l:List (Ex×iu))→kX l→Tr (Ex×bH)|[],_=>.ai|[x],y=>.dz (x.1,Ka A h d x.2 y)|x::a::r,s=>.sum s (λy=>.dz (x.1,Ka A h d x.2 y)) λz=>vH A h d (a::r) z
structure iF where
 af:eW
 keys:List Nat
 hI:List aC
def nl:Code→U|.seq a b=>nl a+nl b|.cond _ a b=>nl a+nl b|.block _ b=>nl b|.loop b=>nl b+1|.scope b=>nl b|_=>0
def QW(c:Operand)(p:bH):Q E:=
 match c with
 |.tmp t=>match cP t p.cj with|.one c=>J c|_=>O
 |.const (.bool b)=>J (kb b)|_=>O
def l9(d:eO)(x:Ex×bH):Ex×bH:=(x.1,{x.2 with cI:=x.2.cI++d})
def fI(p:bH):bH:={p with cI:=[]}
def vI(F:iF)(b:bW cS)(a:az)(x:bp×List (List aO×List aO)):Tr (Ex×bH):=
 match a with
 |false=>.dz (.normal,gm x.1 F.keys F.hI)|true=>match I3 b x.2 with|true=>.dz (.normal,gm x.1 F.keys F.hI)|false=>.ai
def pv(id:U)(x:Ex×bH):Ex×bH:=
 match x.1 with
 |.exit i=>match i==id with|true=>(.normal,x.2)|false=>x
 |_=>x
def bH.a6(p:bH)(t:U)(v:aP):bH:={p with cj:=tq t v p.cj}
def Kb(it d:U):Md→az|.bj r _ hv cv _=>hv==0&&cv==0&& !iq r (.tmp it)&& !iq r (.tmp d)|_=>W
def QX(it d:U)(bk:List aC):E→az
 |.l m _ _=>Kb it d m|.n m _ _=>Kb it d m|.it m _ _ _=>match m with|.bj .. =>I|_=>W
 |.ea .. =>I|.hO _=>I|.aW k _=>bk.any (gH k)|.dj _ caps=>caps.all λp=>bk.any (gH p.1)|_=>W
def QY(A:List aP)(aB:List aC)(it d:U)(p:bH):az:=mF A aB (p.aI.map (·.1))&&p.cj.all (λx=>x.2.cells.all (QX it d (p.aI.map (·.1))))&&p.aI.all (λx=>x.2.all (QX it d (p.aI.map (·.1))))
def Ed:Code→Q (U×U×bW cS×List cS)
 |.seq (.region _ a I) _=>match T a with
  |o::l=>match o.op,o.dst,o.guard with|.next (.tmp it) I,J d,O=>J (it,d,a,l)|_,_,_=>O
  |[]=>O
 |_=>O
def nA{σ ρ:Type}(step:List U→U→σ→Q (σ⊕ρ))(last:List U→σ→Q (σ⊕ρ)):List U→List U→σ→Q ρ
 |a,[],x=>match last a x with|some (.inr z)=>J z|_=>O
 |a,i::l,x=>match step a i x with|some (.inl y)=>nA step last (i::a) l y|some (.inr z)=>J z|none=>O
open Classical in
noncomputable def rQ{σ ρ:Type}(n:U)(step:List U→U→σ→Q (σ⊕ρ))(last:List U→σ→Q (σ⊕ρ))(x:σ):Q ρ:=if ∀l:List U,l.Perm (List.range n)→nA step last [] l x=nA step last [] (List.range n) x then nA step last [] (List.range n) x else O
def amz{σ ρ:Type}{n:U}{step:List U→U→σ→Q (σ⊕ρ)}{last:List U→σ→Q (σ⊕ρ)}{x:σ}{z:ρ}(h:rQ n step last x=J z)(l:List U)(a:l.Perm (List.range n)):nA step last [] l x=J z:=by simp_all [rQ]
def abm{σ ρ:Type}{n:U}{step:List U→U→σ→Q (σ⊕ρ)}{last:List U→σ→Q (σ⊕ρ)}{x:σ}{o:Q ρ}(h:∀l:List U,l.Perm (List.range n)→nA step last [] l x=o):rQ n step last x=o:=by simp_all [rQ]
def vJ(k v:Ty)(rows:List (k.T×v.T)):Q U→List (az×List E)|none=>[(I,[.ff])]|some i=>(I,[.tt])::Dt k v (H rows i (k.zero,v.zero))
def jJ(k v:Ty)(rows:List (k.T×v.T))(sn:List U):aP:=.one (.it .ak (.cb I k v) rows sn)
def mG:Q U→List U→List U|none,l=>l|some i,l=>i::l
def Ee(A:List aP)(aB:List aC)(R:gJ)(h hx:bH)(x:Ex×bH):Tr (VT R.head.vs⊕kX R.gq):=
 match x.1 with
 |.normal=>match fit A aB R.head h x.2 with|some y=>.dz (.inl y)|none=>.ai
 |e=>match rP A aB R.head hx x.2 e R.gq with|some y=>.dz (.inr y)|none=>.ai
def amA(F:iF)(A:List aP)(aB:List aC)(a:bW cS)(l:List cS)(q:bH):Tr (Ex×bH):=(oH A aB ((rM F.af a l (cy A (fI q))).bind (vI F a I))).map (l9 q.cI)
def QZ(F:iF)(R:gJ)(it a d:U)(k v:Ty):az:=a==it&& !(it==d)&&bT d F.af.N&&Du I k v&& !R.head.vs.any (Pl.iE it)&& !R.head.vs.any (Pl.iE d)&& !ab4 R.head.live d&&R.gq.all λe=> !ab4 e.2.live it&& !ab4 e.2.live d
def qw(F:iF)(A:List aP)(aB:List aC)(R:gJ)(h:bH)(it d:U)(a:bW cS)(l:List cS)(k v:Ty)(rows:List (k.T×v.T))(rest:bH→Tr (Ex×bH))(c:Q U)(sn:List U)(x:VT R.head.vs):Tr (VT R.head.vs⊕kX R.gq):=let q:=((dE R.head.vs x h).a6 it (jJ k v rows (mG c sn))).a6 d (.bw (vJ k v rows c))
 match QY A aB it d q with
 |true=>(amA F A aB a l q).bind λy=>match y.1 with|.normal=>(rest y.2).bind (Ee A aB R (h.a6 it (jJ k v rows (mG c sn))) (h.a6 it .undef))|_=>.ai
 |false=>.ai
noncomputable def fA(F:iF)(A:List aP)(aB:List aC)(tbl:U→Q gJ):Code→az→U→bH→Tr (Ex×bH)
 |.skip,I,_,p=>.dz (.normal,p)|.exit id,I,_,p=>.dz (.exit id,p)|.ret,I,_,p=>.dz (.ret,p)|.region _ e f,I,_,p=>(oH A aB ((rM F.af e (T e) (cy A (fI p))).bind (vI F e f))).map (l9 p.cI)|.seq a b,I,n,p=>(fA F A aB tbl a I n p).bind λx=>match x.1 with|.normal=>fA F A aB tbl b I (n+nl a) x.2|_=>.dz x
 |.seq a b,W,n,p=>fA F A aB tbl b I (n+nl a) p|.cond c a b,I,n,p=>match QW c p with|some .tt=>fA F A aB tbl a I n p|some .ff=>fA F A aB tbl b I (n+nl a) p|some (.b x)=>(oH A aB (.br x (fA F A aB tbl a I n (fI p)) (fA F A aB tbl b I (n+nl a) (fI p)))).map (l9 p.cI)|_=>.ai
 |.block id b,I,n,p=>(oH A aB ((fA F A aB tbl b I n (fI p)).map (pv id))).map (l9 p.cI)|.scope b,I,n,p=>fA F A aB tbl b I n p|.loop b,I,n,p=>match tbl n with
  |some R=>
   let h:=base A R.head p;match mF A aB R.head.fO,vG R.head.vs h with
   |true,J m=>match R.rng with
    |none=>.call (kX.gV R.gq) (bR (λx=>((fA F A aB tbl b I (n+1) (dE R.head.vs x h)).bind (yl A aB R h)).run) m) (vH A h p.cI R.gq)|some it=>match Ed b,cP it h.cj with
     |some (g,d,e,l),.one (.it .ak (.cb I k v) rows [])=>match QZ F R it g d k v with|true=>.call (kX.gV R.gq) (rQ (List.length (α:=k.T×v.T) rows) (λj i x=>(qw F A aB R h it d e l k v rows (fA F A aB tbl b W (n+1)) (J i) j x).run) (λj x=>(qw F A aB R h it d e l k v rows (fA F A aB tbl b W (n+1)) O j x).run) m) (vH A (h.a6 it .undef) p.cI R.gq)|false=>.ai
     |_,_=>.ai
   |_,_=>.ai
  |none=>.ai
 |_,_,_,_=>.ai
noncomputable def Q0(F:iF)(A:List aP)(aB:List aC)(tbl:U→Q gJ)(c:Code)(n:U)(p:bH):Tr (Ex×bH):=fA F A aB tbl c I n p
def all_map{α β:Type}(t:Tr α)(f:α→β)(Q:β→Prop):(t.map f).all Q↔t.all λa=>Q (f a):=by
 induction t with|dz a=>rfl|ai=>exact uq|br c t e b g=>simp only[Tr.map,Tr.all,b,g]|call d o k h=>simp only[Tr.map,Tr.all,h]|sum o k k' h i=>simp only[Tr.map,Tr.all,h,i]
def ym{α β:Type}(t:Tr α)(f:α→Tr β)(Q:β→Prop):(t.bind f).all Q↔t.all λa=>(f a).all Q:=by
 induction t with|dz a=>rfl|ai=>exact uq|br c t e b g=>simp only[Tr.bind,Tr.all,b,g]|call d o k h=>simp only[Tr.bind,Tr.all,h]|sum o k k' h i=>simp only[Tr.bind,Tr.all,h,i]
def eP.amB{d l:eO}{s s':bp}(h:eP d s s'):eP (d++l) s s':=by
 refine⟨λt b=>h.1 t ?_,λk hk=>?_⟩;rw[JV,qZ]at b;exact b.1;rw[QI,qZ]at hk;rcases h.2 k hk.1 with h|⟨cs,a,e,f,g,i⟩
 exact .inl h;refine .inr ⟨cs,a,e,f,g,λj c=>i j ?_⟩;rw[JW,qZ]at c;exact c.1
def eP.self(A:List aP)(p:bH)(d:eO):eP d (cy A p) (cy A p):=eP.dX (qt A p) (λ_ _ _=>rfl) λk _ _=>pu.same (qt A p k)
def fu.self(A:List aP)(p:bH)(e:Ex):fu (cy A p) A (e,p):=⟨⟨[],rfl⟩,eP.self A p _⟩
def fu.l9{A:List aP}{p:bH}{x:Ex×bH}(h:fu (cy A (fI p)) A x):fu (cy A p) A (Ve.l9 p.cI x):=⟨⟨x.2.cI,rfl⟩,eP.amB (l:=p.cI) h.2⟩
theorem fu.trans{A:List aP}{p a:bH}{e:Ex}{x:Ex×bH}(h:fu (cy A p) A (e,a))(g:fu (cy A a) A x):fu (cy A p) A x:=by let⟨⟨c,d⟩,k1⟩:=h;let⟨⟨f,b⟩,k2⟩:=g;have b:x.2.cI=f++a.cI:=b;have d:a.cI=c++p.cI:=d;refine⟨⟨f++c,by grind⟩,eP.trans ?_ k2⟩;rw[b];exact k1.more
theorem fu.pv{s:bp}{A:List aP}{id:Nat}{x:Ex×bH}(h:fu s A x):fu s A (Ve.pv id x):=by unfold Ve.pv;split;split;exact h;exact h;exact h
def amC{l:List Pl}{d:eO}{t:Nat}(h:jI (.tmp t) (nz l++d)=I):l.any (Pl.iE t)=I:=by
 rw[JV,qZ]at h;let⟨h,_⟩:=h;induction l with
 |nil=>rfl|cons q l a=>
  cases q with|a6 u _=>have h:(t==u||jI (.tmp t) (nz l))=I:=h;simp_all [Pl.iE]|oJ u _=>have h:(t==u||jI (.tmp t) (nz l))=I:=h;simp_all [Pl.iE]|cell k j _=>grind [jI,nz,Pl.iE]
def amD{l:List Pl}{d:eO}{k:aC}{j:Nat}(h:part (.box k) j (nz l++d)=I):l.any (Pl.kr k j)=I:=by
 rw[JW,qZ]at h;let⟨h,_⟩:=h;induction l with
 |nil=>rfl|cons q l a=>
  cases q with|a6 u _=>grind [part,nz,Pl.kr]|oJ u _=>grind [part,nz,Pl.kr]|cell k' i _=>have h:((gH k k'&&H (List.replicate i I++[W]) j I)||part (.box k) j (nz l))=I:=h;rw[qZ]at h;grind [Pl.kr]
def abn(A:List aP)(a:iu)(p h:bH)(s:∀t,hX (cP t p.cj) (cP t h.cj))(i:∀k b,cG k h.aI=J b→∃cs,cG k p.aI=J cs∧Y cs=Y b∧∀(j:Nat)c,b[j]?=J c→∃c0,cs[j]?=J c0∧eg c0 c)(y:VT a.vs)(e:Ex):fu (cy A p) A (e,Ka A h p.cI a y):=by
 refine⟨⟨nz a.vs,rfl⟩,λt m=>?_,λk hk=>?_⟩;rw[oF,oF];have f:=amC (l:=a.vs) (d:=p.cI) m;show hX (cP t p.cj) (cP t (dE a.vs y (base A a h)).cj);grind [A1,hX.trans,J8];rw[kW,kW];show pu k (nz a.vs++p.cI) (match cG k p.aI with|some cs=>.agg cs|none=>.undef) (match cG k (dE a.vs y (base A a h)).aI with|some cs=>.agg cs|none=>.undef)
 have hi:=A2 k a.vs y (base A a h);cases h2:cG k (base A a h).aI with
 |none=>
  rw[h2]at hi;cases h3:cG k (dE a.vs y (base A a h)).aI with|none=>exact .inl rfl|some ds=>rw[h3]at hi;exact ab1 hi
 |some b=>
  rw[h2]at hi;cases h3:cG k (dE a.vs y (base A a h)).aI with
  |none=>rw[h3]at hi;exact ab1 hi|some ds=>
   rw[h3]at hi;let⟨cs,f1,f2,f3⟩:=J9 a _ k b h2;let⟨as,n,o,u⟩:=i k cs f1;rw[n];refine .inr ⟨as,ds,rfl,rfl,by rw[o,f2];exact hi.1,λj q c r=>?_⟩;have f:=amD (l:=a.vs) (d:=p.cI) q;rcases hi.2 j c r with⟨g,_⟩|⟨_,v⟩
   rw[f]at g;cases g;grind [eg.trans]
theorem Q5(A:List aP)(p h:bH)(a:∀t,hX (cP t p.cj) (cP t h.cj))(b:∀k d,cG k h.aI=J d→∃cs,cG k p.aI=J cs∧Y cs=Y d∧∀(j:Nat)c,d[j]?=J c→∃c0,cs[j]?=J c0∧eg c0 c):∀(l:List (Ex×iu))(z:kX l),(vH A h p.cI l z).eJ (fu (cy A p) A)|[],_=>trivial|[x],y=>abn A x.2 p h a b y x.1|x::e::r,_=>⟨λy=>abn A x.2 p h a b y x.1,λz=>Q5 A p h a b (e::r) z⟩
theorem yn(p:bH)(it t:Nat)(v:aP):cP t (p.a6 it v).cj=match t==it with|true=>v|false=>cP t p.cj:=yi it t v p.cj
section
variable{K:dh}{F:iF}{A:List aP}{aB:List aC}{tbl:Nat→Option gJ}
def abo(c:jy K A aB)(b:bW cS)(l:List cS)(a:az)(p:bH):((oH A aB ((rM F.af b l (cy A (fI p))).bind (vI F b a))).map (l9 p.cI)).eJ (fu (cy A p) A):=by
 rw[Tr.lD];refine Tr.hV (λx d=>fu.l9 d) (A0 c _ ?_).1;rw[Tr.kI];refine Tr.hV ?_ (JY F.af b l (cy A (fI p)) (qt A (fI p)));rintro ⟨s,e⟩ ⟨f,h,l,g,hk⟩;have dz:fu (cy A (fI p)) A (.normal,gm s F.keys F.hI):=⟨⟨l,g⟩,eP.trans hk (yg A s f _ _ _)⟩;unfold vI;cases a with|false=>exact dz|true=>simp only;split;exact dz;trivial
def A4(j:jy K A aB):∀(c:Code)(tail:az)(n:Nat)(p:bH),(fA F A aB tbl c tail n p).eJ (fu (cy A p) A):=by
 intro c;induction c with
 |skip=>intro tail n p;cases tail;exact fu.self A p _;trivial
 |exit id=>intro tail n p;cases tail;exact fu.self A p _;trivial
 |ret=>intro tail n p;cases tail;exact fu.self A p _;trivial
 |region id l g=>intro tail n p;cases tail;exact abo j l _ g p;trivial
 |seq a b d f=>
  intro tail n p;cases tail;simp only[fA];rw[Tr.kI];refine Tr.hV ?_ (d I n p);rintro ⟨e,s⟩ h;cases e with|normal=>grind [Tr.hV,fu.trans]|exit i=>exact h|ret=>exact h
  exact f I _ p
 |cond c a b d f=>intro tail n p;cases tail;simp only[fA];split;exact d I n p;exact f I _ p;rename_i x _;rw[Tr.lD];exact Tr.hV (λx m=>fu.l9 m) (A0 j (.br x (fA F A aB tbl a I n (fI p)) (fA F A aB tbl b I (n+nl a) (fI p))) ⟨d I n (fI p),f I _ (fI p)⟩).1;trivial;trivial
 |block id b o=>intro tail n p;cases tail;simp only[fA];rw[Tr.lD];refine Tr.hV (λx m=>fu.l9 m) (A0 j _ ?_).1;grind [Tr.lD,Tr.hV,fu.pv];trivial
 |scope b o=>intro tail n p;cases tail;exact o I n p;trivial
 |loop b o=>intro tail n p;cases tail;simp only[fA];split;rename_i R _;split;split;intro z;grind [Q5,J8,J9];rename_i it _;split;split;intro z;refine Q5 A p ((base A R.head p).a6 it .undef) (λt=>?_) (λk r q=>J9 R.head p k r q) _ z;rw[yn];split;trivial;exact J8 R.head p t;trivial;trivial;trivial;trivial;trivial
 |_=>intro tail n p;cases tail<;>exact trivial
def ku(K:dh)(A:List aP)(Q:Ex×bH→Prop)(e:Exit)(a:Act)(w:bZ):Prop:=∃x,e=uV x.1∧Q x∧dI K (dP A x.2) a w
def ku.reach{Q:Ex×bH→Prop}{e:Exit}{a:Act}{w:bZ}(h:ku K A (Reach K A Q) e a w):ku K A Q e a w:=by obtain⟨x,rfl,h1,h2⟩:=h;let⟨y,b,c,d⟩:=h1 a w h2;exact⟨y,b,c,d⟩
def amE{σ ρ:Type}{f:σ→Option (σ⊕ρ)}{n:Nat}{x:σ}{z:ρ}(h:eD f (n+1) x=J z):(∃y,f x=J (.inl y)∧eD f n y=J z)∨f x=J (.inr z):=by grind [eD]
def abp(D:jy K A aB){H:iu}{h q hx p:bH}{x:VT H.vs}{e:Ex}{d:eO}{a:Act}{w:bZ}(g:Nat→Prop)(i:∀t,g t→cP t q.cj=cP t (dE H.vs x h).cj)(k:q.aI=(dE H.vs x h).aI) (n:∀t,g t→hX (cP t h.cj) (cP t hx.cj))(o:hx.aI=h.aI)(hk:eP p.cI (cy A q) (cy A p))(E:dI K (dP A p) a w):∀(l:List (Ex×iu))(z:kX l),(∀y∈l,∀t,ab4 y.2.live t=W→g t)→rP A aB H hx p e l=J z→∀Q,(vH A hx d l z).all Q→∃q',Q (e,q')∧dI K (dP A q') a w:=by
 have c:∀{e e':Ex},Ec e e'=W→e=e':=by intro e e' h;cases e<;>cases e'<;>first|rfl|(simp[Ec]at h;done)|(simp[Ec]at h;rw[h])
 intro l;induction l with
 |nil=>intro z _ b;cases b
 |cons y r F=>
  intro z m b Q s;have C:=m y (List.mem_cons_self ..);have f:∀{v:VT y.2.vs},covers H y.2=W→fit A aB y.2 (base A y.2 hx) p=J v→dI K (dP A (Ka A hx d y.2 v)) a w:=λj hv=>amw D j (λt u=>i t (C t u)) k (λt u=>n t (C t u)) o hk hv E;cases r with
  |nil=>simp only[rP]at b;split at b;rename_i j;simp only[ck]at j;have:=c j.1;subst this;exact⟨_,s,f j.2 b⟩;cases b
  |cons G r=>simp only[rP]at b;split at b;rename_i j;have:=c j;subst this;split at b;rename_i B;split at b;rename_i v hv;cases b;exact⟨_,s.1 v rfl,f B hv⟩;cases b;cases b;split at b;rename_i v hv;cases b;exact F v (λy hy=>m y (List.mem_cons_of_mem _ hy)) hv Q (s.2 v rfl);cases b
def amF(b:jy K A aB){H:iu}{h p:bH}{x:VT H.vs}{e:Ex}{d:eO}{a:Act}{w:bZ}(hk:eP p.cI (cy A (dE H.vs x h)) (cy A p))(c:dI K (dP A p) a w)(l:List (Ex×iu))(z:kX l)(f:rP A aB H h p e l=J z):∀Q,(vH A h d l z).all Q→∃q,Q (e,q)∧dI K (dP A q) a w:=abp b (λ_=>dK) (λ_ _=>rfl) rfl (λ_ _=>hX.same _) rfl hk c l z (λ_ _ _ _=>trivial) f
def abq(n:jy K A aB)(o:mF A aB F.hI=W){b:bW cS}{l:List cS}{d:az}{p:bH}{Q:Ex×bH→Prop}(h:((oH A aB ((rM F.af b l (cy A (fI p))).bind (vI F b d))).map (l9 p.cI)).all Q):∃s f e,xP F.af.c b l (dH (cy A (fI p)))=J (dH s,e)∧qq e f∧s.args=A∧(d=W→I3 b f=W)∧∀a w,Vs.gG K (dH s) a w→∃y:Ex×bH,Ex.normal=y.1∧Q y∧dI K (dP A y.2) a w:=by
 let⟨q,r⟩:=n.bk o;rw[all_map]at h;have i:((rM F.af b l (cy A (fI p))).bind (vI F b d)).eJ (fu (cy A (fI p)) A):=by
  rw[Tr.kI];refine Tr.hV ?_ (JY F.af b l (cy A (fI p)) (qt A (fI p)));rintro ⟨s,f⟩ ⟨v,E,l,z,hk⟩;have dz:fu (cy A (fI p)) A (.normal,gm s F.keys F.hI):=⟨⟨l,z⟩,eP.trans hk (yg A s v _ _ _)⟩;unfold vI;cases d with|false=>exact dz|true=>simp only;split;exact dz;trivial
 have h1:=(A0 n _ i).2 _ h;rw[ym]at h1;have h2:=Tr.td (Tr.td h1 (aaN F.af b l (cy A (fI p)))) (Tr.vt (JY F.af b l (cy A (fI p)) (qt A (fI p))));let⟨⟨s,f⟩,_,⟨h3,k⟩,t⟩:=(Tr.AL _ _).1 h2;simp only at h3 k t;let⟨e,k,j⟩:=k;have g:(d=W→I3 b f=W)∧Reach K A (λx=>Q (l9 p.cI x)) (.normal,gm s F.keys F.hI):=by
  unfold vI at h3;cases d with|false=>exact⟨λh=>(by cases h),h3⟩|true=>simp only at h3;split at h3;rename_i hd;exact⟨λ_=>hd,h3⟩;exact ab1 h3
 refine⟨s,f,e,k,j,t.2.1,g.1,λB w' u=>?_⟩;let⟨y,m,C,D⟩:=g.2 B w' (QG t.2.1 n.size q r u);refine⟨l9 p.cI y,?_,C,D⟩;have m:uV .normal=uV y.1:=m;show Ex.normal=y.1;cases hy:y.1<;>rw[hy]at m<;>first|rfl|cases m
def Q6(P:ew):Code→az→(Exit→Act→bZ→Prop)→Act→bZ→Prop|c,I,d,a,w=>c.wp P d a w|.seq _ b,W,d,a,w=>b.wp P d a w|_,W,_,_,_=>dK
end
theorem abr(v:SV):nw v v:=by
 cases v with|one c=>exact .inl rfl|agg cs=>exact ef.oD _|bw vs=>exact aQ.same (R:=λp q:az×List C=>p.1=q.1∧aQ ef p.2 q.2) (λp=>⟨rfl,ef.oD _⟩) _|undef=>trivial
theorem dI.dX{K:dh}{A:List aP}{a:Act}{w:World}{p b:bH}(c:K.argv.size=Y A)(h:dI K (dP A p) a w)(d:b.cH=p.cH)(e:∀t,cP t b.cj=cP t p.cj)(f:b.aI=p.aI):dI K (dP A b) a w:=by
 refine aY.AZ c h d (λt=>by rw[e];exact abr _) λk=>?_;rw[f];cases cG k p.aI with|none=>trivial|some cs=>exact ef.oD _
def abs(q:Pl)(x:q.T)(b a:bH)(it:Nat)(v:aP)(c:q.iE it=I)(h1:∀t,cP t a.cj=match t==it with|true=>v|false=>cP t b.cj)(h2:a.aI=b.aI):(∀t,cP t (q.put x a).cj=match t==it with|true=>v|false=>cP t (q.put x b).cj)∧(q.put x a).aI=(q.put x b).aI:=by
 have set:∀(u:Nat)(y:aP),(it==u)=I→∀t,cP t (tq u y a.cj)=match t==it with|true=>v|false=>cP t (tq u y b.cj):=by grind [yi]
 cases q with|a6 u h=>exact⟨set u _ c,h2⟩|oJ u r=>exact⟨set u _ c,h2⟩|cell k j h=>exact⟨h1,by show setB k j _ a.aI=setB k j _ b.aI;rw[h2]⟩
def Kc(it:Nat)(v:aP):∀(l:List Pl)(y:VT l)(b:bH),l.any (Pl.iE it)=I→(∀t,cP t (dE l y (b.a6 it v)).cj=match t==it with|true=>v|false=>cP t (dE l y b).cj)∧(dE l y (b.a6 it v)).aI=(dE l y b).aI|[],_,b,_=>⟨λt=>yn b it t v,rfl⟩|[q],y,b,h=>abs q y b (b.a6 it v) it v (by simpa using h) (λt=>yn b it t v) rfl|q::a::r,y,b,h=>by rw[List.any_cons,qZ]at h;let⟨h1,h2⟩:=Kc it v (a::r) y.2 b h.2;exact abs q y.1 _ _ it v h.1 h1 h2
theorem abt{s:bp}{it d:Nat}{bk:List aC}{c:E}(a:QX it d bk c=W)(b:∀r,iq r (.tmp it)=I→iq r (.tmp d)=I→(s.aE r).hv=0∧(s.aE r).cv=0):jV s bk c=c:=by
 have bj:∀{r:aO}{j hv cv k:Nat},Kb it d (.bj r j hv cv k)=W→hv=0∧cv=0∧((s.aE r).hv==hv&&(s.aE r).cv==cv)=W:=by simp_all [Kb]
 cases c with
 |l m t xs=>
  cases m with
  |bj r j hv cv k=>let⟨h1,h2,h3⟩:=bj (j:=j) (k:=k) a;grind [jV]
  |_=>rfl
 |n m t o=>
  cases m with
  |bj r j hv cv k=>let⟨h1,h2,h3⟩:=bj (j:=j) (k:=k) a;grind [jV]
  |_=>rfl
 |it m t xs e=>cases m<;>first|rfl|cases a
 |aW k off=>have:bk.any (gH k)=W:=a;simp only[jV,this]|dj f caps=>have:caps.all (λp=>bk.any (gH p.1))=W:=a;simp only[jV,this]|ea=>cases a
 |hO=>cases a
 |_=>rfl
theorem Kd{α:Type}{f:α→α}:∀{l:List α},(∀x∈l,f x=x)→l.map f=l|[],_=>rfl|x::l,h=>by rw[List.map_cons,h x (List.mem_cons_self ..),Kd λy hy=>h y (List.mem_cons_of_mem _ hy)]
theorem amG{s:bp}{bk:List aC}{v:aP}(h:∀c∈v.cells,jV s bk c=c):vE s bk v=v:=by
 cases v with|one c=>simp only[vE,h c (by simp[aP.cells])]|agg cs=>show aP.agg (cs.map _)=_;rw[Kd (l:=cs) h]|bw vs=>grind [vE,Kd,aP.cells]|undef=>rfl
def abu(A:List aP)(p:bH)(r:aO):((cy A p).aE r).hv=0∧((cy A p).aE r).cv=0:=by
 cases r with|tmp t=>grind [oF]|box k=>grind [kW]|bN i=>exact⟨rfl,rfl⟩
section
variable{K:dh}{F:iF}{A:List aP}{aB:List aC}{tbl:Nat→Option gJ}{a:Act}{w:World}
def mH(A:List aP)(p:bH)(it d n1 n2 a m2:Nat)(b v:aP):bp:=((cy A p).put (.tmp it) {hv:=n1,cv:=n2,v:=b}).put (.tmp d) {hv:=a,cv:=m2,v:=v}
def amH(f:jy K A aB){p q:bH}{it d n1 n2 c m2:Nat}{b v:aP}(y:∀t,cP t q.cj=match t==d with|true=>v|false=>match t==it with|true=>b|false=>cP t p.cj)(n:q.aI=p.aI)(g:q.cH=p.cH)(j:QY A aB it d q=W) (o:Vs.gG K (dH (mH A p it d n1 n2 c m2 b v)) a w):dI K (dP A q) a w:=by
 simp only[QY,ck]at j;let⟨⟨c1,z⟩,B⟩:=j;let⟨f1,f2⟩:=f.bk c1;have m:∀r,(mH A p it d n1 n2 c m2 b v).aE r=if r=.tmp d then{hv:=c,cv:=m2,v:=v}else if r=.tmp it then{hv:=n1,cv:=n2,v:=b}else(cy A p).aE r:=by intro r;unfold mH;rw[AP _ _ rfl,AP _ _ rfl]
 have C:∀r,iq r (.tmp it)=I→iq r (.tmp d)=I→((mH A p it d n1 n2 c m2 b v).aE r).hv=0∧((mH A p it d n1 n2 c m2 b v).aE r).cv=0:=by simp_all [JX,abu]
 have e:∀t,((mH A p it d n1 n2 c m2 b v).aE (.tmp t)).v=cP t q.cj:=by grind [oF]
 have h1:=QG (s:=mH A p it d n1 n2 c m2 b v) (keys:=q.cj.map (·.1)) (bk:=q.aI.map (·.1)) rfl f.size f1 f2 o;refine aY.AZ f.size h1 g (λt=>?_) λk=>?_;show nw (aL (cP t (ye (mH A p it d n1 n2 c m2 b v) (q.aI.map (·.1)) (q.cj.map (·.1))))) _;rw[DY,e];rcases QT (t:=t) (l:=q.cj)with u|⟨D,x,hv⟩
 rw[u];trivial;grind [amG,abr,abt];show match cG k (yf (mH A p it d n1 n2 c m2 b v) (q.aI.map (·.1)) (q.aI.map (·.1))),cG k q.aI with|some cs,J h=>aQ ef (aU cs) (aU h)|none,O=>dK|_,_=>jn
 have i:(mH A p it d n1 n2 c m2 b v).aE (.box k)=(cy A p).aE (.box k):=by grind
 rw[vF,i,kW,←n];cases hk:cG k q.aI with|none=>simp|some cs=>have x:=QU hk;grind [Kd,abt,ef.oD]
def amI{b:Code}{it d:Nat}{a:bW cS}{l:List cS}(h:Ed b=J (it,d,a,l)):∃id rest o,b=.seq (.region id a I) rest∧T a=o::l∧o.op=.next (.tmp it) I∧o.dst=J d∧o.guard=O:=by unfold Ed at h;grind
def vK(n:Nat)(sn:List Nat):Option Nat→Prop|none=>∀i,i<n→i∈sn|some i=>i<n∧i ∉ sn
def abv{n:Nat}{l:List Nat}(b:l.Nodup)(h:∀a,a∈l↔a<n):l.Perm (List.range n):=(List.perm_ext_iff_of_nodup b List.nodup_range).2 λa=>by grind
def amJ{n i:Nat}{sn:List Nat}(a:sn.Nodup)(b:∀j∈sn,j<n)(hi:i<n)(c:i ∉ sn):∃d,(adE sn++i::d).Perm (List.range n):=by refine⟨(List.range n).filter λj=> !ab4 (i::sn) j,abv ?_ ?_⟩;grind [List.nodup_range];grind
end
section
variable{K:dh}{F:iF}{A:List aP}{aB:List aC}{tbl:Nat→Option gJ}{a:Act}{w:World}
def amK(hC:nn K.P F.af.c)(hN:K.N=F.af.N)(hF:jy K A aB)(hbk:mF A aB F.hI=W) {b:Code}{n:Nat}{R:gJ}{hd:bH}{it d:Nat}{f:bW cS}{l:List cS}{k v:Ty}{rows:List (k.T×v.T)} (ih:∀(tail:az)(n:Nat)(p:bH)(Q:Ex×bH→Prop)(a:Act)(w:World),(fA F A aB tbl b tail n p).all Q→dI K (dP A p) a w→Q6 K.P b tail (ku K A Q) a w) (hh:Ed b=J (it,d,f,l))(abw:(it==d)=I)(hlt:d<F.af.N)(hent:Du I k v=W)(hvit:R.head.vs.any (Pl.iE it)=I) {sn:List Nat}{x:VT R.head.vs} (hrun:∀c,vK rows.length sn c→∃o,(qw F A aB R hd it d f l k v rows (fA F A aB tbl b W (n+1)) c sn x).run=J o) (hp:dI K (dP A (dE R.head.vs x (hd.a6 it (jJ k v rows sn)))) a w):
  b.wp K.P (λe g w'=>∃c,vK rows.length sn c∧∃o,(qw F A aB R hd it d f l k v rows (fA F A aB tbl b W (n+1)) c sn x).run=J o∧
    ku K A (λy=>(Ee A aB R (hd.a6 it (jJ k v rows (mG c sn))) (hd.a6 it .undef) y).all (λu=>u=o)∧fu (cy A (((dE R.head.vs x hd).a6 it (jJ k v rows (mG c sn))).a6 d (.bw (vJ k v rows c)))) A y) e g w') a w:=by
 obtain⟨id,rest,o,rfl,E,hop,G,hgd⟩:=amI hh
 let⟨j,m⟩:=Kc it (jJ k v rows sn) R.head.vs x hd hvit
 generalize hpp:dE R.head.vs x (hd.a6 it (jJ k v rows sn))=p at hp j m
 have hfz:p.cH=hd.cH:=by rw[←hpp];exact(yj _ _ _).1
 have abx:(d==it)=I:=by grind
 have H:∀i,i<l.length→f[1+i]?=l[i]? :=by intro i _;rw[←qV,E,Nat.add_comm];rfl
 have z:f[0]?=J o:=by rw[←qV,E];rfl
 generalize hQF:(λe g w'=>∃c,vK rows.length sn c∧∃o,(qw F A aB R hd it d f l k v rows (fA F A aB tbl (.seq (.region id f I) rest) W (n+1)) c sn x).run=J o∧
  ku K A (λy=>(Ee A aB R (hd.a6 it (jJ k v rows (mG c sn))) (hd.a6 it .undef) y).all (λu=>u=o)∧fu (cy A (((dE R.head.vs x hd).a6 it (jJ k v rows (mG c sn))).a6 d (.bw (vJ k v rows c)))) A y) e g w')=QF
 have go:∀c,vK rows.length sn c→∀(n1 n2 m1 m2:Nat)(g:Act)(w':World),Vs.gG K (dH (mH A p it d n1 n2 m1 m2 (jJ k v rows (mG c sn)) (.bw (vJ k v rows c)))) g w'→
   wpOps K.P f (Exit.then (rest.wp K.P QF) QF) (List.range' 1 l.length) g w':=by
  intro c hc n1 n2 m1 m2 g w' hg
  let⟨u,S⟩:=hrun c hc
  generalize hq:((dE R.head.vs x hd).a6 it (jJ k v rows (mG c sn))).a6 d (.bw (vJ k v rows c))=q
  have hu0:=S
  unfold qw at S
  rw[hq]at S
  simp only at S
  split at S
  rename_i V
  have OB:dI K (dP A q) g w':=by refine amH hF (λt=>?_) ?_ ?_ V hg;grind [yn];rw[←hq];exact adJ m;rw[←hq,hfz];exact(yj _ _ _).1
  have h1:=(Tr.AL _ (λv=>v=u)).2 ⟨u,S,rfl⟩
  rw[ym]at h1
  have h2:=Tr.td h1 (Tr.vt (abo hF f l I q))
  let⟨s,Di,amN,h4,hsub,hargs,cK,hend⟩:=abq hF hbk h2
  let⟨e1,_⟩:=YU F.af.c f _ _ _ _ h4
  have C:Vs.gG K (dH (cy A (fI q))) g w':=by rw[DX];exact OB.1
  refine YS hC hN l 1 _ _ g w' H e1 C λa1 w1 Ke=>?_
  let⟨⟨ex,y⟩,g1,⟨g2,g3⟩,g4⟩:=hend a1 w1 Ke
  have g1:Ex.normal=ex:=g1
  subst g1
  simp only at g2
  rw[ym]at g2
  have:=ih W (n+1) y _ a1 w1 (Tr.td g2 (Tr.vt (A4 (tbl:=tbl) hF (.seq (.region id f I) rest) W (n+1) y))) g4
  refine wp_mono this ?_
  rw[←hQF]
  rintro e a2 w2 ⟨y2,rfl,⟨q1,q2⟩,q3⟩
  exact⟨c,hc,u,hu0,y2,rfl,⟨q1,by rw[hq];exact fu.trans g3 q2⟩,q3⟩
  cases S
 refine wp_seq (wp_region ?_)
 have hsz:f.size=l.length+1:=by grind [Array.length_toList]
 rw[hsz,List.range_eq_range']
 show wpOps K.P f _ (0::List.range' 1 l.length) a w
 rw[wpOps_cons]
 have X:=hp.1
 let⟨β,ω,Z,hr⟩:=X
 rw[←DX]at hr
 have hv:(cy A p).aE (.tmp it)={v:=jJ k v rows sn}:=by rw[oF,j];simp
 have B:dH (cy A p) (.tmp it)={hv:=0,cv:=0,v:=.one (.ak nX [[.sl (Ty.cb I k v).e (rows.map (bf (.cb I k v)))],lT sn])}:=by show cL _=_;rw[hv];rfl
 have h1:(ed (.tmp it)).aD (dH (cy A p))=J (.bj (.tmp it) 0 0 0 nX 0 [[.sl (Ty.cb I k v).e (rows.map (bf (.cb I k v)))],lT sn],dH (cy A p)):=by simp only[ed,ev,bE,ax.bind,ax.aD,B,RV.gD,zV,nY]
 have Ou:(dH (cy A p) (.tmp it)).at 0=.ak nX [[.sl (Ty.cb I k v).e (rows.map (bf (.cb I k v)))],lT sn]:=by rw[B];rfl
 have D:(dH (cy A p) (.tmp d)).hv=0∧(dH (cy A p) (.tmp d)).cv=0:=abu A p (.tmp d)
 rcases IV (dst:=d) hr hop h1 (by rw[B]) rfl alM Ou with⟨hall,hy⟩|⟨i,hi,hni,hy⟩
 refine YR (af:=F.af.c) hN z hgd G hlt hy λg w' C=>go O (by simpa[vK]using hall) 0 0 1 0 g w' ?_
 have e:dH (mH A p it d 0 0 1 0 (jJ k v rows (mG O sn)) (.bw (vJ k v rows O)))=(dH (cy A p)).set (.tmp d) {hv:=(dH (cy A p) (.tmp d)).hv+1,cv:=(dH (cy A p) (.tmp d)).cv,v:=.bw [(I,[.d (.bool I)])]}:=by unfold mH;rw[AQ _ _ rfl,AQ _ _ rfl];funext r;simp only[St.set];by_cases h:r=.tmp d;rw[aF h,aF h,D.1,D.2];rfl;rw[aV h,aV h];by_cases Y:r=.tmp it;rw[aF Y,Y,B];rfl;rw[aV Y]
 rw[e]
 exact C
 refine YR (af:=F.af.c) hN z hgd G hlt hy λg w' C=>go (J i) ⟨by simpa using hi,hni⟩ 0 1 1 0 g w' ?_
 have e:dH (mH A p it d 0 1 1 0 (jJ k v rows (mG (J i) sn)) (.bw (vJ k v rows (J i))))=((dH (cy A p)).set (.tmp it) {(dH (cy A p) (.tmp it))with cv:=(dH (cy A p) (.tmp it)).cv+1,v:=(dH (cy A p) (.tmp it)).v.setCell 0 (.ak nX [[.sl (Ty.cb I k v).e (rows.map (bf (.cb I k v)))],lT (i::sn)])}).set (.tmp d) {hv:=(dH (cy A p) (.tmp d)).hv+1,cv:=(dH (cy A p) (.tmp d)).cv,v:=.bw ((I,[.d (.bool W)])::qa (Ty.cb I k v).e ((rows.map (bf (.cb I k v))).getD i []))}:=by unfold mH;rw[AQ _ _ rfl,AQ _ _ rfl];funext r;simp only[St.set];by_cases h:r=.tmp d;rw[aF h,aF h,D.1,D.2,alO (t:=.cb I k v) rows i (k.zero,v.zero) (by simpa using hi),←aaL hent];rfl;rw[aV h,aV h];by_cases Y:r=.tmp it;rw[aF Y,aF Y,B];rfl;grind
 simp_all [St.set]
end
section
variable{K:dh}{F:iF}{A:List aP}{aB:List aC}{tbl:Nat→Option gJ}{a:Act}{w:World}
def amO{A:List aP}{aB:List aC}{R:gJ}{hx p:bH}{b:Ex}{o:VT R.head.vs⊕kX R.gq}{h:bH}(c:b≠.normal)(d:(Ee A aB R h hx (b,p)).all (λu=>u=o)):∃z,o=.inr z∧rP A aB R.head hx p b R.gq=J z:=by
 have a:(match rP A aB R.head hx p b R.gq with|some y=>Tr.dz (mm y)|none=>Tr.ai:Tr (VT R.head.vs⊕kX R.gq)).all (λv=>v=o):=by
  cases b with|normal=>exact cO rfl c|_=>exact d
 split at a;rename_i f e;exact⟨f,adJ a,e⟩;exact ab1 a
def amP(hC:nn K.P F.af.c)(hN:K.N=F.af.N)(hF:jy K A aB)(hbk:mF A aB F.hI=W) {b:Code}{n:Nat}{R:gJ}{hd:bH}{it it' d:Nat}{s:bW cS}{l:List cS}{k v:Ty}{rows:List (k.T×v.T)}{x0:VT R.head.vs}{z:kX R.gq}{dd:eO}{Q:Ex×bH→Prop} (ih:∀(tail:az)(n:Nat)(p:bH)(Q:Ex×bH→Prop)(a:Act)(w:World),(fA F A aB tbl b tail n p).all Q→dI K (dP A p) a w→Q6 K.P b tail (ku K A Q) a w) (hh:Ed b=J (it',d,s,l))(hok:QZ F R it it' d k v=W)(hit:cP it hd.cj=.one (.it .ak (.cb I k v) rows []))(hdu:ab4 R.head.live d=I→cP d hd.cj=.undef) (hz:rQ rows.length (λsn i x=>(qw F A aB R hd it d s l k v rows (fA F A aB tbl b W (n+1)) (J i) sn x).run) (λsn x=>(qw F A aB R hd it d s l k v rows (fA F A aB tbl b W (n+1)) O sn x).run) x0=J z) (hQ:(vH A (hd.a6 it .undef) dd R.gq z).all Q)(A5:dI K (dP A (dE R.head.vs x0 hd)) a w):(Code.loop b).wp K.P (ku K A Q) a w:=by
 simp only[QZ,ck,dL,lQ]at hok;let⟨⟨⟨⟨⟨⟨⟨hitit,abw⟩,hlt⟩,hent⟩,g⟩,hvd⟩,hld⟩,hex⟩:=hok;subst hitit;have hlt:=(c8 _ _).1 hlt;have abx:(d==it')=I:=by grind
 have hdu:=hdu hld;generalize hst:(λ(sn:List Nat)(i:Nat)(x:VT R.head.vs)=>(qw F A aB R hd it' d s l k v rows (fA F A aB tbl b W (n+1)) (J i) sn x).run)=step at hz;generalize hla:(λ(sn:List Nat)(x:VT R.head.vs)=>(qw F A aB R hd it' d s l k v rows (fA F A aB tbl b W (n+1)) O sn x).run)=last at hz;have hfold:=amz hz;have hp1:dI K (dP A (dE R.head.vs x0 (hd.a6 it' (jJ k v rows [])))) a w:=by
  let⟨h1,h2⟩:=Kc it' (jJ k v rows []) R.head.vs x0 hd g;refine dI.dX hF.size A5 ?_ (λt=>?_) h2;rw[(yj _ _ _).1,(yj _ _ _).1];rfl;rw[h1];cases ht:t==it' with|true=>have:t=it':=(by simpa using ht);subst this;rw[A1 R.head.vs x0 hd t g,hit];rfl|false=>rfl
 intro fb kk cs;have key:∀(m:Nat)(sn:List Nat)(x:VT R.head.vs)(a:Act)(w:World),sn.length+m=rows.length→sn.Nodup→(∀j∈sn,j<rows.length)→(∀H:List Nat,(adE sn++H).Perm (List.range rows.length)→nA step last sn H x=J z)→dI K (dP A (dE R.head.vs x (hd.a6 it' (jJ k v rows sn)))) a w→∃e a' w',ku K A Q e a' w'∧Arrives K.P (lone (fb.at a (.code b:: .inLoop b::kk)) cs w) fb kk cs e a' w':=by
  intro m;induction m using Nat.strongRecOn with
  |_ m Q7=>
   intro sn x a w hlen hnd u S hp;have azC:vK rows.length sn O→∃V,last sn x=J (.inr V)∧V=z:=(by intro E;have hperm:=abv (l:=adE sn) ((List.reverse_perm sn).nodup_iff.2 hnd) (n:=rows.length) (λa=>by rw[List.mem_reverse];exact⟨u a,E a⟩);have:=S [] (by simpa using hperm);grind [nA]);have hrow:∀i,vK rows.length sn (J i)→0<m∧((∃y,step sn i x=J (.inl y)∧∀H:List Nat,(adE (i::sn)++H).Perm (List.range rows.length)→nA step last (i::sn) H y=J z)∨step sn i x=J (.inr z)):=(by intro i E;let⟨H,G⟩:=amJ hnd u E.1 E.2;have hl:=G.length_eq;simp only[List.length_append,List.length_reverse,List.length_cons,List.length_range]at hl;refine⟨by omega,?_⟩;have:=S _ G;grind [nA]);have hrun:∀c,vK rows.length sn c→∃o,(qw F A aB R hd it' d s l k v rows (fA F A aB tbl b W (n+1)) c sn x).run=J o:=by
    intro c E;cases c with|none=>grind|some i=>grind
   obtain⟨e,X,Y,⟨c,E,o,ho,⟨ex,p'⟩,rfl,⟨B,f⟩,hp'⟩,r⟩:=amK (n:=n) hC hN hF hbk ih hh abw hlt hent g hrun hp fb (.inLoop b::kk) cs;generalize hq:((dE R.head.vs x hd).a6 it' (jJ k v rows (mG c sn))).a6 d (.bw (vJ k v rows c))=q at f;let⟨g1,g2⟩:=Kc it' (jJ k v rows (mG c sn)) R.head.vs x hd g;have C:∀t,t≠d→cP t q.cj=cP t (dE R.head.vs x (hd.a6 it' (jJ k v rows (mG c sn)))).cj:=(by grind [yn]);have Z:q.aI=(dE R.head.vs x (hd.a6 it' (jJ k v rows (mG c sn)))).aI:=(by rw[g2,←hq];rfl);have amR:cP d (hd.a6 it' (jJ k v rows (mG c sn))).cj=.undef:=(by rw[yn,abx];exact hdu);have hval:(c=O∧last sn x=J o)∨∃i,c=J i∧step sn i x=J o:=by
    cases c with|none=>grind|some i=>grind
   have fin:∀V,o=.inr V→V=z:=(by grind);(have exit:ex≠.normal→∃e a' w',ku K A Q e a' w'∧Arrives K.P (lone (fb.at a (.code b:: .inLoop b::kk)) cs w) fb kk cs e a' w':=by intro hne;let⟨V,h1,h2⟩:=amO hne B;have:=fin V h1;subst this;let⟨q',hq1,hq2⟩:=abp hF (λt=>t≠d∧t≠it') (λt ht=>C t ht.1) Z (hx:=hd.a6 it' .undef) (λt ht=>by grind [yn,hX.same]) rfl f.2 hp' R.gq V (λy hy t ht=>by grind) h2 Q hQ;refine⟨_,X,Y,⟨(ex,q'),rfl,hq1,hq2⟩,.pass (x:=.inLoop b) rfl (λ_ _=>.inl ?_) r⟩;cases ex<;>first|exact cO rfl hne|simp[uV]);cases ex with
   |normal=>
    simp only[Ee]at B;split at B;rename_i y hy;have e:o=.inl y:=adJ B;subst e;rcases hval with⟨rfl,h⟩|⟨i,rfl,h⟩
    grind;let⟨hm,hr⟩:=hrow i E;rcases hr with⟨y',h1,h2⟩|h1
    rw[h]at h1;have e:y=y':=(by cases h1;rfl);subst e;let⟨e₂,a₂,w₂,amT,D⟩:=Q7 (m-1) (by omega) (i::sn) y X Y (by grind) (List.nodup_cons.2 ⟨E.2,hnd⟩) (λj hj=>by
     rcases List.mem_cons.1 hj with rfl|hj
     exact E.1
     exact u j hj) h2 (amx (d:=d) hF amR C Z f.2 hy hp')
    exact⟨e₂,a₂,w₂,amT,.of_steps (Steps.trans r (.one step_inLoop)) D⟩;grind;exact ab1 B
   |exit i=>exact exit (by simp)|ret=>exact exit (by simp)
 let⟨e,a',w',hq,r⟩:=key rows.length [] x0 a w (by simp) List.nodup_nil (by simp) (λH G=>hfold H (by simpa using G)) hp1;exact⟨e,a',w',hq,.of_steps (.one step_loop) r⟩
end
section
variable{K:dh}{F:iF}{A:List aP}{aB:List aC}{tbl:Nat→Option gJ}
def amU(l:jy K A aB){H:iu}{hd:bH}{d:VT H.vs}{a:Act}{w:bZ}(hm:vG H.vs hd=J d)(h1:dI K (dP A hd) a w):dI K (dP A (dE H.vs d hd)) a w:=by
 refine aY.AZ l.size h1 (yj _ _ _).1 (λt=>?_) λk=>?_;rcases QP H.vs d hd hm t with⟨_,h2⟩|⟨_,h2⟩
 rw[h2];cases cP t hd.cj with|one c=>exact .inl rfl|agg cs=>exact ef.oD _|bw vs=>exact aQ.same (R:=λp q:az×List C=>p.1=q.1∧aQ ef p.2 q.2) (λp=>⟨rfl,ef.oD _⟩) _|undef=>trivial
 rw[h2];cases cP t hd.cj with|one c=>exact .inl rfl|agg cs=>exact ef.oD _|bw vs=>exact aQ.same (R:=λp q:az×List C=>p.1=q.1∧aQ ef p.2 q.2) (λp=>⟨rfl,ef.oD _⟩) _|undef=>trivial
 have hi:=J6 k H.vs d hd hm;cases h1:cG k hd.aI with
 |none=>
  rw[h1]at hi;cases h2:cG k (dE H.vs d hd).aI with|none=>trivial|some cs=>rw[h2]at hi;exact ab1 hi
 |some m=>
  rw[h1]at hi;cases h2:cG k (dE H.vs d hd).aI with
  |none=>rw[h2]at hi;exact ab1 hi|some cs=>
   rw[h2]at hi;refine aQ.dX (by simpa using hi.1) λj u c g h=>?_;simp only[aU,List.getElem?_map]at g h;cases e:cs[j]? with
   |none=>grind|some c1=>
    rw[e]at h;cases h;cases b:m[j]? with
    |none=>grind|some c0=>
     rw[b]at g;cases g;rcases hi.2 j c1 e with⟨_,n,r,i,f,o⟩|⟨_,f⟩
     rw[h1]at i;cases i;rw[b]at f;cases f;exact .inl o;rw[b]at f;cases f;exact .inl rfl
def amV(hC:nn K.P F.af.c)(hN:K.N=F.af.N)(Q8:K.P.follows .mixedOrders=W)(D:jy K A aB)(hbk:mF A aB F.hI=W):∀(c:Code)(tail:az)(n:Nat)(p:bH)(Q:Ex×bH→Prop)(a:Act)(w:bZ),(fA F A aB tbl c tail n p).all Q→dI K (dP A p) a w→Q6 K.P c tail (ku K A Q) a w:=by
 let⟨hok,hin⟩:=D.bk hbk;intro c;induction c with
 |skip=>intro tail n p Q a w h hp;cases tail;exact wp_skip ⟨(.normal,p),rfl,h,hp⟩;trivial
 |exit id=>intro tail n p Q a w h hp;cases tail;exact wp_exit ⟨(.exit id,p),rfl,h,hp⟩;trivial
 |ret=>intro tail n p Q a w h hp;cases tail;exact wp_ret ⟨(.ret,p),rfl,h,hp⟩;trivial
 |region id ops draw=>
  intro tail n p Q a w h hp;cases tail;let⟨s,Di,amN,h4,hsub,hargs,cK,hend⟩:=abq D hbk h;let⟨e1,e2⟩:=YU F.af.c ops _ _ _ _ h4;have hg:Vs.gG K (dH (cy A (fI p))) a w:=by rw[DX];exact hp.1
  refine akj hC hN Q8 e1 (λhd=>?_) hg λu w' hg'=>?_;have:=cK hd;simp only[I3,ck]at this;refine⟨?_,this.1⟩;unfold Pt;rw[e2];exact hsub.pairs this.2;let⟨y,g1,g2,g3⟩:=hend u w' hg';exact⟨y,by rw[←g1];rfl,g2,g3⟩;trivial
 |seq x y V G=>
  intro tail n p Q a w h hp;cases tail;simp only[fA]at h;rw[ym]at h;refine wp_seq (wp_mono (V I n p _ a w h hp) ?_);rintro e u w' ⟨⟨r,C⟩,rfl,H,j⟩;cases r with|normal=>exact G I _ C Q u w' H j|exit i=>exact⟨_,rfl,H,j⟩|ret=>exact⟨_,rfl,H,j⟩
  exact G I _ p Q a w h hp
 |cond c x y V G=>
  intro tail n p Q a w h hp;cases tail;have sR:∀e,QW c p=J e→∀b,cE e=.d (.bool b)→a.eval c=.bool b:=by intro e E b T;unfold QW at E;split at E;rename_i t;split at E;rename_i c' hl;cases E;let⟨β,ω,Z,hr⟩:=hp.1;have:=hr.tmps t;rw[JR,hl]at this;have h2:=this.2;rw[T]at h2;exact h2;cases E;rename_i b';cases E;(have:b'=b:=by cases b'<;>cases b<;>first|rfl|(simp[kb,cE]at T));subst this;rfl;cases E
  simp only[fA]at h;split at h;rename_i E;exact ahO (sR _ E W rfl) (λ_=>V I n p Q a w h hp) (λT=>by cases T);rename_i E;exact ahO (sR _ E I rfl) (λT=>by cases T) (λ_=>G I _ p Q a w h hp);rename_i b E;rw[all_map]at h;have h1:=(A0 (p0:=cy A (fI p)) D (.br b (fA F A aB tbl x I n (fI p)) (fA F A aB tbl y I (n+nl x) (fI p))) ⟨A4 (F:=F) (tbl:=tbl) D x I n (fI p),A4 (F:=F) (tbl:=tbl) D y I _ (fI p)⟩).2 _ h;have fin:∀e a w,ku K A (Reach K A λx=>Q (l9 p.cI x)) e a w→ku K A Q e a w:=by intro e a w Y;let⟨z,g1,g2,g3⟩:=ku.reach Y;exact⟨l9 p.cI z,g1,g2,g3⟩
  exact ahO (sR _ E b rfl) (λT=>wp_mono (V I n (fI p) _ a w (h1.1 T) hp) λe u w' Y=>fin e u w' Y) (λT=>wp_mono (G I _ (fI p) _ a w (h1.2 T) hp) λe u w' Y=>fin e u w' Y);exact ab1 h;trivial
 |block id b ih=>
  intro tail n p Q a w h hp;cases tail;simp only[fA]at h;rw[all_map]at h;have f:((fA F A aB tbl b I n (fI p)).map (pv id)).eJ (fu (cy A (fI p)) A):=by rw[Tr.lD];exact Tr.hV (λx hx=>fu.pv hx) (A4 D b I n (fI p))
  have h1:=(A0 D _ f).2 _ h;rw[all_map]at h1;refine wp_block (wp_mono (ih I n (fI p) _ a w h1 hp) ?_);rintro e u w' ⟨⟨r,C⟩,rfl,H,j⟩;have hp2:dI K (dP A (pv id (r,C)).2) u w':=by grind [pv]
  let⟨y,g1,g2,g3⟩:=H u w' hp2;have fin:ku K A Q (uV (pv id (r,C)).1) u w':=⟨l9 p.cI y,g1,g2,g3⟩;cases r with|normal=>exact fin|ret=>exact fin|exit i=>show if i=id then ku K A Q .normal u w' else ku K A Q (.exit i) u w';by_cases hi:i=id;rw[aF hi];unfold pv at fin;simp only[hi,beq_self_eq_true]at fin;exact fin;rw[aV hi];have:(i==id)=I:=(by simpa using hi);unfold pv at fin;simp only[this]at fin;exact fin
  trivial
 |scope b ih=>intro tail n p Q a w h hp;cases tail;simp only[fA]at h;refine wp_scope_straight (wp_mono (ih I n p Q a w h hp) ?_);rintro e u w' ⟨⟨r,C⟩,rfl,H,j⟩;cases r<;>exact⟨_,rfl,H,j⟩;trivial
 |loop b ih=>
  intro tail n p Q a w h hp;cases tail;simp only[fA]at h;split at h;rename_i R hR;split at h;rename_i x0 hx hm;have A5:dI K (dP A (dE R.head.vs x0 (base A R.head p))) a w:=amU D hm (dI.gm (p:=p) D hx R.head.live hp);split at h;let⟨z,hz,hQ⟩:=h;generalize Y:base A R.head p=hd at *;intro fb k cs;have key:∀(m:Nat)(x:VT R.head.vs)(a:Act)(w:bZ),eD (λx=>((fA F A aB tbl b I (n+1) (dE R.head.vs x hd)).bind (yl A aB R hd)).run) m x=J z→dI K (dP A (dE R.head.vs x hd)) a w→∃e u w',ku K A Q e u w'∧Arrives K.P (lone (fb.at a (.code b:: .inLoop b::k)) cs w) fb k cs e u w':=by
   intro m;induction m with
   |zero=>intro x a w hi;cases hi
   |succ m Q7=>
    intro x a w hi hp1;have hstep:=amE hi;have round:∀o,((fA F A aB tbl b I (n+1) (dE R.head.vs x hd)).bind (yl A aB R hd)).run=J o→b.wp K.P (ku K A λy=>(yl A aB R hd y).all (λv=>v=o)∧fu (cy A (dE R.head.vs x hd)) A y) a w:=(by intro o ho;have h1:=(Tr.AL _ (λv=>v=o)).2 ⟨o,ho,rfl⟩;rw[ym]at h1;exact ih I (n+1) _ _ a w (Tr.td h1 (Tr.vt (A4 D b I (n+1) _))) hp1);have exit:∀(r:Ex)(C:bH)(o:VT R.head.vs⊕kX R.gq)(g:Act)(w₁:bZ),r≠.normal→(yl A aB R hd (r,C)).all (λv=>v=o)→fu (cy A (dE R.head.vs x hd)) A (r,C)→dI K (dP A C) g w₁→∃z',o=.inr z'∧∀Q,(vH A hd p.cI R.gq z').all Q→∃q,Q (r,q)∧dI K (dP A q) g w₁:=by
     intro r C o g w₁ X l f j;have Gs:(match rP A aB R.head hd C r R.gq with|some y=>Tr.dz (mm y)|none=>Tr.ai:Tr (VT R.head.vs⊕kX R.gq)).all (λv=>v=o):=by
      cases r with|normal=>exact cO rfl X|_=>exact l
     split at Gs;rename_i z' hz';exact⟨z',adJ Gs,amF D f.2 j R.gq z' hz'⟩;exact ab1 Gs
    rcases hstep with⟨x',hs,hrest⟩|hs
    obtain⟨e,g,w₁,⟨⟨r,C⟩,rfl,⟨l,f⟩,j⟩,B⟩:=round _ hs fb (.inLoop b::k) cs;cases r with
    |normal=>simp only[yl]at l;split at l;rename_i y hy;have e:y=x':=(by cases l;rfl);subst e;let⟨e₂,a₂,w₂,amT,S⟩:=Q7 y g w₁ hrest (amy D f.2 hy j);exact⟨e₂,a₂,w₂,amT,.of_steps (Steps.trans B (.one step_inLoop)) S⟩;exact ab1 l
    |exit i=>let⟨z',h1,_⟩:=exit _ C _ g w₁ (by simp) l f j;cases h1
    |ret=>let⟨z',h1,_⟩:=exit _ C _ g w₁ (by simp) l f j;cases h1
    obtain⟨e,g,w₁,⟨⟨r,C⟩,rfl,⟨l,f⟩,j⟩,B⟩:=round _ hs fb (.inLoop b::k) cs;have X:r≠.normal:=(by rintro rfl;simp only[yl]at l;split at l;cases l;exact l);let⟨z',h1,h2⟩:=exit _ C _ g w₁ X l f j;cases h1;let⟨q,H,hpq⟩:=h2 Q hQ;refine⟨_,g,w₁,⟨(r,q),rfl,H,hpq⟩,.pass (x:=.inLoop b) rfl (λ_ _=>.inl ?_) B⟩;cases r<;>first|exact cO rfl X|simp[uV]
  let⟨e,u,w',H,B⟩:=key fuel x0 a w hz A5;exact⟨e,u,w',H,.of_steps (.one step_loop) B⟩;split at h;rename_i Y hit;split at h;rename_i hok;let⟨z,hz,hQ⟩:=h;exact amP hC hN D hbk ih Y hok hit (λhl=>abl (by simpa using hl)) hz hQ A5;exact ab1 h;exact ab1 h;exact ab1 h;exact ab1 h;trivial
 |_=>intro tail n p Q a w h hp;cases tail<;>first|exact ab1 h|trivial
end
def amX{K:dh}{F:iF}{A:List aP}{aB:List aC}{tbl:Nat→Option gJ}(a:jy K A aB)(c:Code)(n:Nat)(p:bH):(Q0 F A aB tbl c n p).eJ (fu (cy A p) A):=A4 a c I n p
def amY{K:dh}{F:iF}{A:List aP}{aB:List aC}{tbl:Nat→Option gJ}(e:nn K.P F.af.c)(f:K.N=F.af.N)(b:K.P.follows .mixedOrders=W)(g:jy K A aB)(d:mF A aB F.hI=W)(c:Code)(n:Nat)(p:bH)(Q:Ex×bH→Prop)(a:Act)(w:bZ)(h:(Q0 F A aB tbl c n p).all Q)(hp:dI K (dP A p) a w):c.wp K.P (ku K A Q) a w:=amV e f b g d c I n p Q a w h hp
def vL{α β:Type}(f:α→Q β):M α→Q (M β)
 |[]=>J []|a::r=>match f a,vL f r with|some b,J l=>J (b::l)|_,_=>O
def Q9{α β:Type}{f:α→Q β}{g:β→α}(h:∀b,f (g b)=J b):∀(l:M β),vL f (l.map g)=J l|[]=>rfl|b::l=>by simp only[eU,vL,h,Q9 h l]
def kx:(t:Ty)→M D→Q (t.T×M D)
 |.int k=>λds=>match ds with|.int k' n::r=>if k'=k then J (n,r)else O|_=>O
 |.bool=>λds=>match ds with|.bool b::r=>J (b,r)|_=>O
 |.bh=>λds=>match ds with|.bh s::r=>J (s,r)|_=>O
 |.sl t=>λds=>match ds with
  |.nil::r=>J (O,r)|.sl e xs::r=>if e=t.e then(match vL (λx=>match kx t x with|some (y,[])=>J y|_=>O) xs with|some l=>J (J l,r)|none=>O)else O
  |_=>O
 |.bG h t=>λds=>match kx h ds with
  |some (x,r)=>match kx t r with|some (y,a)=>J ((x,y),a)|none=>O
  |none=>O
 |.set k=>λds=>kx k ds|.cb _ h t=>λds=>match kx h ds with
  |some (x,r)=>match kx t r with|some (y,a)=>J ((x,y),a)|none=>O
  |none=>O
def yo:∀(t:Ty)(x:t.T)(r:M D),kx t (bf t x++r)=J (x,r)
 |.int k,n,r=>by simp[kx,bf]|.bool,b,r=>rfl|.bh,s,r=>rfl|.sl t,o,r=>by
  cases o with|none=>rfl|some xs=>simp only[bf,List.cons_append,List.nil_append,kx,bI];rw[Q9 (f:=λx=>match kx t x with|some (y,[])=>J y|_=>O) (g:=bf t) (λb=>by have:=yo t b [];grind)]
 |.bG h t,x,r=>by simp only[bf,kx,List.append_assoc];rw[yo h x.1];simp only;rw[yo t x.2]|.set k,x,r=>yo k x r|.cb _ h t,x,r=>by simp only[bf,kx,List.append_assoc];rw[yo h x.1];simp only;rw[yo t x.2]
def yp(t:Ty)(ds:M D):Q t.T:=match kx t ds with|some (y,[])=>J y|_=>O
def abz(t:Ty)(x:t.T):yp t (bf t x)=J x:=by unfold yp;have:=yo t x [];grind
def A6(t:Ty)(xs:M (M D)):Q (M t.T):=vL (yp t) xs
def Kf(t:Ty)(xs:M t.T):A6 t (xs.map (bf t))=J xs:=Q9 (abz t) xs
def Sh.dJ:(h:Sh)→C→Q h.T
 |.i k=>λc=>match c with|.d (.int k' x)=>if k'=k then J x else O|_=>O
 |.b=>λc=>match c with|.d (.bool x)=>J x|_=>O
 |.s=>λc=>match c with|.d (.bh x)=>J x|_=>O
 |.l m t=>λc=>match m,c with|.data,.d (.sl e xs)=>if e=t.e then A6 t xs else O|.ak,.ak e xs=>if e=t.e then A6 t xs else O|_,_=>O
 |.n m t=>λc=>match m,c with|.data,.d .nil=>J O|.ak,.d .nil=>J O|.data,.d (.sl e xs)=>if e=t.e then(A6 t xs).map J else O|.ak,.ak e xs=>if e=t.e then(A6 t xs).map J else O|_,_=>O
 |.p k off=>λc=>match c with|.aW k' a=>if k=k'∧off=a then J ()else O|_=>O
 |.dd=>λc=>match c with|.bK=>J ()|_=>O
 |.u k=>λc=>match c with|.d (.cX k')=>if k'=k then J ()else O|_=>O
 |.r z=>λc=>match c with|.d (.rep f ps)=>if f=z then J ps else O|_=>O
def Sh.amZ:Sh→az|.p _ _=>I|_=>W
def Sh.plain:Sh→az|.l (.bj ..) _=>I|.n (.bj ..) _=>I|_=>W
theorem Sh.mI:∀{h:Sh}(x:h.T),h.plain=W→h.dJ (cE (h.cD x))=J x
 |.i k,x,_=>by simp[Sh.dJ,Sh.cD,cE]|.b,x,_=>rfl|.dd,x,_=>rfl|.u k,x,_=>by simp[Sh.dJ,Sh.cD,cE]|.r z,x,_=>by simp[Sh.dJ,Sh.cD,cE]|.s,x,_=>rfl|.p k off,x,_=>by simp[Sh.dJ,Sh.cD,cE]|.l m t,x,hp=>by
  cases m with
  |bj=>cases hp
  |data=>simp only[Sh.dJ,Sh.cD,cE,lC,bI];exact Kf t x|ak=>simp only[Sh.dJ,Sh.cD,cE,lC,bI];exact Kf t x
 |.n m t,o,hp=>by
  cases m with
  |bj=>cases hp
  |data=>
   cases o with|none=>rfl|some x=>simp only[Sh.dJ,Sh.cD,cE,lC,bI];rw[Kf t x];rfl
  |ak=>
   cases o with|none=>rfl|some x=>simp only[Sh.dJ,Sh.cD,cE,lC,bI];rw[Kf t x];rfl
@[reducible] def HT:M Sh→Type
  |[]=>bV|h::r=>match r with|[]=>h.T|a::r=>h.T×HT (a::r)
def HT.cD:(l:M Sh)→HT l→M E|[],_=>[]|[h],x=>[h.cD x]|h::a::r,x=>h.cD x.1::HT.cD (a::r) x.2
def HT.eV:(l:M Sh)→M E→Q (HT l)
 |[],cs=>match cs with|[]=>J ()|_=>O
 |[h],cs=>match cs with|[c]=>h.eV c|_=>O
 |h::a::r,cs=>match cs with
  |c::cs=>match h.eV c,HT.eV (a::r) cs with|some x,J y=>J (x,y)|_,_=>O
  |[]=>O
def HT.dJ:(l:M Sh)→M C→Q (HT l)
 |[],cs=>match cs with|[]=>J ()|_=>O
 |[h],cs=>match cs with|[c]=>h.dJ c|_=>O
 |h::a::r,cs=>match cs with
  |c::cs=>match h.dJ c,HT.dJ (a::r) cs with|some x,J y=>J (x,y)|_,_=>O
  |[]=>O
theorem HT.l8:∀(l:M Sh)(cs:M E)(x:HT l),HT.eV l cs=J x→aU (HT.cD l x)=aU cs
 |[],cs,x,e=>by cases cs<;>first|rfl|cases e
 |[h],cs,x,e=>by
  match cs with
  |[]=>cases e
  |[c]=>exact bX (λz=>[z]) (Sh.l8 (h:=h) e)|_::_::_=>cases e
 |h::a::r,cs,x,e=>by
  cases cs with
  |nil=>cases e
  |cons c cs=>simp only[HT.eV]at e;split at e;rename_i y z h1 h2;cases e;show cE (h.cD y)::aU (HT.cD (a::r) z)=cE c::aU cs;rw[Sh.l8 h1,HT.l8 (a::r) cs z h2];cases e
theorem HT.mI:∀(l:M Sh)(x:HT l),l.all Sh.plain=W→HT.dJ l (aU (HT.cD l x))=J x
 |[],x,_=>rfl|[h],x,hp=>Sh.mI (h:=h) x (by simpa using hp)|h::a::r,x,hp=>by
  rw[nR,ck]at hp
  show(match h.dJ (cE (h.cD x.1)),HT.dJ (a::r) (aU (HT.cD (a::r) x.2))with|some x,J y=>J (x,y)|_,_=>O)=_
  rw[Sh.mI x.1 hp.1,HT.mI (a::r) x.2 hp.2]
def HT.gV:(l:M Sh)→HT l|[]=>()|[h]=>h.gV|h::a::r=>(h.gV,HT.gV (a::r))
def yq:M (aC×U)→M (aC×U)→az|[],[]=>W|p::r,a::b=>gH p.1 a.1&&p.2==a.2&&yq r b|_,_=>I
def abA:∀{l a:M (aC×U)},yq l a=W↔l=a|[],[]=>by simp[yq]|[],_::_=>by simp[yq]|_::_,[]=>by simp[yq]|(k,o)::r,(k',b)::c=>by simp only[yq,ck,lE,dL,abA,zJ,gO]
inductive It where
 |one(h:Sh)|bC(t:Ty)|cells(l:List Sh)|aW(k:aC)(off:Nat)|dj(f:FuncId)(caps:List (aC×Nat):=[])|cX(k:NK)|nB|kK(k:aC)(off:Nat)
@[reducible] def It.T:It→Type|.one h=>h.T|.bC t=>t.T|.cells l=>HT l|.aW _ _=>bV|.dj _ _=>bV|.cX _=>bV|.nB=>bV|.kK _ _=>bV
def It.has:It→az|.one _=>W|.bC _=>W|.cells _=>W|.aW _ _=>I|.dj _ _=>I|.cX _=>I|.nB=>I|.kK _ _=>I
def It.cD:(i:It)→i.T→aP|.one h,x=>.one (h.cD x)|.bC t,x=>.agg (fc t x)|.cells l,x=>.agg (HT.cD l x)|.aW k off,_=>.one (.aW k off)|.dj f caps,_=>.one (.dj f caps)|.cX k,_=>.one (.cX k)|.nB,_=>.one .nil|.kK k off,_=>.agg [.aW k off]
def It.eV:(i:It)→aP→Q i.T
 |.one h=>λv=>match v with|.one c=>h.eV c|_=>O
 |.bC t=>λv=>match v with|.agg cs=>lA t cs|_=>O
 |.cells l=>λv=>match v with|.agg cs=>HT.eV l cs|_=>O
 |.aW k off=>λv=>match v with
  |.one (.aW k' a)=>match gH k k'&&off==a with|true=>J ()|false=>O
  |_=>O
 |.dj f caps=>λv=>match v with
  |.one (.dj b l)=>match f==b&&yq caps l with|true=>J ()|false=>O
  |_=>O
 |.cX k=>λv=>match v with|.one (.cX k')=>if k=k' then J ()else O|_=>O
 |.nB=>λv=>match v with|.one .nil=>J ()|_=>O
 |.kK k off=>λv=>match v with
  |.agg [.aW k' a]=>match gH k k'&&off==a with|true=>J ()|false=>O
  |_=>O
def yr:M C→Q (M D)
 |[]=>J []|.d x::r=>match yr r with|some l=>J (x::l)|none=>O
 |_=>O
def abB:∀(l:M D),yr (l.map .d)=J l|[]=>rfl|d::l=>by simp only[eU,yr,abB l]
def It.dJ:(i:It)→SV→Q i.T
 |.one h=>λv=>match v with|.one c=>h.dJ c|_=>O
 |.bC t=>λv=>match v with
  |.agg cs=>match yr cs with|some ds=>yp t ds|none=>O
  |_=>O
 |.cells l=>λv=>match v with|.agg cs=>HT.dJ l cs|_=>O
 |.aW k off=>λv=>match v with|.one (.aW k' a)=>if k=k'∧off=a then J ()else O|_=>O
 |.dj f caps=>λv=>match v with|.one (.dj b l)=>if f=b∧l=caps then J ()else O|_=>O
 |.cX k=>λv=>match v with|.one (.d (.cX k'))=>if k=k' then J ()else O|_=>O
 |.nB=>λv=>match v with|.one (.d .nil)=>J ()|_=>O
 |.kK k off=>λv=>match v with|.agg [.aW k' a]=>if k=k'∧off=a then J ()else O|_=>O
def It.ok:It→az|.one h=>h.plain&&h.amZ|.cells l=>l.all Sh.plain|.aW (.aB _) _=>W|.aW _ _=>I|_=>W
def It.gV:(i:It)→i.T|.one h=>h.gV|.bC t=>t.zero|.cells l=>HT.gV l|.aW _ _=>()|.dj _ _=>()|.cX _=>()|.nB=>()|.kK _ _=>()
theorem It.l8:∀{i:It}{v:aP}{x:i.T},i.eV v=J x→aL (i.cD x)=aL v
 |.one h,v,x,e=>by
  cases v with|one c=>exact bX SV.one (Sh.l8 (h:=h) e)|_=>cases e
 |.bC t,v,x,e=>by
  cases v with|agg cs=>have e:lA t cs=J x:=e;show SV.agg (aU (fc t x))=SV.agg (aU cs);rw[kV,Jy e]|_=>cases e
 |.cells l,v,x,e=>by
  cases v with|agg cs=>exact bX SV.agg (HT.l8 l cs x e)|_=>cases e
 |.aW k off,v,x,e=>by simp only[It.eV]at e;split at e;split at e;rename_i h;simp only[ck,dL,lE]at h;obtain⟨rfl,rfl⟩:=h;rfl;cases e;cases e
 |.dj f caps,v,x,e=>by simp only[It.eV]at e;split at e;split at e;rename_i h;simp only[ck,dL,abA]at h;obtain⟨rfl,rfl⟩:=h;rfl;cases e;cases e
 |.cX k,v,x,e=>by simp only[It.eV]at e;split at e;split at e;rename_i h;subst h;rfl;cases e;cases e
 |.nB,v,x,e=>by simp only[It.eV]at e;split at e;rfl;cases e
 |.kK k off,v,x,e=>by simp only[It.eV]at e;split at e;split at e;rename_i h;simp only[ck,dL,lE]at h;obtain⟨rfl,rfl⟩:=h;rfl;cases e;cases e
theorem It.mI:∀{i:It}(x:i.T),i.ok=W→i.dJ (aL (i.cD x))=J x
 |.one h,x,hp=>Sh.mI (h:=h) x (by simp_all [It.ok])|.bC t,x,_=>by
  show(match yr (aU (fc t x))with|some ds=>yp t ds|none=>O)=_
  rw[kV,abB];exact abz t x
 |.cells l,x,hp=>HT.mI l x hp|.aW k off,x,_=>by simp[It.dJ,It.cD,aL,cE]|.dj f caps,x,_=>by simp[It.dJ,It.cD,aL,cE]|.cX k,x,_=>by simp[It.dJ,It.cD,aL,cE]|.nB,x,_=>by simp[It.dJ,It.cD,aL,cE]|.kK k off,x,_=>by simp[It.dJ,It.cD,aL,aU,cE]
def kY(l:M It):az:=l.any It.has
@[reducible] def T2(b:az)(α β:Type):Type:=match b with|true=>α×β|false=>α
def T2.fst{α β:Type}:(b:az)→T2 b α β→α|true,x=>x.1|false,x=>x
def T2.snd{α β:Type}:(b:az)→β→T2 b α β→β|true,_,x=>x.2|false,d,_=>d
def T2.mk{α β:Type}:(b:az)→α→β→T2 b α β|true,x,y=>(x,y)|false,x,_=>x
def T2.fst_mk{α β:Type}(b:az)(x:α)(y:β):T2.fst b (T2.mk b x y)=x:=by cases b<;>rfl
def T2.am0{α β:Type}(b:az)(d:β)(z:T2 b α β):T2.mk b (T2.fst b z) (T2.snd b d z)=z:=by cases b<;>rfl
@[reducible] def IT:M It→Type
  |[]=>bV|i::r=>match i.has with|true=>T2 (kY r) i.T (IT r)|false=>IT r
def IT.hd:(i:It)→(r:M It)→IT (i::r)→i.T|.one _,r=>λx=>T2.fst (kY r) x|.bC _,r=>λx=>T2.fst (kY r) x|.cells _,r=>λx=>T2.fst (kY r) x|.aW _ _,_=>λ_=>()|.dj _ _,_=>λ_=>()|.cX _,_=>λ_=>()|.nB,_=>λ_=>()|.kK _ _,_=>λ_=>()
def IT.tl(d:(r:M It)→IT r):(i:It)→(r:M It)→IT (i::r)→IT r|.one _,r=>λx=>T2.snd (kY r) (d r) x|.bC _,r=>λx=>T2.snd (kY r) (d r) x|.cells _,r=>λx=>T2.snd (kY r) (d r) x|.aW _ _,_=>λx=>x|.dj _ _,_=>λx=>x|.cX _,_=>λx=>x|.nB,_=>λx=>x|.kK _ _,_=>λx=>x
def IT.cons:(i:It)→(r:M It)→i.T→IT r→IT (i::r)|.one _,r=>λx y=>T2.mk (kY r) x y|.bC _,r=>λx y=>T2.mk (kY r) x y|.cells _,r=>λx y=>T2.mk (kY r) x y|.aW _ _,_=>λ_ y=>y|.dj _ _,_=>λ_ y=>y|.cX _,_=>λ_ y=>y|.nB,_=>λ_ y=>y|.kK _ _,_=>λ_ y=>y
def IT.gV:(l:M It)→IT l|[]=>()|i::r=>IT.cons i r i.gV (IT.gV r)
def IT.cD:(l:M It)→IT l→M aP|[],_=>[]|i::r,x=>i.cD (IT.hd i r x)::IT.cD r (IT.tl IT.gV i r x)
def IT.eV:(l:M It)→M aP→Q (IT l)
 |[],vs=>match vs with|[]=>J ()|_=>O
 |i::r,vs=>match vs with
  |v::vs=>match i.eV v,IT.eV r vs with|some x,J y=>J (IT.cons i r x y)|_,_=>O
  |[]=>O
def IT.dJ:(l:M It)→M SV→Q (IT l)
 |[],vs=>match vs with|[]=>J ()|_=>O
 |i::r,vs=>match vs with
  |v::vs=>match i.dJ v,IT.dJ r vs with|some x,J y=>J (IT.cons i r x y)|_,_=>O
  |[]=>O
def IT.unit:∀(l:M It),kY l=I→∀x y:IT l,x=y
 |[],_,_,_=>rfl|i::r,h,x,y=>by
  have h2:i.has=I∧kY r=I:=by grind [kY]
  cases i with
  |one _=>cases h2.1
  |bC _=>cases h2.1
  |cells _=>cases h2.1
  |aW _ _=>exact IT.unit r h2.2 x y|dj _ _=>exact IT.unit r h2.2 x y|cX _=>exact IT.unit r h2.2 x y|nB=>exact IT.unit r h2.2 x y|kK _ _=>exact IT.unit r h2.2 x y
def T2.snd_mk(r:M It){α:Type}(x:α)(y d:IT r):T2.snd (kY r) d (T2.mk (kY r) x y)=y:=by
 have:∀b,kY r=b→T2.snd b d (T2.mk b x y)=y:=by
  intro b a;cases b with|true=>rfl|false=>exact IT.unit r a d y
 exact this _ rfl
def IT.Ef(i:It)(r:M It)(x:i.T)(y:IT r):IT.hd i r (IT.cons i r x y)=x:=by cases i<;>first|exact T2.fst_mk (kY r) x y|rfl
def IT.Eg(i:It)(r:M It)(x:i.T)(y:IT r):IT.tl IT.gV i r (IT.cons i r x y)=y:=by cases i<;>first|exact T2.snd_mk r x y _|rfl
def IT.am1(i:It)(r:M It)(z:IT (i::r)):IT.cons i r (IT.hd i r z) (IT.tl IT.gV i r z)=z:=by cases i<;>first|exact T2.am0 (kY r) _ z|rfl
theorem IT.l8:∀(l:M It)(vs:M aP)(x:IT l),IT.eV l vs=J x→(IT.cD l x).map aL=vs.map aL
 |[],vs,x,e=>by cases vs<;>first|rfl|cases e
 |i::r,vs,x,e=>by
  cases vs with
  |nil=>cases e
  |cons v vs=>simp only[IT.eV]at e;split at e;rename_i y z h1 h2;cases e;simp only[IT.cD,eU];rw[IT.Ef,IT.Eg,It.l8 h1,IT.l8 r vs z h2];cases e
theorem IT.mI:∀(l:M It)(x:IT l),l.all It.ok=W→IT.dJ l ((IT.cD l x).map aL)=J x|[],x,_=>rfl|i::r,x,hp=>by rw[nR,ck]at hp;simp only[IT.cD,eU,IT.dJ];rw[It.mI _ hp.1,IT.mI r _ hp.2];simp only;rw[IT.am1]
def Kg{α β:Type}{f:α→Q β}{g:β→α}(h:∀a b,f a=J b→a=g b):∀(l:M α)(r:M β),vL f l=J r→l=r.map g
 |[],r,e=>by cases e;rfl
 |a::l,r,e=>by simp only[vL]at e;split at e;rename_i b c h1 h2;cases e;rw[h a b h1,Kg h l c h2];rfl;cases e
def yt:∀(t:Ty)(ds:M D)(x:t.T)(r:M D),kx t ds=J (x,r)→ds=bf t x++r
 |.int k,ds,x,r,e=>by simp only[kx]at e;split at e;split at e;rename_i h;subst h;cases e;rfl;cases e;cases e
 |.bool,ds,x,r,e=>by simp only[kx]at e;split at e<;>cases e;rfl
 |.bh,ds,x,r,e=>by simp only[kx]at e;split at e<;>cases e;rfl
 |.sl t,ds,x,r,e=>by simp only[kx]at e;split at e;cases e;rfl;split at e;rename_i h;subst h;split at e;rename_i l f;cases e;have:=Kg (g:=bf t) (λa b c=>by split at c;rename_i y hy;cases c;have:=yt t a _ [] hy;simpa using this;cases c) _ _ f;rw[this];rfl;cases e;cases e;cases e
 |.bG h t,ds,x,r,e=>by simp only[kx]at e;split at e;rename_i y d h1;split at e;rename_i z i h2;cases e;rw[yt h ds y d h1,yt t d z r h2];simp[bf];cases e;cases e
 |.set k,ds,x,r,e=>yt k ds x r e|.cb _ h t,ds,x,r,e=>by simp only[kx]at e;split at e;rename_i y d h1;split at e;rename_i z i h2;cases e;rw[yt h ds y d h1,yt t d z r h2];simp[bf];cases e;cases e
def abC{t:Ty}{ds:M D}{x:t.T}(h:yp t ds=J x):ds=bf t x:=by unfold yp at h;split at h;rename_i y hy;cases h;have:=yt t ds _ [] hy;simpa using this;cases h
def Kh{t:Ty}{ds:M (M D)}{xs:M t.T}(h:A6 t ds=J xs):ds=xs.map (bf t):=Kg (λ_ _=>abC) ds xs h
def Sh.jf:∀{h:Sh}{c:C}{x:h.T},h.dJ c=J x→c=cE (h.cD x)
 |.dd,c,x,e=>by simp only[Sh.dJ]at e;split at e<;>cases e;rfl
 |.u k,c,x,e=>by simp only[Sh.dJ]at e;split at e;split at e;rename_i h;subst h;rfl;cases e;cases e
 |.r z,c,x,e=>by simp only[Sh.dJ]at e;split at e;split at e;rename_i h;subst h;cases e;rfl;cases e;cases e
 |.p k off,c,x,e=>by simp only[Sh.dJ]at e;split at e;split at e;rename_i h;obtain⟨rfl,rfl⟩:=h;rfl;cases e;cases e
 |.i k,c,x,e=>by simp only[Sh.dJ]at e;split at e;split at e;rename_i h;subst h;cases e;rfl;cases e;cases e
 |.b,c,x,e=>by simp only[Sh.dJ]at e;split at e<;>cases e;rfl
 |.s,c,x,e=>by simp only[Sh.dJ]at e;split at e<;>cases e;rfl
 |.l m t,c,x,e=>by simp only[Sh.dJ]at e;split at e;split at e;rename_i h;subst h;rw[Kh e];rfl;cases e;split at e;rename_i h;subst h;rw[Kh e];rfl;cases e;cases e
 |.n m t,c,x,e=>by simp only[Sh.dJ]at e;split at e;cases e;rfl;cases e;rfl;split at e;rename_i h;subst h;obtain⟨y,h1,rfl⟩:=pT.1 e;rw[Kh h1];rfl;cases e;split at e;rename_i h;subst h;obtain⟨y,h1,rfl⟩:=pT.1 e;rw[Kh h1];rfl;cases e;cases e
def HT.jf:∀(l:M Sh)(cs:M C)(x:HT l),HT.dJ l cs=J x→cs=aU (HT.cD l x)
 |[],cs,x,e=>by cases cs<;>first|rfl|cases e
 |[h],cs,x,e=>by
  match cs with
  |[]=>cases e
  |[c]=>exact bX (λz=>[z]) (Sh.jf (h:=h) e)|_::_::_=>cases e
 |h::a::r,cs,x,e=>by
  cases cs with
  |nil=>cases e
  |cons c cs=>simp only[HT.dJ]at e;split at e;rename_i y z h1 h2;cases e;show c::cs=cE (h.cD y)::aU (HT.cD (a::r) z);rw[←Sh.jf h1,←HT.jf (a::r) cs z h2];cases e
def abD:∀{cs:M C}{l:M D},yr cs=J l→cs=l.map .d
 |[],l,e=>by cases e;rfl
 |c::cs,l,e=>by
  cases c with
  |d x=>simp only[yr]at e;split at e;rename_i a h;cases e;rw[abD h];rfl;cases e
  |_=>cases e
def It.jf:∀{i:It}{v:SV}{x:i.T},i.dJ v=J x→v=aL (i.cD x)
 |.one h,v,x,e=>by
  cases v with|one c=>exact bX SV.one (Sh.jf (h:=h) e)|_=>cases e
 |.bC t,v,x,e=>by
  cases v with
  |agg cs=>simp only[It.dJ]at e;split at e;rename_i ds hd;show SV.agg cs=SV.agg (aU (fc t x));rw[kV,←abC e,abD hd];cases e
  |_=>cases e
 |.cells l,v,x,e=>by
  cases v with|agg cs=>exact bX SV.agg (HT.jf l cs x e)|_=>cases e
 |.aW k off,v,x,e=>by simp only[It.dJ]at e;split at e;split at e;rename_i h;obtain⟨rfl,rfl⟩:=h;rfl;cases e;cases e
 |.dj f caps,v,x,e=>by simp only[It.dJ]at e;split at e;split at e;rename_i h;obtain⟨rfl,rfl⟩:=h;rfl;cases e;cases e
 |.cX k,v,x,e=>by simp only[It.dJ]at e;split at e;split at e;rename_i h;subst h;rfl;cases e;cases e
 |.nB,v,x,e=>by simp only[It.dJ]at e;split at e;rfl;cases e
 |.kK k off,v,x,e=>by simp only[It.dJ]at e;split at e;split at e;rename_i h;obtain⟨rfl,rfl⟩:=h;rfl;cases e;cases e
def IT.jf:∀(l:M It)(vs:M SV)(x:IT l),IT.dJ l vs=J x→vs=(IT.cD l x).map aL
 |[],vs,x,e=>by cases vs<;>first|rfl|cases e
 |i::r,vs,x,e=>by
  cases vs with
  |nil=>cases e
  |cons v vs=>simp only[IT.dJ]at e;split at e;rename_i y z h1 h2;cases e;simp only[IT.cD,eU];rw[IT.Ef,IT.Eg,←It.jf h1,←IT.jf r vs z h2];cases e
def Ki:U→M aP→M (U×aP)|_,[]=>[]|i,v::vs=>(i,dU.gD {v} (.bN i))::Ki (i+1) vs
def vM:U→M (M E)→M (aC×M E)|_,[]=>[]|i,b::a=>(.aB i,b)::vM (i+1) a
def yu(A:M aP)(B:M (M E)):bH:={cj:=Ki 0 A,aI:=vM 0 B,cH:=[],cI:=[]}
def abE:∀(A:M aP)(i:U),(Ki i A).map (λx=>(x.1,aL x.2))=u7 i (A.map aL)|[],i=>rfl|v::A,i=>by simp only[Ki,eU,u7,I6];rw[abE A (i+1)];congr 2;exact copy_eq {v} (.bN i)
def abF:∀(B:M (M E))(i:U),(vM i B).map (λx=>(x.1,aU x.2))=va i (B.map aU)|[],i=>rfl|b::B,i=>by simp only[vM,eU,va];rw[abF B (i+1)]
def am2(A:M aP)(B:M (M E)):dP A (yu A B)=Av (A.map aL) (B.map aU):=by simp only[dP,yu,Av,abE,abF,jd]
def Ra(af:bM):nV→PE aP
 |.tmp t=>fh (.tmp t)|.cell a t=>match af.ti t with|some i=>do Az i (←fX (.tmp a))|none=>.ai
def Kj(af:bM):M nV→PE (M aP)|[]=>.ret []|r::rs=>do let v ←Ra af r;let vs ←Kj af rs;.ret (v::vs)
def Rb:E→PE E
 |.l (.bj (.bN i) j hv cv k) t xs=>pn (.l (.bj (.bN i) j hv cv k) t xs)|.n (.bj (.bN i) j hv cv k) t o=>pn (.n (.bj (.bN i) j hv cv k) t o)|.it m t xs a=>match m with|.bj .. =>.ai|m=>.ret (.it m t xs a)
 |c=>.ret c
def Kk(c:E):PE E:=Rb c
def Eh:M E→PE (M E)|[]=>.ret []|c::cs=>do let a ←Kk c;let r ←Eh cs;.ret (a::r)
def A7:aP→PE aP|.one c=>do .ret (.one (←Kk c))|.agg cs=>do .ret (.agg (←Eh cs))|_=>.ai
def Kl:M aP→PE (M aP)|[]=>.ret []|v::vs=>do let a ←A7 v;let r ←Kl vs;.ret (a::r)
def Rc:E→az|.aW _ _=>W|.bK=>W|c=>rK c
def am3{cs:M E}(h:cs.all Rc=W):(aU cs).all easy=W:=by
 simp only[aU,List.all_map,gy,Function.comp_apply]at h ⊢;intro c a;have:=h c a;cases c with
 |aW k off=>rfl|l m t xs=>cases m<;>first|rfl|cases this
 |n m t o=>cases m<;>cases o<;>first|rfl|cases this
 |_=>first|rfl|cases this
def Re(k:aC):PE bV:=
 .aE (.box k) λx=>match x.v with
  |.agg cs=>match cs.all Rc with|true=>.ret ()|false=>.ai
  |_=>.ai
def Km:M aC→PE bV|[]=>.ret ()|k::ks=>do Re k;Km ks
def A8(v:aP):az×M E:=match v with|.one c=>(I,[c])|.agg cs=>(W,cs)|_=>(I,[])
def pw:M aP→aP|[v]=>v|vs=>.bw (vs.map A8)
def Ba(ks:M aC):E→PE E
 |.aW k off=>do bD (ks.any (gH k));.ret (.aW (.aB (idx k ks)) off)|.dj f caps=>do bD caps.isEmpty;.ret (.dj f [])|c=>match rK c with|true=>.ret c|false=>.ai
def vN(ks:M aC):M E→PE (M E)|[]=>.ret []|c::cs=>do let a ←Ba ks c;let r ←vN ks cs;.ret (a::r)
def yv(ks:M aC):M (az×M E)→PE (M (az×M E))|[]=>.ret []|(b,cs)::vs=>do let a ←vN ks cs;let r ←yv ks vs;.ret ((b,a)::r)
def px(ks:M aC):aP→PE aP|.one c=>do .ret (.one (←Ba ks c))|.agg cs=>do .ret (.agg (←vN ks cs))|.bw vs=>do .ret (.bw (←yv ks vs))|.undef=>.ai
def Rf(a:U)(cs:M E):M aC:=jT a++(nh (oy cs)).filter λk=> !k.isIn
def yw(af:bM)(res:M nV)(b:U):PE (aP×M (M E)):=do
 let vs ←Kj af res
 let ks:=Rf b (vs.flatMap aP.cells)
 Km ks
 let a ←Kl vs
 let c ←sX (.tmp 0) (Y6 af.nb) (pw a)
 let d ←qo ks ks
 let e ←px ks c
 .ret (e,d)
def am4(af:bM)(r:nV)(s:bp):ae s (Ra af r) aL (Aq af r):=by
 cases r with
 |tmp t=>exact fU (.tmp t) s|cell a t=>
  simp only[Ra,Aq];cases af.ti t with|none=>exact ae.ai|some i=>simp only[bB,bE];exact ae.bind (ga _ s) λc b=>ZT i c b
def abG(af:bM):∀(rs:M nV)(s:bp),ae s (Kj af rs) (jq aL) (Ar af rs)|[],s=>ae.ret rfl|r::rs,s=>by simp only[Kj,Ar,bB,bE];exact ae.bind (am4 af r s) λv a=>ae.bind (abG af rs a) λvs b=>ae.ret rfl
def abH(c:E)(s:bp):ae s (Kk c) cE (xR (cE c)):=by
 unfold Kk;cases c with
 |l m t xs=>
  cases m with
  |bj r j hv cv k=>
   cases r with|bN i=>simp only[Rb,xR,cE,lC,bE];exact AV (vA (.l (.bj (.bN i) j hv cv k) t xs) s) (AW _ s)|_=>exact ae.ret rfl
  |_=>exact ae.ret rfl
 |n m t o=>
  cases m with
  |bj r j hv cv k=>
   cases r with
   |bN i=>
    have h:=AV (vA (.n (.bj (.bN i) j hv cv k) t o) s) (AW _ s);cases o with|none=>exact h|some xs=>simp only[Rb,xR,cE,lC,bE];exact h
   |_=>cases o<;>exact ae.ret rfl
  |_=>cases o<;>exact ae.ret rfl
 |hO b=>cases b<;>exact ae.ret rfl
 |it m t xs a=>cases m<;>first|exact ae.ret rfl|exact ae.ai
 |_=>exact ae.ret rfl
def abI:∀(cs:M E)(s:bp),ae s (Eh cs) aU (uW (aU cs))|[],s=>ae.ret rfl|c::cs,s=>by show ae s (Eh (c::cs)) aU (uW (cE c::aU cs));simp only[Eh,uW,bB,bE];exact ae.bind (abH c s) λd a=>ae.bind (abI cs a) λb e=>ae.ret rfl
def am5(v:aP)(s:bp):ae s (A7 v) aL (qj (aL v)):=by
 cases v with|one c=>show ae s (A7 (.one c)) aL (qj (.one (cE c)));simp only[A7,qj,bB,bE];exact ae.bind (abH c s) λa b=>ae.ret rfl|agg cs=>show ae s (A7 (.agg cs)) aL (qj (.agg (aU cs)));simp only[A7,qj,bB,bE];exact ae.bind (abI cs s) λa b=>ae.ret rfl|_=>exact ae.ai
def abJ:∀(vs:M aP)(s:bp),ae s (Kl vs) (jq aL) (As (vs.map aL))|[],s=>ae.ret rfl|v::vs,s=>by simp only[eU,Kl,As,bB,bE];exact ae.bind (am5 v s) λc a=>ae.bind (abJ vs a) λb d=>ae.ret rfl
def am6(k:aC)(s:bp):ae s (Re k) (λ_=>()) (Vs.settle k):=by
 unfold Re Vs.settle;refine ae.aE ?_;cases hv:(s.aE (.box k)).v with
 |agg cs=>
  simp only[cL,hv,aL];cases hp:cs.all Rc with|false=>exact ae.ai|true=>rw[aF (am3 hp)];exact ae.ret rfl
 |_=>simp only[cL,hv,aL];exact ae.ai
def abK:∀(ks:M aC)(s:bp),ae s (Km ks) (λ_=>()) (Au ks)|[],s=>ae.ret rfl|k::ks,s=>by simp only[Km,Au,bB,bE];exact ae.bind (am6 k s) λ_ a=>abK ks a
def yx(vs:M aP):aL (pw vs)=I5 (vs.map aL):=by
 match vs with
 |[]=>rfl|[v]=>rfl|v::u::r=>
  show SV.bw (ft ((v::u::r).map A8))=SV.bw (((v::u::r).map aL).map λv=>match v with|.one c=>(I,[c])|.agg cs=>(W,cs)|_=>(I,[]))
  congr 1;generalize v::u::r=l;induction l with|nil=>rfl|cons x l a=>show((A8 x).1,aU (A8 x).2)::ft (l.map A8)=_;rw[a];cases x<;>rfl
def abL(ks:M aC)(c:E)(s:bp):ae s (Ba ks c) cE (xS ks (cE c)):=by
 cases c with
 |l m t xs=>cases m<;>first|exact ae.ret rfl|exact ae.ai
 |n m t o=>cases m<;>cases o<;>first|exact ae.ret rfl|exact ae.ai
 |aW k off=>simp only[Ba,xS,cE,bB,bE];refine ae.bD λh=>?_;rw[AY]at h;rw[cC (by simpa using h)];exact ae.ret rfl|dj f caps=>simp only[Ba,xS,cE,bB,bE];refine ae.bD λh=>?_;rw[cC (by simpa using h)];exact ae.ret rfl|ea=>exact ae.ai|da=>exact ae.ai|bK=>exact ae.ai|hO b=>exact ae.ai|it=>exact ae.ai|_=>exact ae.ret rfl
def Rg(ks:M aC):∀(cs:M E)(s:bp),ae s (vN ks cs) aU (uY ks (aU cs))|[],s=>ae.ret rfl|c::cs,s=>by show ae s (vN ks (c::cs)) aU (uY ks (cE c::aU cs));simp only[vN,uY,bB,bE];exact ae.bind (abL ks c s) λd a=>ae.bind (Rg ks cs a) λb e=>ae.ret rfl
def abM(ks:M aC):∀(vs:M (az×M E))(s:bp),ae s (yv ks vs) ft (xT ks (ft vs))|[],s=>ae.ret rfl|(b,cs)::vs,s=>by show ae s (yv ks ((b,cs)::vs)) ft (xT ks ((b,aU cs)::ft vs));simp only[yv,xT,bB,bE];exact ae.bind (Rg ks cs s) λd a=>ae.bind (abM ks vs a) λc e=>ae.ret rfl
def am7(ks:M aC)(v:aP)(s:bp):ae s (px ks v) aL (oj ks (aL v)):=by
 cases v with|one c=>show ae s (px ks (.one c)) aL (oj ks (.one (cE c)));simp only[px,oj,bB,bE];exact ae.bind (abL ks c s) λa b=>ae.ret rfl|agg cs=>show ae s (px ks (.agg cs)) aL (oj ks (.agg (aU cs)));simp only[px,oj,bB,bE];exact ae.bind (Rg ks cs s) λa b=>ae.ret rfl|bw vs=>show ae s (px ks (.bw vs)) aL (oj ks (.bw (ft vs)));simp only[px,oj,bB,bE];exact ae.bind (abM ks vs s) λa b=>ae.ret rfl|undef=>exact ae.ai
def am8(af:bM)(res:M nV)(a:U)(s:bp):ae s (yw af res a) (λx=>(aL x.1,x.2.map aU)) (xU af res a):=by
 simp only[yw,xU,bB,bE];refine ae.bind (abG af res s) λvs b=>?_;have hk:uZ a ((vs.map aL).flatMap SV.cells)=Rf a (vs.flatMap aP.cells):=by unfold uZ Rf;rw[Qt,Qs]
 rw[hk];refine ae.bind (abK _ b) λ_ c=>ae.bind (abJ vs c) λd e=>?_;rw[←yx];exact ae.bind (ZQ _ _ _ e) λf g=>ae.bind (Qu _ _ g) λi h=>ae.bind (am7 _ f h) λj k=>ae.ret rfl
def AK{α:Type}(t:Tr α):t.eJ λ_=>dK:=by
 induction t with|dz a=>trivial|ai=>trivial|br c t e b f=>exact⟨b,f⟩|call d o k g=>exact g|sum o k k' g h=>exact⟨g,h⟩
def am9(ks:M aC)(v:aP)(s:bp):((px ks v).cV s).eJ λx=>x.2.1=s:=by
 have one:∀(c:E)(s:bp),((Ba ks c).cV s).eJ λx=>x.2.1=s:=by
  intro c s;cases c with
  |aW k off=>show(((bD _).bind λ_=>PE.ret _).cV s).eJ _;cases ks.any (gH k)<;>first|exact trivial|exact rfl
  |dj f caps=>show(((bD _).bind λ_=>PE.ret _).cV s).eJ _;cases caps.isEmpty<;>first|exact trivial|exact rfl
  |l m t xs=>cases m<;>first|exact rfl|exact trivial
  |n m t o=>cases m<;>first|exact rfl|exact trivial
  |_=>first|exact rfl|exact trivial
 have many:∀(cs:M E)(s:bp),((vN ks cs).cV s).eJ λx=>x.2.1=s:=by
  intro cs;induction cs with
  |nil=>intro s;exact rfl
  |cons c cs e=>intro s;simp only[vN,bB];rw[kq,Tr.kI];refine Tr.hV ?_ (one c s);rintro ⟨a,s',f,g⟩ h;rw[Tr.lD,kq,Tr.kI];refine Tr.hV ?_ (e s');rintro ⟨b,i,q,r⟩ j;exact ab0 j h
 have bw:∀(vs:M (az×M E))(s:bp),((yv ks vs).cV s).eJ λx=>x.2.1=s:=by
  intro vs;induction vs with
  |nil=>intro s;exact rfl
  |cons p vs e=>intro s;let⟨b,cs⟩:=p;simp only[yv,bB];rw[kq,Tr.kI];refine Tr.hV ?_ (many cs s);rintro ⟨a,s',f,g⟩ h;rw[Tr.lD,kq,Tr.kI];refine Tr.hV ?_ (e s');rintro ⟨b,i,q,r⟩ j;exact ab0 j h
 cases v with|one c=>simp only[px,bB];rw[kq,Tr.kI];exact Tr.hV (λx d=>d) (one c s)|agg cs=>simp only[px,bB];rw[kq,Tr.kI];exact Tr.hV (λx d=>d) (many cs s)|bw vs=>simp only[px,bB];rw[kq,Tr.kI];exact Tr.hV (λx d=>d) (bw vs s)|undef=>exact trivial
def abN(b:M aC):∀(ks:M aC)(s:bp),((qo b ks).cV s).eJ λx=>x.2.1=s∧Holds b s ks x.1
 |[],s=>⟨rfl,trivial⟩|k::ks,s=>by
  simp only[qo,PE.cV,Tr.lD,bB];cases hv:(s.aE (.box k)).v with
  |agg cs=>
   cases hp:cs.all (lB b)with|false=>simp only[hp];exact trivial|true=>simp only[hp];show(((qo b ks).bind λr=>PE.ret (cs.map (l5 b)::r)).cV s).eJ _;rw[kq,Tr.kI];refine Tr.hV ?_ (abN b ks s);rintro ⟨a,s',f,g⟩ ⟨h1,h2⟩;simp only at h1 h2;subst h1;exact⟨rfl,⟨cs,hv,hp,rfl⟩,h2⟩
  |_=>exact trivial
def ana(af:bM)(res:M nV)(a:U)(s:bp):((yw af res a).cV s).eJ λx=>∃ks,Holds (jT a++ks) x.2.1 (jT a++ks) x.1.2:=by simp only[yw,bB];rw[kq,Tr.kI];refine Tr.hV ?_ (AK _);rintro ⟨vs,f,f1,g⟩ _;rw[Tr.lD,kq,Tr.kI];refine Tr.hV ?_ (AK _);rintro ⟨_,h,f2,i⟩ _;rw[Tr.lD,kq,Tr.kI];refine Tr.hV ?_ (AK _);rintro ⟨b,j,f3,k⟩ _;rw[Tr.lD,kq,Tr.kI];refine Tr.hV ?_ (AK _);rintro ⟨c,d,f4,l⟩ _;rw[Tr.lD,kq,Tr.kI];refine Tr.hV ?_ (abN _ _ d);rintro ⟨m,e,f5,n⟩ ⟨h1,h2⟩;simp only at h1;subst h1;rw[Tr.lD,kq,Tr.kI];refine Tr.hV ?_ (am9 _ c e);rintro ⟨o,p,f6,q⟩ h3;simp only at h3;subst h3;exact⟨_,h2⟩
structure bQ where
 args:List It
 aI:List It:=[]
 res:List It
 jg:List (List (Option Sh)):=[]
 cH:List (Nat×Nat):=[]
 opt:Bool:=false
def Kn(v:aP):M E:=match v with|.agg cs=>cs|_=>[]
abbrev bQ.X(S:bQ):Type:=IT (S.args++S.aI)
def bQ.eQ(S:bQ)(x:S.X):M aP:=(IT.cD (S.args++S.aI) x).take (Y S.args)
def bQ.fC(S:bQ)(x:S.X):M (M E):=((IT.cD (S.args++S.aI) x).drop (Y S.args)).map Kn
def Ko:M (Q Sh)→M It|[]=>[]|none::r=>Ko r|some h::r=>.one h::Ko r
def anb:az→M It|true=>[.one .b]|false=>[]
def bQ.mJ(S:bQ):M It:=anb S.opt++S.jg.flatMap Ko
abbrev bQ.Y(S:bQ):Type:=IT (S.res++S.mJ)
def py(v:aP):E:=match v with|.one c=>c|_=>.bK
def vO:M (Q Sh)→M E→M (Q E)×M E
 |[],cs=>([],cs)|none::r,cs=>let f:=vO r cs;(O::f.1,f.2)|some _::r,cs=>match cs with|c::cs=>let f:=vO r cs;(J c::f.1,f.2)|[]=>([],[])
def oK:M (M (Q Sh))→M E→M (M (Q E))|[],_=>[]|o::os,cs=>let f:=vO o cs;f.1::oK os f.2
def rR(n:U):aP→aP
 |.one (.aW (.aB i) off)=>match gN n i with|true=>.one (.cX .aW)|false=>.one (.aW (.aB i) off)
 |v=>v
def Kp:M E→az|.b b::_=>b|.ff::_=>I|_=>W
def bQ.flag(S:bQ)(y:S.Y):az:=match S.opt with|true=>Kp (((IT.cD (S.res++S.mJ) y).drop S.res.length).map py)|false=>W
def bQ.out(S:bQ)(y:S.Y)(b:az):aP×M (M (Q E)):=let l:=IT.cD (S.res++S.mJ) y
 match S.opt with
 |false=>(pw (l.take S.res.length),oK S.jg ((l.drop S.res.length).map py))|true=>match b with|true=>(pw (l.take S.res.length),oK S.jg (((l.drop S.res.length).map py).drop 1))|false=>(pw ((l.take S.res.length).map (rR S.aI.length)),oK (S.jg.take S.aI.length) (((l.drop S.res.length).map py).drop 1))
def bQ.eV(S:bQ)(args:M aP)(aI:M (M E)):Q S.X:=
 match args.length==S.args.length with|true=>IT.eV (S.args++S.aI) (args++aI.map .agg)|false=>O
def bQ.dJ(S:bQ)(args:M SV)(aI:M (M C)):Q S.X:=if args.length=S.args.length then IT.dJ (S.args++S.aI) (args++aI.map .agg)else O
def bQ.F(S:bQ)(sh:S.X→Q S.Y):rj:=λargs aI=>
 match S.dJ args aI with
 |some x=>match sh x with|some y=>J {v:=aL (S.out y (S.flag y)).1,aI:=(je (S.fC x) (S.out y (S.flag y)).2).map aU,cH:=S.cH}|none=>O
 |none=>O
def Rh:It→az|.bC _=>W|.cells _=>W|.kK _ _=>W|_=>I
def anc(n:U):It→az
 |.kK (.aB i) _=>gN (i+1) n|.kK _ _=>I|.cells l=>l.all λh=>match h with|.p (.aB i) _=>gN (i+1) n|.p _ _=>I|_=>W
 |_=>W
def bQ.ok(S:bQ):az:=S.args.all It.ok&&S.aI.all It.ok&&(S.aI.all Rh&&S.aI.all (anc S.aI.length))
def IT.abO:∀(l:M It)(x:IT l)(m:U)(v:aP),(IT.cD l x)[m]?=J v→∃i y,l[m]?=J i∧v=It.cD i y|[],_,m,v,h=>by simp[IT.cD]at h|i::r,x,0,v,h=>by grind [IT.cD]|i::r,x,m+1,v,h=>by simp only[IT.cD,qU]at h;let⟨a,y,h1,h2⟩:=IT.abO r _ m v h;grind
theorem Sh.abP{h:Sh}{x:h.T}{k:aC}{off:U}(e:h.cD x=.aW k off):h=.p k off:=by cases h<;>simp[Sh.cD]at e;rw[e.1,e.2]
def HT.abQ:∀(l:M Sh)(x:HT l)(c:E),c∈HT.cD l x→∀k off,c=.aW k off→Sh.p k off∈l
 |[],_,c,h=>by simp[HT.cD]at h|[sh],x,c,h=>by grind [HT.cD,Sh.abP]|sh::a::r,x,c,h=>by
  intro k off b;simp only[HT.cD,jQ]at h;rcases h with rfl|h
  rw[Sh.abP b];grind;exact i7 _ (HT.abQ (a::r) _ c (by simpa[HT.cD]using h) k off b)
def Bb:∀(t:Ty)(x:t.T)(c:E),c∈fc t x→∀k off,c≠.aW k off
 |.bG a b,x,c,h=>by
  simp only[fc,nP]at h;rcases h with h|h
  exact Bb a _ c h;exact Bb b _ c h
 |.cb _ a b,x,c,h=>by
  simp only[fc,nP]at h;rcases h with h|h
  exact Bb a _ c h;exact Bb b _ c h
 |.set k,x,c,h=>Bb k x c h|.int k,x,c,h=>by simp_all [fc]|.bool,x,c,h=>by simp_all [fc]|.bh,x,c,h=>by simp_all [fc]|.sl r,x,c,h=>by simp_all [fc]
def ane{S:bQ}(a:S.ok=W)(x:S.X):∀b∈S.fC x,∀c∈b,∀k off,c=.aW k off→∃i,k=.aB i∧i<S.aI.length:=by
 intro b j c g k off d;obtain⟨v,hv,rfl⟩:=mh.1 j;let⟨m,f⟩:=List.getElem?_of_mem hv;rw[List.getElem?_drop]at f;let⟨i,y,h1,h2⟩:=IT.abO _ _ _ _ f;rw[List.getElem?_append_right (by omega)]at h1;have hi:i∈S.aI:=fK h1;simp only[bQ.ok,ck]at a;have h:=gy.1 a.2.1 i hi;have hp:=gy.1 a.2.2 i hi;subst h2;cases i with
 |bC t=>exact cO d (Bb t y c g k off)|cells l=>
  have f:=HT.abQ l y c g k off d;have hp:=gy.1 hp _ f;cases k with
  |aB i=>exact⟨i,rfl,by have:=wY hp;omega⟩|aw t=>cases hp
  |cm t i=>cases hp
 |kK q o=>
  have e:c∈[E.aW q o]:=g;simp only[m7]at e;rw[d]at e;cases e;cases k with
  |aB i=>exact⟨i,rfl,by have:=wY hp;omega⟩|aw t=>cases hp
  |cm t i=>cases hp
 |_=>cases h
theorem IT.Ei:∀(l:M It)(x:IT l),Y (IT.cD l x)=Y l|[],_=>rfl|i::r,x=>by simp[IT.cD,IT.Ei r]
def anf{i:It}(h:Rh i=W)(x:i.T):∃cs,i.cD x=.agg cs:=by cases i<;>first|exact⟨_,rfl⟩|cases h
theorem abR:∀(l:M It)(x:IT l),l.all Rh=W→((IT.cD l x).map Kn).map aP.agg=IT.cD l x|[],_,_=>rfl|i::r,x,h=>by rw[nR,ck]at h;simp only[IT.cD,eU];let⟨cs,e⟩:=anf h.1 (IT.hd i r x);rw[abR r _ h.2,e];rfl
def IT.ang(l m:M It)(x:IT (l++m)):∃y:IT m,(IT.cD (l++m) x).drop (Y l)=IT.cD m y:=by
 induction l with|nil=>exact⟨x,rfl⟩|cons i l a=>exact a (IT.tl IT.gV i (l++m) x)
def Ri:∀{a b:M (M C)},a.map SV.agg=b.map SV.agg→a=b|[],[],_=>rfl|[],_::_,h=>by simp at h|_::_,[],h=>by simp at h|x::a,y::b,h=>by simp only[eU,zJ,SV.agg.injEq]at h;rw[h.1,Ri h.2]
section
variable(S:bQ)
def bQ.Kq(x:S.X):(S.eQ x).length=S.args.length:=by simp[bQ.eQ,IT.Ei]
def bQ.Rj(x:S.X):(S.fC x).length=S.aI.length:=by simp[bQ.fC,IT.Ei]
def bQ.Rk(a:S.ok=W)(x:S.X):S.eQ x++(S.fC x).map aP.agg=IT.cD (S.args++S.aI) x:=by
 simp only[bQ.ok,ck]at a;let⟨y,hy⟩:=IT.ang S.args S.aI x;have:(S.fC x).map aP.agg=(IT.cD (S.args++S.aI) x).drop S.args.length:=by grind [bQ.fC,abR]
 rw[this];exact nQ _ _
def bQ.jf(a:S.ok=W){args:M SV}{aI:M (M C)}{x:S.X}(h:S.dJ args aI=J x):args=(S.eQ x).map aL∧aI=(S.fC x).map aU:=by
 unfold bQ.dJ at h;split at h;rename_i b;have e:=IT.jf _ _ _ h;rw[←bQ.Rk S a x,mj]at e;have:=List.append_inj e (by rw[kE,bQ.Kq,b]);refine⟨this.1,?_⟩;have h2:=this.2;rw[sC]at h2;have h3:aI.map SV.agg=((S.fC x).map aU).map SV.agg:=by rw[h2,sC];rfl
 exact Ri h3;cases h
theorem bQ.mI(a:S.ok=W)(x:S.X):S.dJ ((S.eQ x).map aL) ((S.fC x).map aU)=J x:=by
 have e:(S.eQ x).map aL++((S.fC x).map aU).map SV.agg=(IT.cD (S.args++S.aI) x).map aL:=by rw[←bQ.Rk S a x,mj,sC,sC];rfl
 simp_all [bQ.dJ,bQ.Kq,bQ.ok,IT.mI]
theorem bQ.l8(a:S.ok=W){args:M aP}{aI:M (M E)}{x:S.X}(h:S.eV args aI=J x):args.map aL=(S.eQ x).map aL∧aI.map aU=(S.fC x).map aU:=by
 unfold bQ.eV at h;split at h;rename_i b;have e:=IT.l8 _ _ _ h;rw[←bQ.Rk S a x,mj,mj]at e;have:=List.append_inj e (by simp_all [bQ.Kq]);refine⟨this.1.symm,?_⟩;have h2:=this.2;rw[sC,sC]at h2;have h3:(aI.map aU).map SV.agg=((S.fC x).map aU).map SV.agg:=by rw[sC,sC];exact h2.symm
 exact Ri h3;cases h
end
def anh{o:M (Q E)}:∀{a b:M E},aU a=aU b→aU (fg a o)=aU (fg b o):=by
 induction o with
 |nil=>intro a b h;cases a<;>cases b<;>simp_all [fg]
 |cons x o c=>
  intro a b h;cases a with
  |nil=>simp_all [aU]|cons z a=>
   cases b with
   |nil=>simp[aU]at h|cons y b=>
    have h1:cE z=cE y∧aU a=aU b:=(by simpa[aU]using h);show cE (match x with|some x=>x|none=>z)::aU (fg a o)=cE (match x with|some x=>x|none=>y)::aU (fg b o)
    rw[c h1.2];cases x with|none=>rw[h1.1]|some x=>rfl
theorem abS:∀{a b:M (M E)}(os:M (M (Q E))),a.map aU=b.map aU→(je a os).map aU=(je b os).map aU
 |[],[],os,_=>rfl|[],_::_,_,h=>by simp at h|_::_,[],_,h=>by simp at h|x::a,y::b,[],h=>by simpa[je]using h|x::a,y::b,o::os,h=>by
  have h1:aU x=aU y∧a.map aU=b.map aU:=by simpa using h
  simp only[je,eU];rw[anh h1.1,abS os h1.2]
def bQ.dY(S:bQ):S.Y:=IT.gV _
def bQ.fD(S:bQ)(hok:S.ok=W)(sh:S.X→Q S.Y):cU where
 A:=S.X
 R:=S.Y
 d:=S.dY
 eV:=S.eV
 sh:=sh
 two:=S.opt
 flag:=S.flag
 out:=λ_ y b=>S.out y b
 cH:=S.cH
 F:=S.F sh
 one:=λh y=>by unfold bQ.flag;rw[h]
 ok:=by
  intro args aI x y hm hs
  obtain⟨h1,h2⟩:=bQ.l8 S hok hm
  grind [bQ.F,bQ.mI,abS]
def Ej:U→aP→Q (M aP)
 |1,v=>J [v]|n,.bw vs=>match Y vs==n with
  |true=>vL (λp=>match p.1,p.2 with|true,cs=>J (.agg cs)|false,[c]=>J (.one c)|false,_=>O) vs
  |false=>O
 |_,_=>O
def coll(d:eO)(k:aC):U→M (Q Sh)→M E→Q (M E)
 |_,[],[]=>J []|j,O::o,c::cs=>match !part (.box k) j d&&l7 c with|true=>coll d k (j+1) o cs|false=>O
 |j,J _::o,c::cs=>match coll d k (j+1) o cs with|some l=>J (c::l)|none=>O
 |_,_,_=>O
def Kr:M (Q Sh)→M E→Q (M E)
 |[],[]=>J []|some _::o,c::cs=>match Kr o cs with|some l=>J (c::l)|none=>O
 |_,_=>O
def lF(d:eO):U→M (M E)→M (M (Q Sh))→M (M E)→Q (M E)
 |i,b::B,o::os,c::cs=>match Y b==Y c&&(!whole (.box (.aB i)) d||o.all Cr),coll d (.aB i) 0 o c,lF d (i+1) B os cs with|true,J l,J a=>J (l++a)|_,_,_=>O
 |i,[],o::os,c::cs=>match Kr o c,lF d (i+1) [] os cs with|some l,J a=>J (l++a)|_,_=>O
 |_,[],[],[]=>J []|_,_,_,_=>O
def Rl(n:U)(it:It)(v:aP):aP:=match it,v with
 |.aW (.aB i) off,.one (.cX .aW)=>match gN n i with|true=>.one (.aW (.aB i) off)|false=>.one (.cX .aW)
 |_,v=>v
def vP(n:U):M It→M aP→M aP|it::a,v::vs=>Rl n it v::vP n a vs|_,vs=>vs
def Bc(n:U):aP→az|.one (.aW (.aB i) _)=> !gN n i|_=>W
def ani(l:M (M (Q Sh))):M E:=(IT.cD (l.flatMap Ko) (IT.gV _)).map py
def bQ.Ks(S:bQ)(d:eO)(B:M (M E))(v:aP)(a:M (M E)):Q S.Y:=
 match S.opt with
 |false=>match Ej S.res.length v,lF d 0 B S.jg a with
  |some vs,J cs=>match vs.length==S.res.length with|true=>IT.eV (S.res++S.mJ) (vs++cs.map .one)|false=>O
  |_,_=>O
 |true=>match a.length==S.jg.length with
  |true=>match Ej S.res.length v,lF d 0 B S.jg a with
   |some vs,J cs=>match vs.length==S.res.length with|true=>IT.eV (S.res++S.mJ) (vs++(.tt::cs).map .one)|false=>O
   |_,_=>O
  |false=>match Ej S.res.length v,lF d 0 B (S.jg.take S.aI.length) a with
   |some vs,J cs=>match vs.length==S.res.length&&vs.all (Bc S.aI.length)with|true=>IT.eV (S.res++S.mJ) (vP S.aI.length S.res vs++(.ff::cs++ani (S.jg.drop S.aI.length)).map .one)|false=>O
   |_,_=>O
def anj(F:iF)(A:M aP)(B:M (M E))(res:M nV)(S:bQ)(x:Ex×bH):Tr S.Y:=
 match x.1 with
 |.exit _=>.ai|_=>((yw F.af.c res (Y B)).cV (cy A x.2)).bind λy=>
  match decide (y.2.1.cH=S.cH)with
  |true=>match S.Ks y.2.1.cI B y.1.1 y.1.2 with|some z=>.dz z|none=>.ai
  |false=>.ai
noncomputable def Rm(F:iF)(tbl:U→Q gJ)(c:Code)(res:M nV)(S:bQ)(x:S.X):Tr S.Y:=(Q0 F (S.eQ x) (jT (Y S.aI)) tbl c 0 (yu (S.eQ x) (S.fC x))).bind (anj F (S.eQ x) (S.fC x) res S)
def Rn{n:U}{v:aP}{vs:M aP}(h:Ej n v=J vs)(i:Y vs=n):pw vs=v:=by
 unfold Ej at h;split at h;cases h;rfl;rename_i n ws hn;split at h
 have e:=Kg (g:=A8) (f:=λp:az×M E=>match p.1,p.2 with
   |true,cs=>J (aP.agg cs)|false,[c]=>J (.one c)|false,_=>O) (λa b d=>by
    let⟨j,cs⟩:=a
    cases j with
    |true=>cases d;rfl
    |false=>
     match cs,d with
     |[c],d=>cases d;rfl
     |[],d=>cases d
     |_::_::_,d=>cases d) ws vs h
 rw[e];match vs,i with|[],_=>rfl|[u],i=>exact cO i.symm hn|_::_::_,_=>rfl
 cases h;cases h
def abT{d:eO}{i:U}{o:M (Q Sh)}(h:(whole (.box (.aB i)) d=I∨o.all Cr=W)){j:U}(a:o[j]?=J O):whole (.box (.aB (i+0))) d=I:=by
 rcases h with h|h
 exact h;have:=gy.1 h O (fK a);cases this
def Kt{d:eO}{k:aC}:∀(o:M (Q Sh))(j:U)(c b l:M E),coll d k j o c=J l→Y b=Y c→(∀(i:U)x y,o[i]?=J O→part (.box k) (j+i) d=I→b[i]?=J x→c[i]?=J y→l7 y=W→y=x)→∀a rest,aU a=aU l→∃os,vO o (a++rest)=(os,rest)∧aU (fg b os)=aU c
 |[],j,[],b,l,h,f,hk,a,rest,g=>by
  cases h;cases b with
  |nil=>
   cases a with|nil=>exact⟨[],rfl,rfl⟩|cons x r=>simp[aU]at g
  |cons x b=>simp at f
 |none::o,j,c::cs,b,l,h,f,hk,a,rest,g=>by
  simp only[coll]at h;split at h;rename_i m;simp only[ck,lQ]at m;cases b with|nil=>simp at f|cons x b=>let⟨os,h1,h2⟩:=Kt o (j+1) cs b l h (by simpa using f) (λi y z n hp hy p q=>hk (i+1) y z (by simpa using n) (by grind) (by simpa using hy) (by simpa using p) q) a rest g;refine⟨O::os,by simp only[vO,h1],?_⟩;have e:=hk 0 x c (by simp) (by simpa using m.1) rfl rfl m.2;simp_all [aU,fg]
  cases h
 |some sh::o,j,c::cs,b,l,h,f,hk,a,rest,g=>by
  simp only[coll]at h;split at h;rename_i l1 h1;cases h;cases b with
  |nil=>simp at f|cons x b=>
   cases a with|nil=>simp[aU]at g|cons z a=>have s:cE z=cE c∧aU a=aU l1:=(by simpa[aU]using g);let⟨os,h2,h3⟩:=Kt o (j+1) cs b l1 h1 (by simpa using f) (λi y z n hp hy p q=>hk (i+1) y z (by simpa using n) (by grind) (by simpa using hy) (by simpa using p) q) a rest s.2;simp_all [vO,aU,fg]
  cases h
 |[],j,c::cs,b,l,h,_,_,_,_,_=>by cases h
 |none::o,j,[],b,l,h,_,_,_,_,_=>by cases h
 |some _::o,j,[],b,l,h,_,_,_,_,_=>by cases h
def Ro:∀(o:M (Q Sh))(c l:M E),Kr o c=J l→∀a rest,aU a=aU l→∃os,vO o (a++rest)=(os,rest)∧aU (AA os)=aU c
 |[],[],l,h,a,rest,b=>by
  cases h;cases a with|nil=>exact⟨[],rfl,rfl⟩|cons x r=>simp[aU]at b
 |some sh::o,c::cs,l,h,a,rest,b=>by
  simp only[Kr]at h;split at h;rename_i l1 h1;cases h;cases a with|nil=>simp[aU]at b|cons z a=>have d:cE z=cE c∧aU a=aU l1:=(by simpa[aU]using b);let⟨os,h2,h3⟩:=Ro o cs l1 h1 a rest d.2;simp_all [vO,aU,AA]
  cases h
 |[],_::_,l,h,_,_,_=>by cases h
 |none::o,_,l,h,_,_,_=>by cases h
 |some _::o,[],l,h,_,_,_=>by cases h
def Ek{l a b:M E}(h:aU l=aU (a++b)):∃c d,l=c++d∧aU c=aU a∧aU d=aU b:=by refine⟨l.take (Y a),l.drop (Y a),adJ (nQ _ _),?_,?_⟩;simp_all [aU];simp_all [aU]
theorem Ku{d:eO}:∀(os:M (M (Q Sh)))(i:U)(B e:M (M E))(l:M E),lF d i B os e=J l→(∀m b c,B[m]?=J b→e[m]?=J c→whole (.box (.aB (i+m))) d=I→∀j x y,part (.box (.aB (i+m))) j d=I→b[j]?=J x→c[j]?=J y→l7 y=W→y=x)→∀g,aU g=aU l→(je B (oK os g)).map aU=e.map aU
 |[],i,[],[],l,h,_,g,k=>rfl|o::os,i,b::B,c::e,l,h,hk,g,k=>by simp only[lF]at h;split at h;rename_i n p h1 h2 h3;cases h;simp only[ck,qY,dL,lQ]at h1;obtain⟨f,a,rfl,q,r⟩:=Ek k;let⟨ws,v,w⟩:=Kt o 0 c b n h2 h1.1 (λj x y A hp s hy t=>hk 0 b c rfl rfl (abT h1.2 A) j x y (by simpa using hp) s hy t) f a q;have z:=Ku os (i+1) B e p h3 (λm b c u C D j x y hp s hy t=>hk (m+1) b c (by simpa using u) (by simpa using C) (by grind) j x y (by grind) s hy t) a r;simp only[oK,v,je,eU];rw[w,z];cases h
 |o::os,i,[],c::e,l,h,hk,g,k=>by simp only[lF]at h;split at h;rename_i n p h2 h3;cases h;obtain⟨f,a,rfl,q,r⟩:=Ek k;let⟨ws,v,w⟩:=Ro o c n h2 f a q;have z:=Ku os (i+1) [] e p h3 (λm b c u=>by simp at u) a r;simp_all [oK,je];cases h
 |[],i,b::B,e,l,h,_,_,_=>by cases e<;>simp[lF]at h
 |[],i,[],c::e,l,h,_,_,_=>by simp[lF]at h|o::os,i,B,[],l,h,_,_,_=>by cases B<;>simp[lF]at h
theorem ank{l:M aP}{cs:M E}(h:l.map aL=(cs.map aP.one).map aL):aU (l.map py)=aU cs:=by
 induction l generalizing cs with
 |nil=>cases cs<;>first|rfl|simp at h
 |cons u l a=>
  cases cs with
  |nil=>simp at h|cons c cs=>
   simp only[eU,zJ]at h;show cE (py u)::aU (l.map py)=cE c::aU cs;rw[a h.2];congr 1;cases u with|one x=>have:=h.1;simp only[aL,SV.one.injEq]at this;exact this|_=>simp_all [aL]
def Rp{S:bQ}{vs:M aP}{cs:M E}{y:S.Y}(h:IT.eV (S.res++S.mJ) (vs++cs.map .one)=J y)(a:vs.length=S.res.length):((IT.cD (S.res++S.mJ) y).take S.res.length).map aL=vs.map aL∧aU (((IT.cD (S.res++S.mJ) y).drop S.res.length).map py)=aU cs:=by have e:=IT.l8 _ _ _ h;rw[mj]at e;grind [List.map_take,ank,List.map_drop]
def Be(n:U):SV→SV
 |.one (.aW (.aB i) off)=>match gN n i with|true=>.one (.d (.cX .aW))|false=>.one (.aW (.aB i) off)
 |v=>v
def Rq(n:U)(v:aP):aL (rR n v)=Be n (aL v):=by
 have other:∀c:E,(∀i off,c≠.aW (.aB i) off)→rR n (.one c)=.one c∧Be n (aL (.one c))=aL (.one c):=by intro c b;constructor;unfold rR;grind;unfold Be;split;rename_i i off a;have a:SV.one (cE c)=SV.one (.aW (.aB i) off):=a;rw[SV.one.injEq]at a;exact cO (aas a) (b i off);rfl
 cases v with|one c=>grind [rR,aL,cE,Be]|_=>rfl
theorem abU{n:U}{v:aP}(h:Bc n v=W):Be n (aL v)=aL v:=by rw[←Rq];congr 1;unfold rR;grind [Bc]
theorem anl{n:U}{it:It}{v u:aP}(h:Bc n v=W)(a:aL u=aL (Rl n it v)):aL (rR n u)=aL v:=by rw[Rq,a];unfold Rl;grind [aL,cE,Be,abU]
def abV(n:U):∀(b:M It)(vs us:M aP),vs.all (Bc n)=W→us.map aL=(vP n b vs).map aL→(us.map (rR n)).map aL=vs.map aL
 |_,[],us,_,h=>by simp_all [vP]|[],v::vs,us,a,h=>by
  have base:∀(vs us:M aP),vs.all (Bc n)=W→us.map aL=vs.map aL→(us.map (rR n)).map aL=vs.map aL:=by
   intro vs;induction vs with
   |nil=>simp_all|cons v vs c=>
    intro us a h;cases us with|nil=>simp at h|cons u us=>simp_all [Rq,abU]
  exact base _ us a h
 |it::b,v::vs,us,a,h=>by
  rw[nR,ck]at a;cases us with|nil=>simp[vP]at h|cons u us=>simp only[vP,eU,zJ]at h;have:=abV n b vs us a.2 h.2;grind [anl]
def abW(n:U):∀(a:M It)(vs:M aP),Y (vP n a vs)=Y vs
 |[],vs=>by cases vs<;>rfl
 |it::a,[]=>rfl|it::a,v::vs=>by simp[vP,abW n a vs]
def abX{l:M E}{c:E}{cs:M E}(h:aU l=aU (c::cs))(e:c=.tt∨c=.ff):Kp l=(match c with|.tt=>W|_=>I)∧aU (l.drop 1)=aU cs:=by
 cases l with
 |nil=>simp[aU]at h|cons x l=>
  have h1:cE x=cE c∧aU l=aU cs:=by simpa[aU]using h
  refine⟨?_,h1.2⟩;have a:=h1.1;rcases e with rfl|rfl
  cases x with
  |b v=>simp only[cE,C.d.injEq,D.bool.injEq]at a;simp[Kp,a]|tt=>rfl|ff=>simp[cE]at a|l m t xs=>cases m<;>simp[cE,lC]at a
  |n m t o=>cases m<;>cases o<;>simp[cE,lC]at a
  |hO b=>cases b<;>simp[cE]at a
  |it m t xs f=>cases m<;>simp[cE,mC]at a
  |_=>simp[cE]at a
  cases x with
  |b v=>simp only[cE,C.d.injEq,D.bool.injEq]at a;simp[Kp,a]|ff=>rfl|tt=>simp[cE]at a|l m t xs=>cases m<;>simp[cE,lC]at a
  |n m t o=>cases m<;>cases o<;>simp[cE,lC]at a
  |hO b=>cases b<;>simp[cE]at a
  |it m t xs f=>cases m<;>simp[cE,mC]at a
  |_=>simp[cE]at a
theorem Rr{d:eO}:∀(os:M (M (Q Sh)))(i:U)(B e:M (M E))(l:M E),lF d i B os e=J l→(∀m b c,B[m]?=J b→e[m]?=J c→whole (.box (.aB (i+m))) d=I→∀j x y,part (.box (.aB (i+m))) j d=I→b[j]?=J x→c[j]?=J y→l7 y=W→y=x)→∀g rest,aU g=aU l→(je B (oK os (g++rest))).map aU=e.map aU
 |[],i,[],[],l,h,_,g,rest,k=>rfl|o::os,i,b::B,c::e,l,h,hk,g,rest,k=>by simp only[lF]at h;split at h;rename_i n p h1 h2 h3;cases h;simp only[ck,qY,dL,lQ]at h1;obtain⟨f,a,rfl,q,r⟩:=Ek k;let⟨ws,v,w⟩:=Kt o 0 c b n h2 h1.1 (λj x y A hp s hy t=>hk 0 b c rfl rfl (abT h1.2 A) j x y (by simpa using hp) s hy t) f (a++rest) q;have z:=Rr os (i+1) B e p h3 (λm b c u C D j x y hp s hy t=>hk (m+1) b c (by simpa using u) (by simpa using C) (by grind) j x y (by grind) s hy t) a rest r;simp only[oK,List.append_assoc,v,je,eU];rw[w,z];cases h
 |o::os,i,[],c::e,l,h,hk,g,rest,k=>by simp only[lF]at h;split at h;rename_i n p h2 h3;cases h;obtain⟨f,a,rfl,q,r⟩:=Ek k;let⟨ws,v,w⟩:=Ro o c n h2 f (a++rest) q;have z:=Rr os (i+1) [] e p h3 (λm b c u=>by simp at u) a rest r;simp_all [oK,je];cases h
 |[],i,b::B,e,l,h,_,_,_,_=>by cases e<;>simp[lF]at h
 |[],i,[],c::e,l,h,_,_,_,_=>by simp[lF]at h|o::os,i,B,[],l,h,_,_,_,_=>by cases B<;>simp[lF]at h
def anm{S:bQ}{d:eO}{B l:M (M E)}{v:aP}{y:S.Y}(h:S.Ks d B v l=J y) (hk:∀m b c,B[m]?=J b→l[m]?=J c→whole (.box (.aB m)) d=I→∀j x z,part (.box (.aB m)) j d=I→b[j]?=J x→c[j]?=J z→l7 z=W→z=x):aL v=aL (S.out y (S.flag y)).1∧l.map aU=(je B (S.out y (S.flag y)).2).map aU:=by
 unfold bQ.Ks at h;split at h;rename_i e;have a:S.out y (S.flag y)=(pw ((IT.cD (S.res++S.mJ) y).take S.res.length),oK S.jg (((IT.cD (S.res++S.mJ) y).drop S.res.length).map py)):=by unfold bQ.out;rw[e]
 rw[a];split at h;rename_i vs cs h1 h2;split at h;rename_i h3;have f:vs.length=S.res.length:=by simpa using h3
 let⟨i,hd⟩:=Rp h f;refine⟨?_,?_⟩;show aL v=aL (pw _);rw[yx,i,←yx,Rn h1 f];grind [Ku];cases h;cases h;rename_i e;split at h;split at h;rename_i vs cs h1 h2;split at h;rename_i h3;have f:vs.length=S.res.length:=by simpa using h3
 let⟨i,hd⟩:=Rp h f;let⟨f1,f2⟩:=abX hd (.inl rfl);have g:S.flag y=W:=by simp_all [bQ.flag]
 have a:S.out y W=(pw ((IT.cD (S.res++S.mJ) y).take S.res.length),oK S.jg ((((IT.cD (S.res++S.mJ) y).drop S.res.length).map py).drop 1)):=by unfold bQ.out;rw[e]
 rw[g,a];refine⟨?_,?_⟩;show aL v=aL (pw _);rw[yx,i,←yx,Rn h1 f];grind [Ku];cases h;cases h;split at h;rename_i vs cs h1 h2;split at h;rename_i h3;simp only[ck,dL]at h3;let⟨f,k⟩:=h3;let⟨i,hd⟩:=Rp h (by rw[abW];exact f);let⟨f1,f2⟩:=abX hd (.inr rfl);have g:S.flag y=I:=by simp_all [bQ.flag]
 have a:S.out y I=(pw (((IT.cD (S.res++S.mJ) y).take S.res.length).map (rR S.aI.length)),oK (S.jg.take S.aI.length) ((((IT.cD (S.res++S.mJ) y).drop S.res.length).map py).drop 1)):=by unfold bQ.out;rw[e]
 rw[g,a];refine⟨?_,?_⟩;show aL v=aL (pw _);rw[yx,abV S.aI.length S.res vs _ k i,←yx,Rn h1 f];let⟨n,o,p,q,r⟩:=Ek f2;grind [Rr];cases h;cases h
theorem ann(v:aP)(j:U):pg (aL v) j=aL (vh v j):=by
 have a:H (aL v).cells j .bK=cE (H v.cells j .bK):=by rw[Jw];exact AN cE _ j .bK
 unfold pg vh;rw[a];cases c:H v.cells j .bK with
 |l m t xs=>
  cases m with|ak=>simp only[cE,lC];rw[nu];rfl|_=>rfl
 |n m t o=>
  cases m with
  |ak=>
   cases o with|none=>grind [cE,nu,Zz]|some xs=>simp only[cE,lC];rw[nu];rfl
  |_=>cases o<;>rfl
 |it m t xs d=>
  cases m with|ak=>simp only[cE,mC];rw[nu];rfl|_=>rfl
 |hO b=>cases b<;>rfl
 |_=>rfl
def abY:∀(l:M (U×U))(A:M aP),ln l (A.map aL)=(jd l A).map aL|[],A=>rfl|(i,j)::r,A=>by simp only[ln,jd];rw[←abY r,tf,List.map_set];grind [aL,ann]
def It.Kv{i:It}(h:i.ok=W)(x:i.T):∀c∈(i.cD x).cells,dq c=c:=by
 have j:∀{h:Sh}(x:h.T),h.plain=W→dq (h.cD x)=h.cD x:=by
  intro h x hp;cases h with
  |l m t=>cases m<;>first|rfl|cases hp
  |n m t=>cases m<;>first|rfl|cases hp
  |_=>rfl
 have b:∀(t:Ty)(x:t.T),∀c∈fc t x,dq c=c:=by
  intro t;induction t with|bG h t d e=>grind [fc]|cb u h t d e=>grind [fc]|set k g=>exact g|_=>intro x c a;simp only[fc,m7]at a;subst a;rfl
 have f:∀(l:M Sh)(x:HT l),l.all Sh.plain=W→∀c∈HT.cD l x,dq c=c:=by
  intro l;induction l with
  |nil=>intro x _ c a;cases a
  |cons h r g=>
   intro x hp c a;rw[nR,ck]at hp;cases r with|nil=>simp_all [HT.cD]|cons o r=>grind [HT.cD]
 cases i with|one h=>simp_all [It.cD,aP.cells,It.ok]|bC t=>exact b t x|cells l=>exact f l x h|_=>intro c a;simp only[It.cD,aP.cells,m7]at a;subst a;rfl
def IT.Kv:∀(l:M It)(x:IT l),l.all It.ok=W→∀v∈IT.cD l x,∀c∈v.cells,dq c=c
 |[],_,_=>λv hv=>by cases hv
 |i::r,x,h=>by
  rw[nR,ck]at h;intro v hv;simp only[IT.cD,jQ]at hv;rcases hv with rfl|hv
  exact It.Kv h.1 _;exact IT.Kv r _ h.2 v hv
def abZ{k:aC}:∀{l r:M aC},k∈l→idx k (l++r)=idx k l|q::l,r,h=>by show(if k=q then 0 else idx k (l++r)+1)=if k=q then 0 else idx k l+1;by_cases e:k=q;rw[aF e,aF e];rw[aV e,aV e,abZ (by grind)]
def ano{i n:U}{r:M aC}(h:i<n):idx (.aB i) (jT n++r)=i:=by have a:aC.aB i∈jT n:=mh.2 ⟨i,List.mem_range.2 h,rfl⟩;rw[abZ a];exact rF (Zf n) (Ze h)
def anp{S:bQ}(a:S.ok=W)(x:S.X):∀b∈S.fC x,∀c∈b,dq c=c:=by intro b e c d;obtain⟨v,hv,rfl⟩:=mh.1 e;simp only[bQ.ok,ck]at a;refine IT.Kv _ x (by grind) v (List.mem_of_mem_drop hv) c ?_;cases v<;>first|exact d|(simp[Kn]at d)
def anq(A:M aP)(B:M (M E))(m:U):(cy A (yu A B)).aE (.box (.aB m))={v:=match B[m]? with|some b=>.agg b|none=>.undef}:=by
 rw[kW];have:∀(B:M (M E))(i m:U),cG (.aB m) (vM i B)=if i≤m then B[m-i]? else O:=by
  intro B;induction B with
  |nil=>intro i m;simp[vM,cG]
  |cons b B a=>grind [vM,cG,gH]
 show({v:=match cG (.aB m) (vM 0 B)with|some cs=>.agg cs|none=>.undef}:dU)=_
 rw[this B 0 m];simp
def Rs(fn:Func):Code:=match fn.body with|some c=>c|none=>.skip
def anr{P:ew}{f:dT}{fn:Func}{c:Code}{F:iF}{tbl:U→Q gJ}{S:bQ}{sh:S.X→Q S.Y}(hf:P.funcs[f]?=J fn)(hb:fn.body=J c)(Q8:P.follows .mixedOrders=W)(hC:nn P F.af.c) (hN:fn.ntmps=F.af.N)(V:S.ok=W)(hargs:S.args.length≤F.af.N)(hbk:∀x,mF (S.eQ x) (jT S.aI.length) F.hI=W)(g:∀x y,sh x=J y→(Rm F tbl c fn.results.toList S x).run=J y):iD P f (S.F sh):=by
 intro args aI r hF w vals β ω Z hsz G hpl h;unfold bQ.F at hF;split at hF;rename_i x hx;split at hF;rename_i y hy;cases hF;obtain⟨rfl,rfl⟩:=bQ.jf S V hx;have g:=g x y hy;refine calls_of_wp hf hb ?_;have azD:((S.eQ x).map aL).length=S.args.length:=by rw[kE,bQ.Kq]
 have hlenB:((S.fC x).map aU).length=S.aI.length:=by rw[kE,bQ.Rj]
 have A:=akF (N:=fn.ntmps) h hsz G hpl (by grind);have hek:=I9 h;have H:jy (cY P fn.ntmps w vals β ω Z) (S.eQ x) (jT S.aI.length):=by refine⟨by show vals.size=_;grind,λk b hk=>?_⟩;obtain⟨i,hi,rfl⟩:=hek k b hk;rw[hlenB]at hi;exact mh.2 ⟨i,List.mem_range.2 hi,rfl⟩
 have n:=(Tr.AL _ (λz=>z=y)).2 ⟨y,g,rfl⟩;unfold Rm at n;rw[ym]at n;have hall2:=Tr.td n (Tr.vt (amX (F:=F) (tbl:=tbl) H c 0 (yu (S.eQ x) (S.fC x))));have A5:dI (cY P fn.ntmps w vals β ω Z) (dP (S.eQ x) (yu (S.eQ x) (S.fC x))) {tmps:=vals++Array.replicate (fn.ntmps-vals.size) undef,defers:=[]} w:=by rw[am2];exact⟨⟨β,ω,Z,A⟩,by show((S.eQ x).map aL).length=vals.size;omega⟩
 refine wp_mono (amY (K:=cY P fn.ntmps w vals β ω Z) (tbl:=tbl) hC hN Q8 H (hbk x) c 0 _ _ _ w hall2 A5) ?_;rintro e a w' ⟨⟨ex,R⟩,rfl,⟨T,hkeep⟩,hpr⟩;have hex:ex=.normal∨ex=.ret:=by
  cases ex with|exit i=>exact T.elim|normal=>exact .inl rfl|ret=>exact .inr rfl
 have p:(((yw F.af.c fn.results.toList (S.fC x).length).cV (cy (S.eQ x) R)).bind λy=>
   match decide (y.2.1.cH=S.cH)with
   |true=>match S.Ks y.2.1.cI (S.fC x) y.1.1 y.1.2 with|some z=>Tr.dz z|none=>.ai
   |false=>.ai).all (λz=>z=y):=by
  rcases hex with rfl|rfl<;>exact T
 rw[ym]at p;have h1:=Tr.td (Tr.td (Tr.td p (am8 F.af.c fn.results.toList (S.fC x).length (cy (S.eQ x) R))) (Tr.vt (ana F.af.c fn.results.toList (S.fC x).length (cy (S.eQ x) R)))) (Tr.vt (aaX (yw F.af.c fn.results.toList (S.fC x).length) (cy (S.eQ x) R) (qt _ R)));let⟨⟨⟨v,t⟩,s',fr,fw⟩,_,⟨⟨h2,h3⟩,h4⟩,h5⟩:=(Tr.AL _ _).1 h1;simp only at h2 h3 h4 h5;split at h2;rename_i hfz;have hfz:s'.cH=S.cH:=jr hfz;split at h2;rename_i z hz;have e:z=y:=h2;subst e;let⟨ks,B⟩:=h4;let⟨_,C,l,hl,hk5⟩:=h5;let⟨⟨l0,hl0⟩,hk0⟩:=hkeep;have hkall:eP s'.cI (cy (S.eQ x) (yu (S.eQ x) (S.fC x))) s':=by refine eP.trans ?_ hk5;rw[hl];exact hk0.more
 have anv:=anm hz (λm b c hb hc hw j u v hp hu hv huv=>by
  have hm:m<S.aI.length:=by grind
  have d:∃o,(s'.aE (.box (.aB m))).v=.agg o∧o.all (lB (jT (S.fC x).length++ks))=W∧c=o.map (l5 (jT (S.fC x).length++ks)):=by
   have gen:∀(kk ks:M aC)(t:M (M E))(i:U)(k:aC)(c:M E),Holds kk s' ks t→ks[i]?=J k→t[i]?=J c→∃o,(s'.aE (.box k)).v=.agg o∧o.all (lB kk)=W∧c=o.map (l5 kk):=by
    intro kk ks;induction ks with
    |nil=>grind|cons q ks ih=>
     intro t i k c hh hk hc;cases t with
     |nil=>exact hh.elim|cons b t=>
      cases i with|zero=>simp only[List.getElem?_cons_zero,nU]at hk hc;subst hk hc;exact hh.1|succ i=>exact ih t i k c hh.2 (by simpa using hk) (by simpa using hc)
   refine gen _ _ t m _ c B ?_ hc;simp_all [List.getElem?_append_left,jT]
  obtain⟨orig,d,azE,rfl⟩:=d
  have D:=hkall.2 (.aB m) hw
  rw[anq,hb,d]at D
  rcases D with D|⟨cs,cs',g1,g2,g3,g4⟩
  cases D
  cases g1
  cases g2
  rw[iQ]at hv
  cases hvo:orig[j]? with
  |none=>grind|some v0=>
   rw[hvo]at hv;simp only[m8,nU]at hv;let⟨u',q1,q2⟩:=g4 j hp v0 hvo;rw[hu]at q1;cases q1;have hn:=anp V x b (fK hb) u (fK hu);have lv:l7 v0=W:=by
    cases v0 with|aW k off=>rfl|_=>rw[←hv]at huv;exact huv
   have e:=QH q2 lv;rw[hn]at e;subst e;rw[←hv];cases v0 with
   |aW k off=>obtain⟨i,rfl,hi⟩:=ane V x b (fK hb) _ (fK hu) k off rfl;show E.aW (.aB (idx (.aB i) (jT (S.fC x).length++ks))) off=_;rw[ano (by grind)]
   |_=>rfl)
 let⟨hv,hbs⟩:=anv;let⟨β1,Ir,Z1,hr⟩:=hpr.1;have s:(xU F.af.c fn.results.toList S.aI.length).aD (dP (S.eQ x) R).st=J ((aL v,t.map aU),dH s'):=by
  let⟨fr,fw,h3,_,_⟩:=h3;have h3:(xU F.af.c fn.results.toList (S.fC x).length).cV (dH (cy (S.eQ x) R))=J ((aL v,t.map aU),dH s',fr,fw):=h3;rw[DX,YT,bQ.Rj]at h3;cases hx:(xU F.af.c fn.results.toList S.aI.length).aD (dP (S.eQ x) R).st with
  |none=>rw[hx]at h3;cases h3
  |some q=>grind
 rw[hv,hbs]at s;have anx:∀k b,β k=J b→∃i,i<S.aI.length∧k=.aB i:=by grind
 let⟨u,β',ω',Z',g1,g2⟩:=akB (r:={v:=aL (S.out z (S.flag z)).1,aI:=(je (S.fC x) (S.out z (S.flag z)).2).map aU,cH:=S.cH}) hC.Ap hr hsz G h.args anx s (λi hi=>by show(cL (s'.aE (.bN i))).v=(ln S.cH ((S.eQ x).map aL)).getD i .undef;rw[abY,←hfz];have:((jd s'.cH (S.eQ x)).map aL).getD i .undef=aL ((jd s'.cH (S.eQ x)).getD i .undef):=AN aL _ i .undef;rw[this];show aL ((jd s'.cH s'.args).getD i .undef)=_;rw[C];rfl);have hbp:bodyPost P fn (λe w'=>∃v β' ω' Z',e=.returned v∧aY (cY P 1 w vals β ω Z) β' ω' Z' (fa ((S.eQ x).map aL) {v:=aL (S.out z (S.flag z)).1,aI:=(je (S.fC x) (S.out z (S.flag z)).2).map aU,cH:=S.cH}) {tmps:=#[v],defers:=[]} w') .ret a w':=⟨hr.defers.1,u,g1,u,β',ω',Z',rfl,g2⟩;rcases hex with rfl|rfl
 exact hbp;exact hbp;exact h2.elim;exact h2.elim;cases hF;cases hF
def Bf(fn:Func):az:=match fn.body with|some _=>W|none=>I
noncomputable def rS(F:iF)(tbl:U→Q gJ)(fn:Func)(S:bQ)(x:S.X):Q S.Y:=(Rm F tbl (Rs fn) (T fn.results) S x).run
def tu{P:ew}{f:dT}{fn:Func}{F:iF}{tbl:U→Q gJ}{S:bQ}{sh:S.X→Q S.Y}(i:P.funcs[f]?=J fn)(m:Bf fn=W)(b:P.follows .mixedOrders=W)(j:nn P F.af.c) (k:fn.ntmps=F.af.N)(e:S.ok=W)(a:Y S.args≤F.af.N)(g:∀x,mF (S.eQ x) (jT (Y S.aI)) F.hI=W)(d:∀x,rS F tbl fn S x=sh x):iD P f (S.F sh):=by
 have l:fn.body=J (Rs fn):=by grind [Bf,Rs]
 exact anr i l b j k e a g λx y h=>ab0 (d x) h
def anz{P:ew}{f:dT}{fn:Func}{S:bQ}{sh:S.X→Q S.Y}(b:P.funcs[f]?=J fn)(a:(fn.name== "runtime.NumGoroutine")=I)(c:Bf fn=W)(h:iD P f (S.F sh)):lx P f (S.F sh):=by grind [Bf,qk]
def oL(f:dT):M (dT×cU)→Q cU
 |[]=>O|(g,K)::r=>match f==g with|true=>J K|false=>oL f r
def Rt{f:dT}:∀{l:M (dT×cU)}{K:cU},oL f l=J K→(f,K)∈l|(g,a)::r,K,h=>by simp only[oL]at h;split at h;grind;exact i7 _ (Rt h)
def dr(P:ew)(x:dT×cU):Prop:=lx P x.1 x.2.F
def vQ{P:ew}{e:eW}{l:M (dT×cU)}(hT:ip P e.c)(b:e.fD=λ_ f=>oL f l)(h:∀x∈l,dr P x):nn P e.c:=by
 refine⟨hT,λt f F a=>?_⟩;have a:(match e.fD t f with|some K=>J K.F|none=>O)=J F:=a
 rw[b]at a;simp only at a;split at a;rename_i K d;cases a;exact h _ (Rt d);cases a
def El(t:U)(f:dT)(l:M (dT×cU)):M (U×dT×cU)→Q cU
 |[]=>oL f l|(u,g,K)::r=>match t==u&&f==g with|true=>J K|false=>El t f l r
def ab2{t:U}{f:dT}{l:M (dT×cU)}:∀{s:M (U×dT×cU)}{K:cU},El t f l s=J K→(f,K)∈l∨(t,f,K)∈s
 |[],K,h=>.inl (Rt h)|(u,g,a)::r,K,h=>by
  simp only[El]at h;split at h;grind;rcases ab2 h with h|h
  exact .inl h;grind
def anA{P:ew}{e:eW}{l:M (dT×cU)}{s:M (U×dT×cU)}(hT:ip P e.c)(b:e.fD=λt f=>El t f l s)(h:∀x∈l,dr P x)(g:∀x∈s,dr P x.2):nn P e.c:=by
 refine⟨hT,λt f F a=>?_⟩;have a:(match e.fD t f with|some K=>J K.F|none=>O)=J F:=a
 rw[b]at a;simp only at a;split at a;rename_i K i;cases a;rcases ab2 i with d|d
 exact h _ d;exact g _ d;cases a
def tw{P:ew}{f:dT}{fn:Func}{S:bQ}{b:S.ok=W}{sh:S.X→Q S.Y}(c:P.funcs[f]?=J fn)(a:(fn.name== "runtime.NumGoroutine")=I)(d:Bf fn=W)(h:iD P f (S.F sh)):dr P (f,S.fD b sh):=anz c a d h
def Kw(f:bq→Q Ty):M (U×bq)→Q Ty
 |[]=>O|(_,t)::r=>match r with
  |[]=>f t|x::r=>match f t,Kw f (x::r)with|some a,J b=>J (.bG a b)|_,_=>O
def Em(af:bM):U→bq→Q Ty
 |0,_=>O|n+1,t=>match af.ti t with
  |some {kind:=.bool, ..}=>J .bool|some {kind:=.int k, ..}=>J (.int k)|some {kind:=.bh, ..}=>J .bh|some {kind:=.slice e, ..}=>match af.ti e,Em af n e with|some i,J r=>if i.size=r.e then J (.sl r)else O|_,_=>O
  |some {kind:=.struct fs, ..}=>Kw (Em af n) fs|_=>O
def Wf:(t:Ty)→t.T→Prop
 |.int k,x=>k.min≤x∧x≤k.max|.bool,_=>dK|.bh,_=>dK|.sl r,o=>match o with|none=>dK|some xs=>∀x∈xs,Wf r x
 |.bG h t,x=>Wf h x.1∧Wf t x.2|.cb _ h t,x=>Wf h x.1∧Wf t x.2|.set k,x=>Wf k x
def mK:(t:Ty)→t.T→U
 |.int _,_=>1|.bool,_=>1|.bh,s=>Y s+1|.sl r,o=>match o with|none=>1|some xs=>(xs.map (mK r)).sum+1
 |.bG h t,x=>mK h x.1+mK t x.2|.cb _ h t,x=>mK h x.1+mK t x.2|.set k,x=>mK k x
def tx:∀(t:Ty)(x:t.T),iV (bf t x)=mK t x
 |.int _,_=>rfl|.bool,_=>rfl|.bh,s=>by simp[bf,iV,vg,mK]|.sl r,o=>by
  cases o with
  |none=>rfl|some xs=>
   simp only[bf,iV,vg,mK,Nat.add_zero];congr 1;induction xs with|nil=>rfl|cons x xs a=>simp only[eU,pl,List.sum_cons,tx r x,a]
 |.bG h t,x=>by simp only[bf,Jb,tx h x.1,tx t x.2,mK]|.cb _ h t,x=>by simp only[bf,Jb,tx h x.1,tx t x.2,mK]|.set k,x=>by simp only[bf,tx k x,mK]
theorem ab3{c:bq→M D→Prop}{f:bq→Q Ty}(h:∀t ds ty,c t ds→f t=J ty→∃x:ty.T,ds=bf ty x∧Wf ty x):∀(fs:M (U×bq))(ds:M D)(ty:Ty),Ja c fs ds→Kw f fs=J ty→∃x:ty.T,ds=bf ty x∧Wf ty x
 |[],ds,ty,_,e=>by cases e
 |(o,t)::r,ds,ty,d,e=>by
  obtain⟨a,b,rfl,h1,h2⟩:=d;cases r with|nil=>have h2:b=[]:=h2;subst h2;rw[List.append_nil];exact h t a ty h1 e|cons y r=>simp only[Kw]at e;split at e;rename_i g i j k;cases e;obtain⟨x,rfl,l⟩:=h t a g h1 j;obtain⟨z,rfl,m⟩:=ab3 h (y::r) b i h2 k;exact⟨(x,z),rfl,l,m⟩;cases e
def En{af:bM}:∀(n:U)(t:bq)(ds:M D)(ty:Ty),om af n t ds→Em af n t=J ty→∃x:ty.T,ds=bf ty x∧Wf ty x:=by
 intro n;induction n with
 |zero=>intro t ds ty h;exact h.elim
 |succ n j=>
  intro t ds ty h e;simp only[om]at h;simp only[Em]at e;split at e;rename_i a;rw[a]at h;cases e;obtain⟨b,rfl⟩:=h;exact⟨b,rfl,trivial⟩;rename_i a;rw[a]at h;cases e;obtain⟨x,rfl,h2⟩:=h;exact⟨x,rfl,h2⟩;rename_i a;rw[a]at h;cases e;obtain⟨x,rfl,_⟩:=h;exact⟨x,rfl,trivial⟩;rename_i k _ a;rw[a]at h;simp only at h;split at e;rename_i i r hi l;rw[hi]at h;simp only at h;split at e;rename_i m;cases e;rcases h with rfl|⟨xs,rfl,c,g⟩
  exact⟨O,rfl,trivial⟩;have:∃ys:M r.T,xs=ys.map (bf r)∧∀y∈ys,Wf r y:=by
    clear c;induction xs with|nil=>simp_all|cons x xs d=>let⟨y,o,s⟩:=j k x r (g x (List.mem_cons_self ..)) l;let⟨ys,p,u⟩:=d λz q=>g z (i7 _ q);exact⟨y::ys,by rw[o,p];rfl,by grind⟩
  obtain⟨ys,rfl,f⟩:=this;exact⟨J ys,by rw[m];rfl,f⟩;cases e;cases e;grind [ab3];cases e
def Ru(af:bM)(n:U)(t:bq):Q It:=
 match af.ti t with
 |some i=>match i.kind.agg,Em af n t with|true,J a=>J (.bC a)|false,J (.int k)=>J (.one (.i k))|false,J .bool=>J (.one .b)|false,J .bh=>J (.one .s)|false,J (.sl r)=>J (.one (.n .data r))|_,_=>O
 |none=>O
def Kx(af:bM)(n:U):M bq→Q (M It)
 |[]=>J []|t::r=>match Ru af n t,Kx af n r with|some i,J l=>J (i::l)|_,_=>O
def WfS:(h:Sh)→h.T→Prop|.i k,x=>k.min≤x∧x≤k.max|.b,_=>dK|.s,_=>dK|.l _ t,xs=>∀x∈xs,Wf t x|.n _ t,o=>Wf (.sl t) o|.p _ _,_=>dK|.dd,_=>dK|.u _,_=>dK|.r _,_=>dK
def anC:(h:Sh)→h.T→U|.i _,_=>1|.b,_=>1|.s,x=>Y x+1|.l _ t,xs=>(xs.map (mK t)).sum+1|.n _ t,o=>mK (.sl t) o|.p _ _,_=>0|.dd,_=>0|.u _,_=>0|.r _,_=>0
def WfI:(i:It)→i.T→Prop|.one h,x=>WfS h x|.bC t,x=>Wf t x|_,_=>dK
def ab5:(i:It)→i.T→U|.one h,x=>anC h x|.bC t,x=>mK t x|_,_=>0
def Ky:(l:M It)→IT l→Prop|[],_=>dK|i::r,x=>WfI i (IT.hd i r x)∧Ky r (IT.tl IT.gV i r x)
def Kz:(l:M It)→IT l→U|[],_=>0|i::r,x=>ab5 i (IT.hd i r x)+Kz r (IT.tl IT.gV i r x)
def anD{af:bM}{n:U}{t:bq}{ds:M D}{i:It}(h:om af n t ds)(e:Ru af n t=J i):∃x:i.T,rH af t ds=aL (i.cD x)∧WfI i x∧ab5 i x=iV ds:=by unfold Ru at e;unfold rH;split at e;rename_i ti d;rw[d];simp only;split at e;rename_i f b a;cases e;obtain⟨x,rfl,c⟩:=En n t ds f h a;rw[aF b];refine⟨x,?_,c,adJ (tx f x)⟩;show _=SV.agg (aU (fc f x));rw[kV];rename_i k b a;cases e;obtain⟨x,rfl,c⟩:=En n t ds _ h a;rw[aV (by simp[b])];exact⟨x,rfl,c,rfl⟩;rename_i b a;cases e;obtain⟨x,rfl,c⟩:=En n t ds _ h a;rw[aV (by simp[b])];exact⟨x,rfl,c,rfl⟩;rename_i b a;cases e;obtain⟨x,rfl,c⟩:=En n t ds _ h a;rw[aV (by simp[b])];exact⟨x,rfl,c,adJ (tx .bh x)⟩;rename_i r b a;cases e;obtain⟨x,rfl,c⟩:=En n t ds _ h a;rw[aV (by simp[b])];refine⟨x,?_,c,adJ (tx (.sl r) x)⟩;cases x<;>rfl;cases e;cases e
def ab6{af:bM}{n:U}:∀(ts:M bq)(a:M (M D))(l:M It),Y a=Y ts→Vs.aQ (λt x=>om af n t x) ts a→Kx af n ts=J l→∃x:IT l,ko af ts a=(IT.cD l x).map aL∧Ky l x∧Kz l x=pl a
 |[],[],l,_,_,e=>by cases e;exact⟨(),rfl,trivial,rfl⟩
 |t::ts,ds::a,l,c,b,e=>by simp only[Kx]at e;split at e;rename_i i r h1 h2;cases e;let⟨x,d,f,g⟩:=anD b.1 h1;let⟨y,j,k,m⟩:=ab6 ts a r (by simpa using c) b.2 h2;refine⟨IT.cons i r x y,?_,?_,?_⟩;simp only[ko,IT.cD,eU,IT.Ef,IT.Eg,d,j];simp only[Ky,IT.Ef,IT.Eg];exact⟨f,k⟩;simp only[Kz,IT.Ef,IT.Eg,pl,g,m];cases e
 |[],_::_,_,h,_,_=>by simp at h|_::_,[],_,h,_,_=>by simp at h
open Go.ChangeShapes in
def ab7{H:Type}{enc:bq×aJ→H}{P:ew}{a:bZ}{af:bM}{base:U}{args:bW aJ}{ds K:M (jo H)}{d:M MemPlace}{f:dT}{fn:Func}{sp:ChangeSpec}{n m:U}{ts:M bq}{tb:bq}{l:M It} {sh:IT (l++[])→Q az}(w:bQ.ok {args:=l,res:=[.one .b]}=W)(N:iD P f (bQ.F {args:=l,res:=[.one .b]} sh))(hT:ip P af)(k:sp.vars=[])(c:fn.params.toList=ts)(z:fn.resultTypes=#[tb])(o:acK P tb=J .bool) (h:Kx af n ts=J l) (i:∀t∈ts,oq af n t=W)(p:laidOutB P=W)(q:∀t∈ts,P.readableRec t=W∧t<P.types.size)(B:ql H)(hm:B.all ds≤m) (r:∀x:IT l,Ky l x→Kz l x≤m→∃y:IT (l++[]),IT.cD (l++[]) y=IT.cD l x∧sh y=J W) (A:∀ds:M (jo H),ds.length=ts.length→sp.fn H (ds++[])={results:=[.lit (.bool W)],args:=ds}) (s:(∀g l,(g,l)∈ry P→g<a.heap.size∧oa a g l)∧∀g,g∈sM P→g<a.heap.size∧uN a g) (u:∀(j:U)t v,fn.params[j]?=J t→args[j]?=J v→Value.okWide P a .any base t v) (R:DataW.Whole enc P fn.params.toList sp.vars I a args.toList ds K d):Calls P f args a λe W'=>∃v,e=.returned v∧sp.post enc P fn I W I I a args v W':=by
 refine akN N hT k c z o i p q B (λD h1 h2 h3=>?_) A s u R;let⟨x,S,T,Y⟩:=ab6 ts D l h1 h2 h;let⟨y,hy,V⟩:=r x T (by omega);have hd:=bQ.mI {args:=l,res:=[.one .b]} w y;have X:(bQ.eQ {args:=l,res:=[.one .b]} y)=IT.cD l x:=by show(IT.cD (l++[]) y).take l.length=_;grind [IT.Ei]
 have G:(bQ.fC {args:=l,res:=[.one .b]} y)=[]:=by show((IT.cD (l++[]) y).drop l.length).map Kn=_;simp_all [IT.Ei]
 rw[X,G]at hd;rw[S];unfold bQ.F;rw[show([]:M (M C))=([]:M (M E)).map aU from rfl,hd];simp only[V,G];rfl
@[simp] theorem aG{ρ α:Type}(x:ρ)(k:ρ→Q α):aq (J x) k=k x:=rfl
@[simp] def azG{ρ α:Type}(k:ρ→Q α):aq O k=O:=rfl
@[simp] def azH{ρ σ α:Type}(x:ρ)(k:ρ→Q α)(k':σ→Q α):dc (.inl x) k k'=k x:=rfl
@[simp] def pz{ρ σ α:Type}(x:σ)(k:ρ→Q α)(k':σ→Q α):dc (.inr x) k k'=k' x:=rfl
def ab8{ρ:Type}(o:Q ρ):(aq o λx=>J x)=o:=by cases o<;>rfl
theorem cf{n:L}(a: -9223372036854775808≤n)(h1:n≤9223372036854775807):a7.wrap n=n:=by simp only[IntKind.wrap,IntKind.bits,Hs];simp;omega
def di{i:U}(h:i<9223372036854775807):a7.wrap ((i:L)+1)=((i+1:U):L):=by rw[cf (by omega) (by omega)];omega
def eh{n:L}(h: -9223372036854775808≤n∧n≤9223372036854775807):a7.wrap n=n:=cf h.1 h.2
@[simp] theorem dv{α:Type}(l:M α):ag l=(Y l:L):=by rw[ag]
def ab9{σ ρ:Type}{f:σ→Option (σ⊕ρ)}(I:σ→Prop)(m:σ→U)(Q:ρ→Prop) (step:∀x,I x→match f x with|some (.inl y)=>I y∧m y<m x|some (.inr r)=>Q r|none=>jn):∀(n:U)(x:σ),I x→m x<n→∃r,eD f n x=J r∧Q r|0,_,_,h=>cO h (Nat.not_lt_zero _)|n+1,x,b,h=>by have a:=step x b;unfold eD;split<;>rename_i e;rename_i y;rw[e]at a;exact ab9 I m Q step n y a.1 (by omega);grind;grind
def gs{σ ρ:Type}{f:σ→Option (σ⊕ρ)}(I:σ→Prop)(m:σ→U)(Q:ρ→Prop) (step:∀x,I x→match f x with|some (.inl y)=>I y∧m y<m x|some (.inr r)=>Q r|none=>jn)(x:σ)(a:I x)(hm:m x<fuel):∃r,bR f x=J r∧Q r:=ab9 I m Q step fuel x a hm
def aca{σ ρ:Type}{f:σ→Q (σ⊕ρ)}(mk:U→σ)(n:U)(P:U→Prop)(bad good:ρ) (yes:∀i,i<n→P i→f (mk i)=J (.inl (mk (i+1))))(no:∀i,i<n→¬P i→f (mk i)=J (.inr bad))(stop:f (mk n)=J (.inr good))(hn:n<fuel):((∀i,i<n→P i)→bR f (mk 0)=J good)∧((¬ ∀i,i<n→P i)→bR f (mk 0)=J bad):=by
 have key:∀(k i:U),i+k=n→∀m,k<m→((∀j,i≤j→j<n→P j)→eD f m (mk i)=J good)∧((¬ ∀j,i≤j→j<n→P j)→eD f m (mk i)=J bad):=by
  intro k;induction k with
  |zero=>intro i hi m b;obtain⟨m,rfl⟩:∃q,m=q+1:=⟨m-1,by omega⟩;grind [eD]
  |succ k d=>intro i hi m b;obtain⟨m,rfl⟩:∃q,m=q+1:=⟨m-1,by omega⟩;by_cases hp:P i;grind [eD];grind [eD]
 let⟨h1,h2⟩:=key n 0 (by omega) fuel hn;exact⟨λh=>h1 λj _ a=>h j a,λh=>h2 λc=>h λj a=>c j (fV _) a⟩
def nC{α β:Type}{xs:M α}{k:U}(h:k<Y xs){A B C:Q β}:(if decide ((k:L)<ag xs)=W then(if decide (0≤(k:L)∧(k:L)<ag xs)=W then A else B)else C)=A:=by simp_all
def dQ{α β:Type}{xs:M α}{k:U}(h:k<Y xs){A C:Q β}:(if decide ((k:L)<ag xs)=W then A else C)=A:=by simp_all
theorem gb{α β:Type}{xs:M α}{A C:Q β}:(if decide ((Y xs:L)<ag xs)=W then A else C)=C:=by simp_all
theorem cW{α:Type}{xs:M α}{k:U}{d:α}(h:k<Y xs):H xs ((k:L)).toNat d=xs[k]:=by grind
def Ok{α:Type}(o:Option α)(Q:α→Prop):Prop:=∃x,o=J x∧Q x
namespace Ok
variable{α β:Type}{Q:α→Prop}
theorem ret{x:α}(h:Q x):Ok (J x) Q:=⟨x,rfl,h⟩
theorem mono{o:Option α}{R:α→Prop}(h:Ok o R)(hi:∀x,R x→Q x):Ok o Q:=by let⟨x,e,a⟩:=h;exact⟨x,e,hi x a⟩
theorem call{ρ:Type}{o:Option ρ}{k:ρ→Option α}{R:ρ→Prop}(h:Ok o R)(hk:∀x,R x→Ok (k x) Q):Ok (aq o k) Q:=by obtain⟨x,rfl,a⟩:=h;exact hk x a
def ite{c:Prop}[Decidable c]{a b:Option α}(d:c→Ok a Q)(e:¬c→Ok b Q):Ok (if c then a else b) Q:=by grind
def pos{c:Prop}[Decidable c]{a b:Option α}(h:c)(d:Ok a Q):Ok (if c then a else b) Q:=by rw[aF h];exact d
def neg{c:Prop}[Decidable c]{a b:Option α}(h:¬c)(d:Ok b Q):Ok (if c then a else b) Q:=by rw[aV h];exact d
def dJ{c:Prop}[Decidable c]{a b:Option α}(d:c→Ok a Q)(e:¬c→Ok b Q):Ok (if decide c=W then a else b) Q:=ite (λh=>d (jr h)) (λh=>e (λf=>h (decide_eq_true f)))
def loop{σ ρ:Type}{f:σ→Option (σ⊕ρ)}{R:ρ→Prop}(I:σ→Prop)(m:σ→Nat){x:σ}(a:I x)(hm:m x<fuel) (step:∀x,I x→Ok (f x) (λy=>match y with|.inl y=>I y∧m y<m x|.inr r=>R r)):Ok (bR f x) R:=by refine gs I m R (λx b=>?_) x a hm;obtain⟨y,e,hy⟩:=step x b;grind
def app{a:Type}{o:Option (M a)}{A B:Option α}{k:Prop}(b:∀xs,o=J xs→Ok A Q)(hn:o=O→Ok B Q)[Decidable k](hk:k↔o.isSome=W):Ok (if k then A else B) Q:=by
 cases o with|none=>grind|some xs=>grind
end Ok
def Rv{H:Type}(B:ql H):∀(a b:M (jo H)),B.all a≤B.all (a++b)|[],b=>by rw[B.nil];exact fV _|x::a,b=>by rw[List.cons_append,B.cons,B.cons];exact Nat.add_le_add_left (Rv B a b) _
end Go.Ve
namespace Go.Ve
open Go Go.ChangeShapes Go.WideShapes Go.RowKit Go.Vs
def acb{P:ew}{w:bZ}:∀{l:M (String×jo bV)}{ps:M MemPlace}{n:String}{d:jo bV},DataW.LaidVars P w l ps→(n,d)∈l→∃g t cs fuel p,P.globalNamed n=J g∧(P.globals[g]?).map (·.type)=J t∧w.var? P n=J cs∧DataW.trod (λ_=>()) P w 0 (λ_=>W) I fuel t cs.toList=J (d,p)
 |[],_,_,_,_,h=>by cases h
 |(c,d0)::r,ps,n,d,h,a=>by
  obtain⟨g,t,cs,fuel,p,q,f,i,j,k,b,rfl⟩:=h;rcases jQ.1 a with e|a
  grind;exact acb b a
def acd{P:ew}{a:bZ}{laid:M (String×jo bV)}{n:String}{k:IntKind}{b:M L}{g:U}{t e N:U}(h:laidMet P laid a)(hm:(n,DataW.agg (b.map λz=>.lit (.int k z)))∈laid) (c:P.globalNamed n=J g)(w:(P.globals[g]?).map (·.type)=J t)(d:acK P t=J (.array N e))(f:acK P e=J (.int k))(i:P.cellsOf e=1)(G:Y b=N)(x:P.cellsOf t=N):oa a g (b.map λz=>.int k z):=by
 let⟨ps,hv,_⟩:=h;let⟨H,K,cs,fuel,p,y,A,s,hd⟩:=acb hv hm;obtain rfl:=ra (ab0 c.symm y);obtain rfl:=ra (ab0 w.symm A);let⟨xs,m,_,B,C,R,j⟩:=DataW.trod_array d hd;intro r;rw[iQ];cases D:b[r]? with
 |none=>
  have:N≤r:=by grind
  rw[ayK c s r,←qV,List.getElem?_eq_none (by omega)];rfl
 |some z0=>
 have l:=D;rw[m8];have o:r<N:=by grind
 have u:=j r o;rw[i,Nat.mul_one,eM (by omega)]at u;let⟨z,f1,f2,_⟩:=DataW.trod_int f u;have q:(xs.map (·.1))=b.map λn=>.lit (.int k n):=adJ (DataW.agg.inj (Prod.mk.inj B).1);have v:(xs.map (·.1))[r]?=(b.map λn=>(DataW.lit (.int k n):jo bV))[r]? :=by rw[q]
 rw[iQ,iQ,eM (by omega:r<xs.length),l,f2]at v;have E:z=z0:=by simpa using v
 subst E;rw[ayK c s r];have:(T cs)[r]?=J (.int k z):=by
  have F:(((T cs).drop r).take 1)[0]?=J (.int k z):=by rw[f1];rfl
  simpa using F
 simpa using this
end Go.Ve
namespace Go.Ve
open Go Go.Vs
def ace{a:bZ}{g:U}{l:M aJ}{v:aJ}(h:oa a g l)(b:l[0]?=J v):g<a.heap.size:=by have c:=h.aE b;grind [World.cell?]
end Go.Ve
namespace Go.Vs
def acO:D→az|.sl _ _|.rep _ _=>I|_=>W
def apd:C→az|.d x=>acO x|_=>I
def scalar(v:SV):az:=v.cells.all apd
def ape{w w':World}{Z Z':Nat→Prop}{d:D}{v:Value}(hd:acO d=W)(h:bA w Z d v):bA w' Z' d v:=by cases d<;>first|(cases hd;done)|exact h
section
variable{P:Program}{w:World}{vals:Array Value}{β:aC→Option Nat}{ω:Nat→Option cT}{Z:Nat→Prop}{args:List SV}
def ExC(w:World)(Z:Nat→Prop)(bks:List Nat)(c:C)(u:Value):Prop:=(∃d,c=.d d∧bA w Z d u)∨∃i b,c=.aW (.aB i) 0∧bks[i]?=J b∧u=.pointer (J ⟨b,0,O⟩)
def BX{aI:List (List C)}(l:aY (cY P 0 w vals β ω Z) β ω Z (dm args aI) {tmps:=#[],defers:=[]} w)(Y:args.all lw=W){w':World}{v:Value}{r:ri}{Z':Nat→Prop}{bks:List Nat}(hos:w'.os=w.os)(D:w'.tape=w.tape)(N:w'.output=w.output) (E:w.heap.size≤w'.heap.size)(A:∀b,b<w.heap.size→ω b=O→w'.heap[b]?=w.heap[b]?)(hZ:∀b,Z b→Z' b)(hZn:∀b,Z' b→Z b∨w.heap.size≤b)(hZl:∀b,Z' b→b<w'.heap.size)(hf:r.cH=[]) (hv:bO (ExC w' Z' bks) v r.v)(hl:r.aI.length=bks.length)(hnd:bks.Nodup) (F:∀(i b:Nat)cs,bks[i]?=J b→r.aI[i]?=J cs→¬Z' b∧(b<w.heap.size→ω b≠O)∧∃(ws:Array Value)(el:bq)(lo hi:Nat),w'.heap[b]?=J (.cells ws el (lo,hi))∧(∀o,o<ws.size→¬(lo≤o∧o<hi))∧∃ds,cs=ds.map C.d∧aQ (λu d=>bA w' Z' d u) ws.toList ds) (hin:∀i,i<aI.length→∃b,bks[i]?=J b∧β (.aB i)=J b):aY (cY P 1 w vals β ω Z) (λk=>match k with|.aB i=>bks[i]? |_=>O) (λb=>if b∈bks then J (.box (.aB (bks.idxOf b)),O)else O) Z' (fa args r) {tmps:=#[v],defers:=[]} w':=by
 have hzf:∀b,Z b→w'.heap[b]?=w.heap[b]? :=λb G=>A b (l.dp b G) (by
  cases hω:ω b with|none=>rfl|some g=>exact cO G (l.dZ b g hω).1)
 have H:=I9 l;have hold:∀k b,β k=J b→(match k with|.aB i=>bks[i]? |_=>O)=J b:=by intro k b hk;obtain⟨i,hi,rfl⟩:=H k b hk;let⟨b',y,n⟩:=hin i hi;rw[hk]at n;cases n;exact y
 have s:∀i,(fa args r (.bN i)).v=args.getD i .undef:=by intro i;simp[fa,hf,ln]
 have Zi:∀(i b:Nat),bks[i]?=J b→∃cs,r.aI[i]?=J cs:=λi b h=>⟨_,List.getElem?_eq_getElem (by rw[hl];exact(List.getElem?_eq_some_iff.1 h).1)⟩;refine⟨rfl,⟨rfl,l.defers.2⟩,hos,D,N,E,?_,hZl,hZ,λb G=>(hZn b G).imp id .inl,?_,?_,?_,?_,?_,?_,hold⟩;simp_all [cY];intro t;cases t with
 |zero=>
  refine bO.mono (λc u m B=>?_) hv;rcases B with⟨d,rfl,hd⟩|⟨i,b,rfl,z,rfl⟩
  exact hd;exact⟨b,z,rfl⟩
 |succ t=>trivial
 intro i;rw[s];refine bO.oc (λj c u m X B=>?_) (l.args i);have R:=I8 Y m;cases c with
 |d x=>exact bA.mono (λb G=>⟨hzf b G,hZ b G⟩) _ _ B|ak e xs=>
  by_cases K:ca e=W;obtain⟨b,rfl,h2⟩:=(aR.kG K).1 B;let⟨y,n⟩:=l.iS i j e xs _ b m X (lW ..);grind [aR.kG,ej.mono,cY];have K:ca e=I:=by simpa using K
  let⟨ad,cap,h1,h2,h3,h4⟩:=(aR.ju K).1 B;subst h1;let⟨y,n⟩:=l.iS i j e xs _ ad.block m X rfl;grind [aR.ju,dy.mono,cY]
 |aW k off=>let⟨b,y,n⟩:=B;exact⟨b,hold k b y,n⟩
 |dj f caps=>let⟨vs,y,n⟩:=B;exact⟨vs,y,n.kS λu p hp⟨b,q1,q2⟩=>⟨b,hold _ b q1,q2⟩⟩
 |_=>cases R
 intro k;cases k with
 |aB i=>
  show ek _ _ _ _ _ _ _ _ (match r.aI[i]? with|some cs=>.agg cs|none=>.undef)
  cases z:r.aI[i]? with|none=>show bks[i]?=O;rw[List.getElem?_eq_none_iff]at z ⊢;omega|some cs=>have hi:i<bks.length:=(by rw[←hl];exact(List.getElem?_eq_some_iff.1 z).1);have S:=List.getElem?_eq_getElem hi;obtain⟨y,n,ws,el,lo,T,g3,g4,ds,rfl,g5⟩:=F i _ cs S z;refine⟨bks[i],ws,el,lo,T,S,?_,g3,g4,?_⟩;show(if bks[i]∈bks then _ else _)=_;rw[aF (List.getElem_mem hi),hnd.idxOf_getElem];refine aQ.dX (by simpa using g5.length) λj a c ha m=>?_;rw[List.getElem?_map,Option.map_eq_some_iff]at m;obtain⟨d,hd,rfl⟩:=m;let⟨u,h1,h2⟩:=g5.aE hd;rw[ha]at h1;cases h1;exact h2
 |aw t=>exact rfl|cm t i=>exact rfl
 intro q j e xs u1 b1 B m hh V;exfalso;cases q with
 |tmp t=>
  cases t with
  |zero=>let⟨u,_,X⟩:=hv.cell m;rcases X with⟨d,h,_⟩|⟨i,b,h,_⟩<;>cases h
  |succ t=>simp[fa,SV.cells]at m
 |bN i=>simp[aO.isArg]at B|box k=>
  cases k with
  |aB i=>
   have m:(match r.aI[i]? with|some cs=>SV.agg cs|none=>.undef).cells[j]?=J (.ak e xs):=m
   cases z:r.aI[i]? with|none=>rw[z]at m;simp[SV.cells]at m|some cs=>rw[z]at m;have hi:i<bks.length:=(by rw[←hl];exact(List.getElem?_eq_some_iff.1 z).1);obtain⟨_,_,_,_,_,_,_,_,ds,rfl,_⟩:=F i _ cs (List.getElem?_eq_getElem hi) z;simp[SV.cells]at m
  |aw t=>simp[fa,SV.cells]at m|cm t i=>simp[fa,SV.cells]at m
 intro i j e xs u1 b1 m hh V;rw[s]at m;exact l.iS i j e xs u1 b1 m hh V;intro b g h;split at h;rename_i K;let⟨i,hi⟩:=List.getElem?_of_mem K;let⟨cs,hcs⟩:=Zi i b hi;let⟨y,n,ws,el,lo,T,g3,_⟩:=F i b cs hi hcs;exact⟨y,by grind,n⟩;cases h
def BZ(f:aY (cY P 0 w vals β ω Z) β ω Z (dm args []) {tmps:=#[],defers:=[]} w)(l:args.all lw=W){w':World}{v:Value}{r:ri}(m:w'.os=w.os)(g:w'.tape=w.tape)(j:w'.output=w.output) (a:w.heap.size≤w'.heap.size)(e:∀b,b<w.heap.size→ω b=O→w'.heap[b]?=w.heap[b]?){K₀:dh}{β₀:aC→Option Nat}{Z₀:Nat→Prop}{s₀:St}{a₀:Act}{w₀:World} (hv:bO (aR K₀ β₀ Z₀ s₀ a₀ w₀) v r.v)(n:scalar r.v=W)(p:r.aI=[])(q:r.cH=[]):aY (cY P 1 w vals β ω Z) (λk=>match k with|.aB i=>([]:List Nat)[i]? |_=>O) (λb=>if b∈([]:List Nat)then J (.box (.aB (([]:List Nat).idxOf b)),O)else O) Z (fa args r) {tmps:=#[v],defers:=[]} w':=by
 refine BX f l m g j a e (λ_ h=>h) (λ_ h=>.inl h) (λb s=>Nat.lt_of_lt_of_le (f.dp b s) a) q (bO.mono (λc u t y=>?_) hv) (by rw[p];rfl) List.nodup_nil (λi b cs h=>by simp at h) (λi h=>cO h (Nat.not_lt_zero i));have o:=List.all_eq_true.1 n c t;cases c with|d x=>exact .inl ⟨x,rfl,ape o y⟩|_=>cases o
end
section
variable{P:Program}{w0 w:World}{vals vals':Array Value}{β:aC→Option Nat}{ω:Nat→Option cT}{Z Z1:Nat→Prop}{args args':List SV}{aI:List (List C)}
def aer{K p:dh}{s s':St}{a q:Act}(hk:∀b,b<w0.heap.size→w.heap[b]?=w0.heap[b]?)(m:∀b,Z b→b<w0.heap.size∧Z1 b){c:C}{u:Value} (n:∀e xs b,c=.ak e xs→eH u=J b→b<w0.heap.size)(h:aR K β Z s a w0 c u)(j:qi c=W∨c=.bK):aR p β Z1 s' q w c u:=by
 have g:∀b,Z b→w.heap[b]?=w0.heap[b]? ∧Z1 b:=λb o=>⟨hk b (m b o).1,(m b o).2⟩;cases c with
 |d x=>exact bA.mono g _ _ h|ak e xs=>
  by_cases i:ca e=W;obtain⟨b,rfl,h2⟩:=(aR.kG i).1 h;exact(aR.kG i).2 ⟨b,rfl,ej.mono g _ _ _ (hk b (n e xs b rfl (lW ..))) h2⟩;have i:ca e=I:=by simpa using i
  obtain⟨l,cap,rfl,h2,h3,r⟩:=(aR.ju i).1 h;exact(aR.ju i).2 ⟨l,cap,rfl,h2,h3,dy.mono g _ _ _ _ (hk l.block (n e xs l.block rfl rfl)) r⟩
 |aW k off=>exact h|dj f caps=>exact h|bK=>trivial|_=>exact cO j (by simp[qi])
def azU(a:aY (cY P 0 w0 vals β ω Z) β ω Z (dm args aI) {tmps:=#[],defers:=[]} w0)(y:c7 w0.heap.size w0 w)(hZ:∀b,Z b→Z1 b)(H:∀b,Z1 b→Z b∨w0.heap.size≤b)(K:∀b,Z1 b→b<w.heap.size) (B:∀(i:Nat)cs,aI[i]?=J cs→∀c∈cs,qi c=W∨c=.bK)(N:∀(i:Nat)c,c∈(args'.getD i .undef).cells→∀e xs,c≠.ak e xs) (z:∀i,bO (aR (cY P 0 w vals' β ω Z1) β Z1 (dm args' aI) {tmps:=#[],defers:=[]} w) (vals'.getD i undef) (args'.getD i .undef)):aY (cY P 0 w vals' β ω Z1) β ω Z1 (dm args' aI) {tmps:=#[],defers:=[]} w:=by
 have hz:∀b,Z b→b<w0.heap.size∧Z1 b:=λb h=>⟨a.dp b h,hZ b h⟩;have f:∀b g,ω b=J g→b<w0.heap.size:=λb g h=>(a.dZ b g h).2.1;let⟨R,S⟩:=a.defers.2;have d:∀g o,g<w0.heap.size→ve w ⟨g,o,O⟩=ve w0 ⟨g,o,O⟩:=λg o C=>cell_of_heap (ady y g C) o O;refine⟨rfl,⟨rfl,λg l C=>?_,λg C=>?_⟩,rfl,rfl,rfl,Nat.le_refl _,λ_ _ _=>rfl,K,λ_ h=>h,λ_ h=>.inl h,λt=>?_,z,λk=>?_,?_,?_,?_,λ_ _ h=>h⟩;let⟨h1,h2,h3,T⟩:=R g l C;exact⟨Nat.lt_of_lt_of_le h1 y.size,hZ g h2,h3,λj=>ab0 (d g j h1) (T j)⟩;let⟨h1,h2,h3,m,T⟩:=S g C;exact⟨Nat.lt_of_lt_of_le h1 y.size,hZ g h2,h3,m,ab0 (d g 0 h1) T⟩;trivial;have hk:=a.aI k;cases k with
 |aB i=>
  show ek _ _ _ _ _ _ _ _ (match aI[i]? with|some cs=>.agg cs|none=>.undef)
  have hk:ek _ _ _ _ _ _ _ _ (match aI[i]? with|some cs=>SV.agg cs|none=>.undef):=hk
  cases q:aI[i]? with|none=>rw[q]at hk;exact hk|some cs=>rw[q]at hk;let⟨b,ws,el,lo,hi,D,F,g3,g4,g5⟩:=hk;refine⟨b,ws,el,lo,hi,D,F,ab0 (ady y b (f b _ F)) g3,g4,?_⟩;refine aQ.dX g5.length λj u c G p=>?_;let⟨u',h1,h2⟩:=g5.aE p;rw[G]at h1;cases h1;refine aer (λb h=>ady y b h) hz (λe xs A V n=>?_) h2 (B i cs q c (List.mem_of_getElem? p));subst V;have x:cK (cY P 0 w0 vals β ω Z) β {tmps:=#[],defers:=[]} w0 (.box (.aB i)) j=J u:=(by show(β (.aB i)).bind (λb=>ve w0 ⟨b,j,O⟩)=J u;rw[D];rw[Array.getElem?_toList]at G;simp[World.cell?,g3,G]);exact f A _ (a.ak (.box (.aB i)) j e xs u A rfl (by show(match aI[i]? with|some cs=>SV.agg cs|none=>.undef).cells[j]?=_;rw[q];exact p) x n).1
 |aw t=>exact hk|cm t i=>exact hk
 intro r j e xs u A hr p x n;cases r with
 |tmp t=>simp[dm,SV.cells]at p|bN i=>simp[aO.isArg]at hr|box k=>
  have X:(dm args aI (.box k)).v.cells[j]?=J (.ak e xs):=by cases k<;>exact p
  have Y:cK (cY P 0 w0 vals β ω Z) β {tmps:=#[],defers:=[]} w0 (.box k) j=J u:=by
   have x:(β k).bind (λb=>ve w ⟨b,j,O⟩)=J u:=x;show(β k).bind (λb=>ve w0 ⟨b,j,O⟩)=J u;cases s:β k with
   |none=>rw[s]at x;cases x
   |some b=>
    obtain⟨i,hi,rfl⟩:=I9 a k b s;obtain⟨cs,hcs⟩:∃cs,aI[i]?=J cs:=⟨_,List.getElem?_eq_getElem hi⟩;have E:ek _ _ _ _ _ _ _ _ (match aI[i]? with|some cs=>SV.agg cs|none=>.undef):=a.aI (.aB i)
    rw[hcs]at E;let⟨b',_,_,_,_,D,F,_⟩:=E;rw[s]at D;cases D;exact(d b j (f b _ F)).symm.trans (by rw[s]at x;exact x)
  let⟨q1,q2⟩:=a.ak (.box k) j e xs u A rfl X Y n;exact⟨q1,q2.mono n (ady y A (f A _ q1))⟩
 intro i j e xs u A p G n;have p:(args'.getD i .undef).cells[j]?=J (.ak e xs):=p;exact cO rfl (N i _ (List.mem_of_getElem? p) e xs);intro b g h;let⟨h1,h2,h3⟩:=a.dZ b g h;exact⟨λhz1=>(H b hz1).elim h1 (λh=>by omega),Nat.lt_of_lt_of_le h2 y.size,λ_=>by show ω b≠O;rw[h];simp⟩
def asU(n:aY (cY P 0 w0 vals β ω Z) β ω Z (dm args aI) {tmps:=#[],defers:=[]} w0)(q:c7 w0.heap.size w0 w)(hZ:∀b,Z b→Z1 b)(s:∀b,Z1 b→b<w.heap.size) (v:∀(i:Nat)c,c∈(H args' i .undef).cells→∀e xs,c≠.ak e xs) (d:∀i,bO (aR (cY P 0 w vals' (λ_=>O) (λ_=>O) Z1) (λ_=>O) Z1 (dm args' []) {tmps:=#[],defers:=[]} w) (vals'.getD i undef) (H args' i .undef)):aY (cY P 0 w vals' (λ_=>O) (λ_=>O) Z1) (λ_=>O) (λ_=>O) Z1 (dm args' []) {tmps:=#[],defers:=[]} w:=by
 let⟨x,y⟩:=n.defers.2;have a:∀g o,g<w0.heap.size→ve w ⟨g,o,O⟩=ve w0 ⟨g,o,O⟩:=λg o p=>cell_of_heap (ady q g p) o O;refine⟨rfl,⟨rfl,λg l p=>?_,λg p=>?_⟩,rfl,rfl,rfl,Nat.le_refl _,λ_ _ _=>rfl,s,λ_ h=>h,λ_ h=>.inl h,λt=>?_,d,λk=>?_,?_,?_,?_,λ_ _ h=>h⟩;let⟨h1,h2,h3,z⟩:=x g l p;exact⟨Nat.lt_of_lt_of_le h1 q.size,hZ g h2,λh=>h rfl,λj=>ab0 (a g j h1) (z j)⟩;let⟨h1,h2,h3,m,z⟩:=y g p;exact⟨Nat.lt_of_lt_of_le h1 q.size,hZ g h2,λh=>h rfl,m,ab0 (a g 0 h1) z⟩;trivial;cases k<;>exact rfl;intro r j e xs u B C f D A;cases r with|tmp t=>simp[dm,SV.cells]at f|bN i=>simp[aO.isArg]at C|box k=>cases k<;>simp[dm,SV.cells]at f
 intro i j e xs u B f E A;have f:(H args' i .undef).cells[j]?=J (.ak e xs):=f;exact cO rfl (v i _ (List.mem_of_getElem? f) e xs);intro b g h;cases h
def asV{f:dT}{F:rj}{r:ri}(p:iD P f F)(q:F args' []=J r)(t:r.cH=[])(n:vals'.size=Y args')(o:args'.all lw=W) (g:aY (cY P 0 w vals' (λ_=>O) (λ_=>O) Z1) (λ_=>O) (λ_=>O) Z1 (dm args' []) {tmps:=#[],defers:=[]} w):Calls P f vals' w λe w'=>c7 w.heap.size w w'∧∃v l K k s a,e=.returned v∧(∀b,Z1 b→l b)∧(∀b,l b→Z1 b∨w.heap.size≤b)∧(∀b,l b→b<w'.heap.size)∧bO (aR K k l s a w') v r.v:=by
 refine(p args' [] r q w vals' _ _ Z1 n o rfl g).mono ?_;rintro e w' ⟨v,k,ω',Z',rfl,c⟩;refine⟨⟨c.os,c.tape,c.output,c.base,λb x=>c.frame b x (λh=>h rfl)⟩,v,Z',_,_,_,_,rfl,c.lZ,λb y=>?_,c.dp,c.tmps 0⟩;rcases c.nj b y with h|h|h|⟨i,j,e,ys,u,h1,h2,h3,z⟩
 exact .inl h;exact .inr h;exact cO rfl h;left;have h1:(H args' i .undef).cells[j]?=J (.d (.sl e ys)):=by simpa[fa,t,ln]using h1
 have A:H args' i .undef≠.undef:=λh=>by rw[h]at h1;simp[SV.cells]at h1
 let⟨u',m,B⟩:=((g.args i).eB A).aE h1;have h2:(eB (vals'.getD i undef))[j]?=J u:=h2;have m:(eB (vals'.getD i undef))[j]?=J u':=m;rw[h2]at m;cases m;exact bA.live B h3 z
open Go.Ve in
def M8{f:dT}{S:bQ}{sh:S.X→Option S.Y}(t:iD P f (S.F sh))(k:S.ok=W)(l:S.aI=[])(m:S.cH=[]){x:S.X}{y:S.Y}(hy:sh x=J y) (g:aY (cY P 0 w0 vals β ω Z) β ω Z (dm args aI) {tmps:=#[],defers:=[]} w0)(u:c7 w0.heap.size w0 w)(hZ:∀b,Z b→Z1 b)(n:∀b,Z1 b→b<w.heap.size) (o:vals'.size=Y ((S.eQ x).map aL))(h:((S.eQ x).map aL).all lw=W) (p:∀(i:Nat)c,c∈(H ((S.eQ x).map aL) i .undef).cells→∀e xs,c≠.ak e xs) (d:∀i,bO (aR (cY P 0 w vals' (λ_=>O) (λ_=>O) Z1) (λ_=>O) Z1 (dm ((S.eQ x).map aL) []) {tmps:=#[],defers:=[]} w) (vals'.getD i undef) (H ((S.eQ x).map aL) i .undef)):Calls P f vals' w λe w'=>c7 w.heap.size w w'∧∃v j K q s a,e=.returned v∧(∀b,Z1 b→j b)∧(∀b,j b→Z1 b∨w.heap.size≤b)∧(∀b,j b→b<w'.heap.size)∧bO (aR K q j s a w') v (aL (S.out y (S.flag y)).1):=by
 have z:(S.fC x).map aU=[]:=by have:=bQ.Rj (S:=S) x;rw[l]at this;rw[List.length_eq_zero_iff.1 this];rfl
 have hd:=bQ.mI S k x;rw[z]at hd;refine asV (F:=S.F sh) (r:={v:=aL (S.out y (S.flag y)).1,aI:=(je (S.fC x) (S.out y (S.flag y)).2).map aU,cH:=S.cH}) t ?_ m o h (asU g u hZ n p d);unfold bQ.F;rw[hd];simp only[hy]
def aes{v:Value}{r:ri}{Z':Nat→Prop}(a:aY (cY P 0 w0 vals β ω Z) β ω Z (dm args aI) {tmps:=#[],defers:=[]} w0)(X:args.all lw=W)(n:c7 w0.heap.size w0 w)(hZ:∀b,Z b→Z' b)(K:∀b,Z' b→Z b∨w0.heap.size≤b)(Y:∀b,Z' b→b<w.heap.size) (hf:r.cH=[])(hv:bO (λc u=>∃d,c=.d d∧bA w Z' d u) v r.v)(N:r.aI=aI)(R:∀(i:Nat)cs,aI[i]?=J cs→∀c∈cs,qi c=W∨c=.bK):aY (cY P 1 w0 vals β ω Z) β ω Z' (fa args r) {tmps:=#[v],defers:=[]} w:=by
 have C:∀b,Z b→b<w0.heap.size∧Z' b:=λb h=>⟨a.dp b h,hZ b h⟩;have m:∀b g,ω b=J g→b<w0.heap.size:=λb g h=>(a.dZ b g h).2.1;have hzf:∀b,Z b→w.heap[b]?=w0.heap[b]? :=λb C=>ady n b (a.dp b C);have p:∀i,(fa args r (.bN i)).v=args.getD i .undef:=by intro i;simp[fa,hf,ln]
 have E:∀g o,g<w0.heap.size→ve w ⟨g,o,O⟩=ve w0 ⟨g,o,O⟩:=λg o hg=>cell_of_heap (ady n g hg) o O;refine⟨rfl,⟨rfl,a.defers.2⟩,n.os,n.tape,n.output,n.size,λb hb' _=>ady n b hb',Y,hZ,λb C=>(K b C).imp id .inl,λt=>?_,λi=>?_,λk=>?_,?_,?_,?_,λ_ _ h=>h⟩;cases t with|zero=>exact bO.mono (λc u l⟨d,hd,y⟩=>by subst hd;exact y) hv|succ t=>trivial
 rw[p];refine bO.oc (λj c u l G y=>?_) (a.args i);have S:=I8 X l;cases c with
 |d x=>exact bA.mono (λb C=>⟨hzf b C,hZ b C⟩) _ _ y|ak e xs=>
  by_cases V:ca e=W;obtain⟨b,rfl,h2⟩:=(aR.kG V).1 y;let⟨F,H⟩:=a.iS i j e xs _ b l G (lW ..);have hfr:=ady n;grind [aR.kG,ej.mono,cY];have V:ca e=I:=by simpa using V
  let⟨ad,cap,h1,h2,h3,h4⟩:=(aR.ju V).1 y;subst h1;let⟨F,H⟩:=a.iS i j e xs _ ad.block l G rfl;have hfr:=ady n;grind [aR.ju,dy.mono,cY]
 |aW k off=>exact y|dj f caps=>exact y|_=>cases S
 have hk:=a.aI k;cases k with
 |aB i=>
  show ek _ _ _ _ _ _ _ _ (match r.aI[i]? with|some cs=>.agg cs|none=>.undef)
  rw[N];have hk:ek _ _ _ _ _ _ _ _ (match aI[i]? with|some cs=>SV.agg cs|none=>.undef):=hk
  cases z:aI[i]? with|none=>rw[z]at hk;exact hk|some cs=>rw[z]at hk;let⟨b,ws,el,lo,hi,F,H,g3,g4,g5⟩:=hk;refine⟨b,ws,el,lo,hi,F,H,ab0 (ady n b (m b _ H)) g3,g4,?_⟩;refine aQ.dX g5.length λj u c G l=>?_;let⟨u',h1,h2⟩:=g5.aE l;rw[G]at h1;cases h1;refine aer (λb h=>ady n b h) C (λe xs D hce A=>?_) h2 (R i cs z c (List.mem_of_getElem? l));subst hce;have s:cK (cY P 0 w0 vals β ω Z) β {tmps:=#[],defers:=[]} w0 (.box (.aB i)) j=J u:=(by show(β (.aB i)).bind (λb=>ve w0 ⟨b,j,O⟩)=J u;rw[F];rw[Array.getElem?_toList]at G;simp[World.cell?,g3,G]);exact m D _ (a.ak (.box (.aB i)) j e xs u D rfl (by show(match aI[i]? with|some cs=>SV.agg cs|none=>.undef).cells[j]?=_;rw[z];exact l) s A).1
 |aw t=>exact hk|cm t i=>exact hk
 intro q j e xs u D y l s A;cases q with
 |tmp t=>
  cases t with
  |zero=>let⟨u',_,d,h,_⟩:=hv.cell l;cases h
  |succ t=>simp[fa,SV.cells]at l
 |bN i=>simp[aO.isArg]at y|box k=>
  have Pz:(dm args aI (.box k)).v.cells[j]?=J (.ak e xs):=by
   cases k with
   |aB i=>
    have l:(match r.aI[i]? with|some cs=>SV.agg cs|none=>.undef).cells[j]?=J (.ak e xs):=l
    rw[N]at l;exact l
   |aw t=>simp[fa,SV.cells]at l|cm t i=>simp[fa,SV.cells]at l
  have Pr:cK (cY P 0 w0 vals β ω Z) β {tmps:=#[],defers:=[]} w0 (.box k) j=J u:=by
   have s:(β k).bind (λb=>ve w ⟨b,j,O⟩)=J u:=s;show(β k).bind (λb=>ve w0 ⟨b,j,O⟩)=J u;cases B:β k with
   |none=>rw[B]at s;cases s
   |some b=>
    obtain⟨i,hi,rfl⟩:=I9 a k b B;obtain⟨cs,hcs⟩:∃cs,aI[i]?=J cs:=⟨_,List.getElem?_eq_getElem hi⟩;have T:ek _ _ _ _ _ _ _ _ (match aI[i]? with|some cs=>SV.agg cs|none=>.undef):=a.aI (.aB i)
    rw[hcs]at T;let⟨b',_,_,_,_,F,H,_⟩:=T;rw[B]at F;cases F;exact(E b j (m b _ H)).symm.trans (by rw[B]at s;exact s)
  let⟨q1,q2⟩:=a.ak (.box k) j e xs u D rfl Pz Pr A;exact⟨q1,q2.mono A (ady n D (m D _ q1))⟩
 intro i j e xs u1 D l s xG;rw[p]at l;exact a.iS i j e xs u1 D l s xG;intro b g h;let⟨h1,h2,h3⟩:=a.dZ b g h;exact⟨λhz1=>(K b hz1).elim h1 (λh=>by omega),Nat.lt_of_lt_of_le h2 n.size,λ_=>by show ω b≠O;rw[h];simp⟩
end
end Go.Vs
