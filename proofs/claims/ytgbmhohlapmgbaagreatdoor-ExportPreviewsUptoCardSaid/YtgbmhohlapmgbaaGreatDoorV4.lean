/- The statement ExportPreviewsUptoCardSaid of the given program is proved here: for every input whose bulk is at most the bound of its row, the law returns true and changes nothing. Part 4 of 7. -/
import Derived.Lib.Bytealg
import Derived.Lib.Index
import Derived.Lib.ItoaNum
import Derived.KernelRfl
import Derived.Lib.IndexLaws
import Derived.Lib.IndexMore
import Derived.Test.YtgbmhohlapmgbaaGreatDoorV3
set_option linter.unusedVariables false
set_option linter.unusedSimpArgs false
set_option linter.unusedSectionVars false
set_option linter.constructorNameAsVariable false
set_option linter.defProp false
open Bool renaming and_true->pv,eq_iff_iff->uX,false->I,false_and->Fw,false_eq_true->bh,false_or->uQ,not_false->qF,not_true->jg,or_true->xZ,true->W,true_and->r8,true_or->u7
open Go.IntKind renaming i64->aO,u32->ni
open Go.Lib renaming decDigits->x9,index->uR,indexByte->dW,index_room->aeV,occAt->ya
open Int renaming eq_ofNat_of_zero_le->oq,ofNat->eP,toNat_natCast->eE
open List renaming append_nil->Aw,drop_eq_getElem_cons->uY,drop_zero->Fi,flatMap_append->uW,getD_cons_zero->ot,getD_eq_getElem?_getD->iy,getElem?_eq_getElem->du,getElem?_eq_some_iff->gi,getElem_drop->AG,getElem_mem->fk,getLast?_eq_some_iff->aeU,isPrefixOf->pA,isPrefixOf_iff_prefix->L1,length->uO,length_append->lr,length_cons->jr,length_drop->Fb,length_filter_le->Fv,length_nil->AB,map_cons->dO,mem_cons->iA,range->hY,range_succ->aaN,replicate->dk,takeWhile_cons->Fy,take_append_drop->l7,take_length->xS,take_succ_eq_append_getElem->iz
open List.Pairwise renaming nil->awy
open Nat renaming ble->fi,ble_eq->gG,le_refl->dD,le_trans->uV,lt_of_le_of_lt->js,lt_of_succ_lt->cb,lt_or_ge->gW,sub_le->uZ,zero_add->uP,zero_le->fm
open Option renaming getD_some->eB,map->eQ,map_some->lu,none->O,some->J
open Option.some renaming inj->qG,injEq->kI
open Sum renaming inl->mf,inr->kJ
open UInt8 renaming ofNat->je
open _root_ renaming Bool->ao,Int->M,List->L,Nat->U,Option->Q,UInt8->ai,Unit->bu,absurd->bX,beq_iff_eq->cT,bne_self_eq_false->qI,congrArg->bz,decide_eq_false->ia,decide_eq_true->iM,if_false->bC,if_neg->aK,if_pos->ax,if_true->bf
namespace Go.Fd
open Go Go.Vs Go.Ve
@[reducible] def bJ{α:Type}(P:Prop)[Decidable P](A:Q α):Q α:=if decide P=W then A else O
@[reducible] def al{α:Type}(b:ao)(A:Q α):Q α:=if b=W then A else O
@[reducible] def aB{α:Type}(P:Prop)[Decidable P](A B:α):α:=if decide P=W then A else B
@[reducible] def ag{α:Type}(b:ao)(A B:α):α:=if b=W then A else B
@[reducible] def bY{α β:Type}(i:M)(l:L β)(A:Q α):Q α:=if decide (0≤i∧i<af l)=W then A else O
@[reducible] def bL{α:Type}(l:L α)(i:M)(d:α):α:=l.getD i.toNat d
@[reducible] def aF{α:Type}(l:Q (L α))(i:M)(d:α):α:=(l.getD []).getD i.toNat d
@[reducible] def aj{α:Type}(l:Q (L α)):L α:=l.getD []
@[reducible] def aq(x:M):M:=aO.wrap (x+1)
@[reducible] def aR(x:M):M:=aO.wrap x
@[reducible] def ay{σ ρ:Type}(x:σ):Q (σ⊕ρ):=J (mf x)
@[reducible] def au{σ ρ:Type}(x:ρ):Q (σ⊕ρ):=J (kJ x)
@[reducible] def ej(x:ai):M:=eP x.toNat
@[reducible] def fW{α:Type}(n:U)(A:Q α):Q α:=if decide (n≤nat_lit 1152921504606846976)=W then A else O
@[reducible] def cr(n:U):ao:=decide (n≤nat_lit 1152921504606846976)
@[reducible] def cu{β:Type}(i:M)(l:L β):ao:=bw i.toNat l.length
@[reducible] def gC{α β:Type}(i:M)(l:L β)(A:Q α):Q α:=if decide (0≤i)=W then(if bw i.toNat l.length=W then A else O)else O
@[reducible] def aM{σ ρ α:Type}(f:σ→Q (σ⊕ρ))(x:σ)(k:ρ→Q α):Q α:=ak (bA f x) k
@[reducible] def bq{α β:Type}(i:M)(l:L β)(A B:Q α):Q α:=if decide (i<af l)=W then(if decide (0≤i∧i<af l)=W then A else O)else B
@[reducible] def ah{α β:Type}(x:α)(k:α→β):β:=k x
@[reducible] def aY:U:=nat_lit 1
@[reducible] def gP:U:=nat_lit 2
@[reducible] def Zh:U:=nat_lit 3
abbrev aZ:Type:=L ai
abbrev cV:Type:=aZ×M
abbrev iH:Type:=M×cV
abbrev bp:Type:=Q (L iH)
abbrev i7:Type:=Q (L (ao×aZ×aZ))
abbrev fa:Type:=M×i7
abbrev qi:Type:=Q (L fa)
abbrev dz:Type:=M×M
abbrev rp:Type:=M×ao
abbrev jA:Type:=M×M×M×dz×M×bp×aZ×rp
abbrev eg:Type:=qi×Q (L jA)×M
abbrev nP:Type:=M×dz
abbrev Zr:Type:=M×M×M×M×M×M×M×nP
abbrev wM:Type:=M×Zr
abbrev tO:Type:=M×wM
abbrev ak6:Type:=M×tO
abbrev Zl:Type:=M×ak6
abbrev Pj:Type:=M×Zl
abbrev alv:Type:=M×Pj
abbrev o6:Type:=M×alv
abbrev Pf:Type:=M×o6
abbrev alc:Type:=M×Pf
abbrev ald:Type:=M×alc
abbrev ale:Type:=M×ald
abbrev alf:Type:=M×ale
abbrev alg:Type:=M×alf
abbrev alh:Type:=M×alg
abbrev ali:Type:=M×alh
abbrev alj:Type:=M×ali
abbrev alk:Type:=M×alj
abbrev alm:Type:=M×alk
abbrev aln:Type:=M×alm
abbrev alo:Type:=M×aln
abbrev alp:Type:=M×alo
abbrev alq:Type:=M×alp
abbrev alr:Type:=alq×rp
abbrev als:Type:=L alr
abbrev rq:Type:=Q als
abbrev cJ:Type:=Q (L M)
abbrev jX:Type:=qi×Q (L jA)×M×L (dz×bp)
abbrev tK:Type:=Q (L nP)
abbrev jY:Type:=Q (L aZ)
abbrev jB:Type:=M×M×M×L (ai×aZ)×jY
abbrev ja:Type:=Q (M⊕ao⊕bu)
abbrev ip:Type:=bp×M
abbrev kY:Type:=bp×cJ×cJ×ip
abbrev Zi:Type:=Q ao
abbrev kC:Type:=L fa×Q (L jA)×M
abbrev lM:Type:=bp×cJ×cJ×dz
abbrev jm:Type:=Q (M⊕M)
abbrev eL:Type:=cJ×M
abbrev rr:Type:=Q (L (ao×rq×rq))
abbrev wI:Type:=aZ×i7×M
abbrev kE:Type:=bp×cJ×cJ
abbrev qj:Type:=Q (M⊕M⊕bu)
abbrev jZ:Type:=Q (L dz)
abbrev o4:Type:=aZ×fa
abbrev Zn:Type:=M×M×o4
abbrev Cv:Type:=M×M×M×Zn
abbrev fc:Type:=Q M
abbrev nQ:Type:=Q (L bp)
abbrev Iz:Type:=M×wI
abbrev zl:Type:=M×M×M×Iz
abbrev tL:Type:=Q (dz⊕M)
abbrev tM:Type:=i7×dz
abbrev tN:Type:=Q tM
abbrev wJ:Type:=Q (ip⊕bp)
abbrev ka:Type:=Q bp
abbrev ru:Type:=Q (L ao)
abbrev Zj:Type:=Q (cJ×eL⊕cJ×cJ×ao⊕cJ×cJ)
abbrev zm:Type:=Q (eL⊕cJ)
abbrev wK:Type:=Q (eg×M)
abbrev zn:Type:=iH×M
abbrev Pd:Type:=Q (aZ×jB⊕cV⊕aZ)
abbrev nR:Type:=tK×dz
abbrev Pe:Type:=Q cV
abbrev Zq:Type:=L ao×M
abbrev alb:Type:=Q (Zq⊕L ao)
abbrev alu:Type:=Q (M⊕M×iH⊕bu)
abbrev ak9:Type:=aZ×M×i7×M×nP
abbrev IA:Type:=Q (M×ak9⊕tM⊕ak9)
abbrev ala:Type:=aZ×bu×M×nP
abbrev nS:Type:=bp×dz
abbrev zo:Type:=Q aZ
abbrev Pg:Type:=M×ao×jX
abbrev Ph:Type:=bp×bp×cJ×nP
abbrev ak5:Type:=bp×cJ×dz
abbrev ak8:Type:=Q (Ph⊕ak5⊕bp×bp×eL)
abbrev zk:Type:=aZ×dz
abbrev Pk:Type:=Q (zk⊕cV)
abbrev ak4:Type:=M×kC
abbrev IB:Type:=Q (ak4⊕kC)
abbrev alw:Type:=Q (cV⊕aZ)
abbrev zq:Type:=M×fa
abbrev ak7:Type:=Q (M×aZ×M×ip⊕zq⊕M×aZ×M×bp)
abbrev Cw:Type:=Q (L zn×M⊕L zn)
abbrev Zm:Type:=L (M×bp)
abbrev rx:Type:=Q cJ
abbrev IC:Type:=Q (fa×M)
abbrev Iy:Type:=M×eg
abbrev wL:Type:=M×L (aZ×ao)×o4
abbrev Zo:Type:=Q (dz⊕ao⊕bu)
abbrev zr:Type:=Q (bu⊕ao⊕bu)
abbrev Zp:Type:=Q zn
abbrev Zk:Type:=Q (cJ×cJ×ao)
abbrev ak3:Type:=Q (aZ×aZ×ao)
abbrev abL:Type:=Q (M×ao×ao)
def wN:Q rr:=J (J [(W,J [((0,0,0,0,2,64,0,0,0,0,0,0,0,0,0,0,0,0,0,0,0,0,0,0,0,0,0,0,0,0,0,0),1,I)],J [((0,0,0,0,1,0,0,0,0,0,0,0,0,0,0,0,0,0,0,0,0,0,0,0,0,0,0,0,0,0,0,0),1,I)])])
def wO:M→fc:=λb=>ah (aB (b≥97) (decide (b≤122)||decide (b≥128)) (decide (b≥128))) λu=>ag (b==9||(b==10||(b==13||b==32))) (J 2) (ag (decide (b<32)||b==127) (J 1) (ag (decide (b≥48)&&decide (b≤57)) (J 3) (ag (aB (b≥65) (decide (b≤90)||u) u) (J 4) (J 5))))
def IE:aZ→M→jm:=λs a=>aB (a<af s) (gC a s (ak (wO (ej (bL s a 0))) λb=>ag (b==2) (ay (aq a)) (au a))) (au a)
def Pm:aZ→M→jm:=λs a=>gC (aR (a-1)) s (ak (wO (ej (bL s (aR (a-1)) 0))) λb=>ag (b==2) (ay (aR (a-1))) (au a))
def Cx:aZ→Q dz:=λs=>aM (IE s) 0 λa=>ag (a==af s) (J (0,0)) (aM (Pm s) (af s) λb=>J (a,b))
def Cy:bp→dz→tL:=λf a=>ah (af (aj f)) λu=>ah (aF f a.2 (0,[],0)) λb=>ah (decide (0≤a.2∧a.2<u)) λc=>aB (a.2<u) (al (c&&(!b.1==1||c)) (ay (ag (b.1==1) (aR (a.1+af b.2.1)) (aq a.1),aq a.2))) (au a.1)
def lN:bp→fc:=λf=>aM (Cy f) (0,0) λa=>J a
def Cz:bp→cV→alw:=λf a=>ah (aF f a.2 (0,[],0)) λu=>ah (decide (0≤a.2∧a.2<af (aj f))) λb=>ah (ag (u.1==1) (a.1++u.2.1) a.1) λc=>ah (af (aj f)) λd=>aB (a.2<d) (al (b&&((!u.1==1||b&&cr (a.1.length+u.2.1.length))&&(b&&(!u.1==5||cr (c.length+aY))))) (ay (ag (u.1==5) (c++[255]) c,aq a.2))) (au a.1)
def tQ:bp→zo:=λf=>aM (Cz f) ([],0) λa=>J a
def CA:bp→M→M→nS→Q (nS⊕bp):=λf b to a=>ah (aF f a.2.2 (0,[],0)) λu=>ah (aj a.1).length λh=>ah (aR (gN to (aR (a.2.1+af u.2.1))-a.2.1)) λc=>ah (aR (mI b a.2.1-a.2.1)) λd=>ah (decide (0+h=h)&&(decide (h+aY≤nat_lit 68719476736)&&a.1.isSome==a.1.isSome)) λj=>ah (af (aj f)) λk=>ah (decide (a.2.1≥b)&&decide (a.2.1<to)) λl=>ah (u.1 !=1) λi=>ah a.2.2 λe=>ah (aj a.1) λm=>ah (af u.2.1) λg=>aB (e<k) (al (decide (0≤e∧e<k)&&ag i (!l||j) (!decide (d<c)||decide (0≤d∧d≤c∧c≤g)&&j)) (ay (ag i (ag l (J (m++[u])) a.1) (aB (d<c) (J (m++[(1,aV d c u.2.1,u.2.2)])) a.1),ag i (aq a.2.1) (aR (a.2.1+g)),aq e))) (au a.1)
def kZ:bp→M→M→Q (bp×ao):=λf a to=>aB (a<0) (J (O,I)) (aB (to<a) (J (O,I)) (ak (lN f) λc=>aB (to>c) (J (O,I)) (aM (CA f a to) (O,0,0) λb=>al (b.isSome==b.isSome) (al (b.isSome==b.isSome) (J (b,W))))))
abbrev Pn:=M×M×M×M×M×M×M×M×M×M×M×M×M×M×M×M×M×M×M×M×M×M×M×M×M×M×M×M×M×M×M×M
def zt(x:Pn):L M:=[x.1,x.2.1,x.2.2.1,x.2.2.2.1,x.2.2.2.2.1,x.2.2.2.2.2.1,x.2.2.2.2.2.2.1,x.2.2.2.2.2.2.2.1,x.2.2.2.2.2.2.2.2.1,x.2.2.2.2.2.2.2.2.2.1,x.2.2.2.2.2.2.2.2.2.2.1,x.2.2.2.2.2.2.2.2.2.2.2.1,x.2.2.2.2.2.2.2.2.2.2.2.2.1,x.2.2.2.2.2.2.2.2.2.2.2.2.2.1,x.2.2.2.2.2.2.2.2.2.2.2.2.2.2.1,x.2.2.2.2.2.2.2.2.2.2.2.2.2.2.2.1,x.2.2.2.2.2.2.2.2.2.2.2.2.2.2.2.2.1,x.2.2.2.2.2.2.2.2.2.2.2.2.2.2.2.2.2.1,x.2.2.2.2.2.2.2.2.2.2.2.2.2.2.2.2.2.2.1,x.2.2.2.2.2.2.2.2.2.2.2.2.2.2.2.2.2.2.2.1,x.2.2.2.2.2.2.2.2.2.2.2.2.2.2.2.2.2.2.2.2.1,x.2.2.2.2.2.2.2.2.2.2.2.2.2.2.2.2.2.2.2.2.2.1,x.2.2.2.2.2.2.2.2.2.2.2.2.2.2.2.2.2.2.2.2.2.2.1,x.2.2.2.2.2.2.2.2.2.2.2.2.2.2.2.2.2.2.2.2.2.2.2.1,x.2.2.2.2.2.2.2.2.2.2.2.2.2.2.2.2.2.2.2.2.2.2.2.2.1,x.2.2.2.2.2.2.2.2.2.2.2.2.2.2.2.2.2.2.2.2.2.2.2.2.2.1,x.2.2.2.2.2.2.2.2.2.2.2.2.2.2.2.2.2.2.2.2.2.2.2.2.2.2.1,x.2.2.2.2.2.2.2.2.2.2.2.2.2.2.2.2.2.2.2.2.2.2.2.2.2.2.2.1,x.2.2.2.2.2.2.2.2.2.2.2.2.2.2.2.2.2.2.2.2.2.2.2.2.2.2.2.2.1,x.2.2.2.2.2.2.2.2.2.2.2.2.2.2.2.2.2.2.2.2.2.2.2.2.2.2.2.2.2.1,x.2.2.2.2.2.2.2.2.2.2.2.2.2.2.2.2.2.2.2.2.2.2.2.2.2.2.2.2.2.2.1,x.2.2.2.2.2.2.2.2.2.2.2.2.2.2.2.2.2.2.2.2.2.2.2.2.2.2.2.2.2.2.2]
def wP:Pn×rp→M→Zi:=λa b=>if decide (0≤b∧b<256)=W then J (ez .u8 ((zt a.1).getD (b/8).toNat 0/2 ^ (b%8).toNat) 1==1)else O
def CD:rq→aZ→ru×M→Zq→alb:=λp s d a=>ah (bY d.2 (aj p) (gC a.2 s (ak (wP (aF p d.2 ((0,0,0,0,0,0,0,0,0,0,0,0,0,0,0,0,0,0,0,0,0,0,0,0,0,0,0,0,0,0,0,0),0,I)) (ej (bL s a.2 0))) λf=>al (!f||decide (0≤aq a.2∧aq a.2<af a.1)&&bw (0+(aq a.2).toNat) a.1.length) (ay (ag f (a.1.set (0+(aq a.2).toNat) W) a.1,aq a.2))))) λu=>ah (ay (a.1,aq a.2)) λe=>ah (0+a.2.toNat) λb=>ah (aj d.1) λc=>aB (a.2<af s) (bY a.2 c (al (bw b c.length) (ag (c.getD b I) u (bY d.2 (aj p) (ag (aF p d.2 ((0,0,0,0,0,0,0,0,0,0,0,0,0,0,0,0,0,0,0,0,0,0,0,0,0,0,0,0,0,0,0,0),0,I)).2.2 (bY a.2 a.1 (al (bw b a.1.length) (ag (a.1.getD b I) u e))) e))))) (au a.1)
def CF:rq→ru×M→L ao→Zq→alb:=λp g i b=>ah (aF p g.2 ((0,0,0,0,0,0,0,0,0,0,0,0,0,0,0,0,0,0,0,0,0,0,0,0,0,0,0,0,0,0,0,0),0,I)).2.1 λu=>ah (af (aj p)) λh=>ah (decide (0≤b.2∧b.2<af b.1)) λe=>ah (0+b.2.toNat) λa=>ah (e&&bw a b.1.length) λc=>ah (aj g.1) λd=>ah (b.1.getD a I) λf=>aB (b.2<af i) (al (e&&(bw a b.1.length&&ag f c (decide (0≤g.2∧g.2<h)&&aB (u≤0) (decide (0≤b.2∧b.2<af d)&&(bw a d.length&&c)) c))) (ay (ag f (b.1.set a W) (aB (u≤0) (b.1.set a (d.getD a I)) (b.1.set a I)),aq b.2))) (au b.1)
def IF:rq→aZ→ru×M→Q (ru×M⊕ru):=λp s a=>aB (a.2<af (aj p)) (bJ (0≤aq (af s)∧aq (af s)≤aq (af s)∧aq (af s)≤68719476736) (aM (CD p s a) (dk (aq (af s)).toNat I,0) λb=>aM (CF p a b) (b,0) λc=>ay (J c,aq a.2))) (au a.1)
def CG:rq→aZ→ru→Q ru:=λp s a=>al (decide ((aj a).length≤nat_lit 68719476736)&&(dj (aj a)).isSome==(dj (aj a)).isSome) (aM (IF p s) (dj (aj a),0) λb=>al (b.isSome==b.isSome) (al (b.isSome==b.isSome) (J b)))
def Po:aZ→Q ru:=λs=>ah (aq (af s)) λu=>ah (dk u.toNat I) λa=>bJ (0≤u∧u≤u∧u≤68719476736) (al (decide (0≤(0:M)∧0<af a)&&bw (nat_lit 0) a.length) (J (J (a.set (nat_lit 0) W))))
def IG:ru→dz→tL:=λb a=>bq a.2 (aj b) (ay (ag (aF b a.2 I) a.2 a.1,aq a.2)) (au a.1)
def Pp:rq→aZ→fc:=λp s=>ak (Po s) λa=>ak (CG p s a) λb=>aM (IG b) ((-1:M),0) λc=>J c
def IH:rq→aZ→Zi:=λp s=>ak (Pp p s) λa=>J (decide (a≥0))
def Pq:aZ→Zq→alb:=λs a=>aB (a.2<af (dk (aq (af s)).toNat I)) (al (decide (0≤a.2∧a.2<af a.1)&&bw (0+a.2.toNat) a.1.length) (ay (a.1.set (0+a.2.toNat) W,aq a.2))) (au a.1)
def II:rq→aZ→Zi:=λp s=>bJ (0≤aq (af s)∧aq (af s)≤aq (af s)∧aq (af s)≤68719476736) (aM (Pq s) (dk (aq (af s)).toNat I,0) λb=>ak (CG p s (J b)) λa=>bY (af s) (aj a) (J (aF a (af s) I)))
def IJ:rr→aZ→M→M→ja:=λa text at' b=>bq b (aj a) (bJ (0≤(0:M)∧0≤at'∧at'≤af text) (ak (II (aF a b (I,O,O)).2.1 (aV 0 at' text)) λc=>ag c (bY b (aj a) (bJ (0≤at'∧at'≤af text∧af text≤af text) (ak (IH (aF a b (I,O,O)).2.2 (aV at' (af text) text)) λd=>ag d (bY b (aj a) (au (.inl (aF a b (I,O,O)).1))) (ay (aq b))))) (ay (aq b)))) (au (.inr ()))
def IK:rr→aZ→M→Zi:=λa text at'=>ag (decide (at'≤0)||decide (at'≥af text)) (J I) (aM (IJ a text at') 0 λb=>cC b (λc=>J c) λd=>J I)
def IL:rr→aZ→eL→zm:=λb text a=>aB (a.2<af text) (ak (IK b text a.2) λc=>al (!c||decide (0+(aj a.1).length=(aj a.1).length)&&(decide ((aj a.1).length+aY≤nat_lit 68719476736)&&a.1.isSome==a.1.isSome)) (ay (ag c (J (aj a.1++[a.2])) a.1,aq a.2))) (au a.1)
def IM:rr→aZ→rx:=λa text=>aB (af text>1024) (J O) (aM (IL a text) (O,1) λb=>al (b.isSome==b.isSome) (al (b.isSome==b.isSome) (J b)))
def IP:bp→M→M→jm:=λf c a=>aB (a<c) (ak (kZ f a (aq a)) λb=>al (af (aj b.1) !=1||decide (0≤(0:M)∧0<af (aj b.1))) (ag (af (aj b.1) !=1||((aj b.1).getD (nat_lit 0) (0,[],0)).1 !=3) (au a) (ay (aq a)))) (au a)
def IQ:bp→M→M→M→qj:=λf offset b a=>aB (a≤b) (ak (kZ f 0 a) λc=>ak (tQ c.1) λd=>ag (af d !=offset) (ay (aq a)) (aM (IP f b) a λe=>au (.inl e))) (au (.inr ()))
def IR:bp→M→fc:=λf offset=>aB (offset<0) (J (-1:M)) (ak (tQ f) λa=>aB (offset>af a) (J (-1:M)) (ak (lN f) λb=>aM (IQ f offset b) 0 λc=>cC c (λd=>J d) λe=>J (-1:M)))
def wQ:bp→M→Zi:=λf p=>ak (kZ f p (aq p)) λb=>ah ((aj b.1).getD (nat_lit 0) (0,[],0)) λu=>ah (aj b.1) λa=>ag b.2 (ag (af a==1) (bY 0 a (ag (u.1==1) (bY 0 a (al (bw (nat_lit 0) u.2.1.length) (ak (wO (ej (u.2.1.getD (nat_lit 0) 0))) λc=>J (c==2)))) (J I))) (J I)) (J I)
def IU:bp→M→jm:=λf a=>ak (wQ f a) λb=>ag b (ay (aq a)) (au a)
def IV:bp→M→jm:=λf a=>ak (wQ f (aR (a-1))) λb=>ag b (ay (aR (a-1))) (au a)
def Zs:bp→M→jm:=λf a=>ak (wQ f a) λb=>ag b (ay (aq a)) (au a)
def Zt:bp→M→jm:=λf a=>ak (wQ f (aR (a-1))) λb=>ag b (ay (aR (a-1))) (au a)
def IW:bp→cJ→jZ×dz→Q (jZ×dz⊕jZ):=λf p b=>ah (decide (0+(aj b.1).length=(aj b.1).length)&&(decide ((aj b.1).length+aY≤nat_lit 68719476736)&&b.1.isSome==b.1.isSome)) λu=>ah (aj p++[(-1:M)]) λd=>ah b.2.2 λa=>ah (d.getD (0+a.toNat) 0) λe=>ah (aj b.1) λg=>ah b.2.1 λc=>ah (af d) λh=>aB (a<h) (al (decide (0≤a∧a<h)&&bw (0+a.toNat) d.length) (ak (lN f) λj=>aB (e≥0) (ak (IR f e) λk=>ak (kZ f c k) λq=>ak (tQ q.1) λr=>ak (Cx r) λo=>aB (o.1<o.2) (aM (IU f) c λs=>aM (IV f) k λt=>al u (ay (J (g++[(s,t)]),k,aq a))) (ay (b.1,k,aq a))) (ak (kZ f c j) λv=>ak (tQ v.1) λl=>ak (Cx l) λi=>aB (i.1<i.2) (aM (Zs f) c λm=>aM (Zt f) j λn=>al u (ay (J (g++[(m,n)]),j,aq a))) (ay (b.1,j,aq a))))) (au b.1)
def IX:rr→bp→Q jZ:=λa f=>ak (tQ f) λd=>ak (IM a d) λb=>al (decide (0+(aj b).length=(aj b).length)&&(decide ((aj b).length+aY≤nat_lit 68719476736)&&b.isSome==b.isSome)) (aM (IW f b) (O,0,0) λc=>al (c.isSome==c.isSome) (al (c.isSome==c.isSome) (J c)))
def zu:bp→ip→wJ:=λf b=>ah (aj b.1) λu=>ah (aF f b.2 (0,[],0)) λd=>ah (decide (0+u.length=u.length)&&(decide (u.length+aY≤nat_lit 68719476736)&&b.1.isSome==b.1.isSome)) λi=>ah (decide (0≤aR (af u-1)∧aR (af u-1)<af u)) λe=>ah (u.getD (0+(aR (af u-1)).toNat) (0,[],0)) λg=>ah (af (aj f)) λj=>ah (decide (af u>0)) λk=>ah (bw (0+(aR (af u-1)).toNat) u.length) λh=>ah d.2.1 λa=>ah (d.1 !=1) λl=>ah (k&&g.1==1) λc=>aB (b.2<j) (al (decide (0≤b.2∧b.2<j)&&ag l i (decide (a=[])||(!k||e&&h)&&ag c (e&&(h&&(cr (g.2.1.length+a.length)&&(e&&h)))) i)) (ay (ag l (J (u++[d])) (aB (a=[]) b.1 (J (ag c (u.set (0+(aR (af u-1)).toNat) (1,g.2.1++a,0)) (u++[(1,a,0)])))),aq b.2))) (au b.1)
def CH:bp→ka:=λf=>aM (zu f) (O,0) λa=>al (a.isSome==a.isSome) (al (a.isSome==a.isSome) (J a))
def kc:bp→bp→ka:=λa b=>bJ ((aj a).length≤nat_lit 68719476736) (bJ (0+(aj (dj (aj a))).length=(aj (dj (aj a))).length) (bJ ((aj (dj (aj a))).length+(aj b).length≤nat_lit 68719476736) (al ((dj (aj a)).isSome==(dj (aj a)).isSome) (al ((iF (dj (aj a)) (aj b)).isSome==(iF (dj (aj a)) (aj b)).isSome) (ak (CH (iF (dj (aj a)) (aj b))) λc=>J c)))))
def wR:aZ→M→Q (M⊕aZ⊕bu):=λs a=>aB (a<af s) (al (decide (0≤a)&&cu a s) (ag (aN (bL s a 0)==32) (bJ (0≤(0:M)∧0≤a∧a≤af s) (au (.inl (aV 0 a s)))) (ay (aq a)))) (au (.inr ()))
def o7:aZ→zo:=λs=>aM (wR s) 0 λa=>cC a (λb=>J b) λc=>J s
def zw:aZ→Zi:=λname=>J (decide (name=[112])||(decide (name=[104])||(decide (name=[108,105])||(decide (name=[116,100])||decide (name=[116,105,116,108,101])))))
def lO:aZ→aZ→Zi:=λs t=>al (!decide (af s≥af t)||decide (0≤(0:M)∧0≤af t∧af t≤af s)) (J (decide (af s≥af t)&&decide (aV 0 (af t) s=t)))
def wU:aZ→M→ja:=λs a=>ah (aN (bL s a 0)) λu=>ah (decide (a>0)&&aB (u≥48) (decide (u≤57)||u==45) (u==45)) λb=>aB (a<af s) (al (decide (0≤a)&&cu a s) (ag (aB (u≥97) (decide (u≤122)||b) b) (ay (aq a)) (au (.inl I)))) (au (.inr ()))
def qk:aZ→Zi:=λs=>ag (decide (af s<1)||decide (af s>24)) (J I) (aM (wU s) 0 λa=>cC a (λb=>J b) λc=>J W)
def tS:aZ→M→alu:=λs a=>ag (decide (a<af s)&&decide (a≤25)) (al (decide (0≤a)&&cu a s) (ag (aN (bL s a 0)==125) (bJ (0≤(1:M)∧1≤a∧a≤af s) (ak (qk (aV 1 a s)) λb=>ag (!b) (au (.inr ())) (bJ (0≤(1:M)∧1≤a∧a≤af s) (au (.inl (aq a,5,aV 1 a s,0)))))) (ay (aq a)))) (au (.inr ()))
def zx:aZ→Zp:=λs=>aM (tS s) 1 λb=>cC b (λa=>J (a.2,a.1)) λc=>J ((0,[],0),0)
def CI:aZ→M→ja:=λs a=>ah (aN (bL s a 0)) λu=>aB (a<af s) (al (decide (0≤a)&&cu a s) (ag (decide (u<32)||(decide (u>126)||(u==60||(u==62||(u==123||u==125))))) (au (.inl I)) (ay (aq a)))) (au (.inr ()))
def CJ:aZ→Zi:=λs=>ah (decide (0≤aR (af s-1))&&cu (aR (af s-1)) s) λu=>ah (aN (bL s (aR (af s-1)) 0) !=47) λb=>ah (af s) λa=>aB (a>64) (J I) (aM (CI s) 0 λf=>cC f (λg=>J g) λh=>ak (o7 s) λd=>ah (decide (a>aq (af d))) λc=>ak (qk d) λe=>al (!e||ag (af d==a) u (!c||u)) (J (e&&ag (af d==a) b (c&&b))))
def lb:aZ→aZ→M→qj:=λs t a=>aB (aR (a+af t)≤af s) (bJ (0≤a∧a≤aR (a+af t)∧aR (a+af t)≤af s) (aB (aV a (aR (a+af t)) s=t) (au (.inl a)) (ay (aq a)))) (au (.inr ()))
def ry:aZ→aZ→M→fc:=λs t a=>aM (lb s t) a λb=>cC b (λc=>J c) λd=>J (-1:M)
def CK:aZ→Zp:=λs=>ah (J ((0,[],0),0)) λu=>ak (ry s [62] 1) λc=>ah (decide (af (aV 1 c s)>0)&&aN (bL (aV 1 c s) (aR (af (aV 1 c s)-1)) 0)==47) λi=>ah (aV 1 c s) λa=>ah (ag i (aV 0 (aR (af a-1)) a) a) λd=>ah (af a) λb=>ah (ag i 4 2) λe=>ah (aV 1 b a) λf=>ah (aR (b-1)) λg=>aB (c<0) u (bJ (0≤(1:M)∧1≤c∧c≤af s) (ak (lO a [47]) λh=>ah (ag (ag h 3 e !=3) (ak (CJ (ag h f d)) λk=>ag (!k) u (J ((ag h 3 e,ag h f d,0),aq c))) (J ((ag h 3 e,ag h f d,0),aq c))) λj=>al (ag h (decide (0≤(1:M)∧1≤b∧b≤b)) ((!decide (b>0)||decide (0≤g)&&cu g a)&&(!i||decide (0≤(0:M)∧0≤g∧g≤b)))) (ag (ag h 3 e==3) (ak (qk (ag h f d)) λl=>ag (!l) u j) j)))
def mR:M→Q iH:=λb=>J (1,lE [b],0)
def tT:aZ→M→alu:=λs b=>ah (bL [[38,108,116,59,60],[38,103,116,59,62],[38,97,109,112,59,38],[38,108,98,59,123],[38,114,98,59,125]] b []) λu=>ah (aR (af u-1)) λa=>aB (b<5) (bJ (0≤b∧b<5) (bJ (0≤(0:M)∧0≤a∧a≤af u) (ak (lO s (aV 0 a u)) λc=>ag c (gC a u (ak (mR (ej (bL u a 0))) λd=>au (.inl (a,d)))) (ay (aq b))))) (au (.inr ()))
def IY:aZ→Zp:=λs=>ah (J ((0,[],0),0)) λu=>ah (s.getD (nat_lit 0) 0) λa=>ah (bw (nat_lit 0) s.length) λb=>al (W&&b) (ag (aN a==60) (ak (CK s) λc=>ag (c.2==0) u (ak (o7 c.1.2.1) λe=>ak (zw e) λf=>ag f u (J c))) (ag (aN a==38) (aM (tT s) 0 λg=>cC g (λd=>J (d.2,d.1)) λj=>u) (ag (aN a==123) (ak (zx s) λh=>J h) (al b (ak (mR (ej a)) λi=>J (i,1))))))
def CL:aZ→M→alu:=λs a=>ah (bL [[110,10],[116,9],[115,32],[114,13],[92,92],[123,123]] a []) λu=>aB (a<6) (bJ (0≤a∧a<6) (al (W&&(bw aY s.length&&(W&&bw (nat_lit 0) u.length))) (ag (aN (s.getD aY 0)==aN (u.getD (nat_lit 0) 0)) (al (bw aY u.length) (ak (mR (ej (u.getD aY 0))) λb=>au (.inl (2,b)))) (ay (aq a))))) (au (.inr ()))
def IZ:aZ→M→jm:=λs a=>al (!decide (a<af s)||decide (0≤a)&&(cu a s&&(aN (bL s a 0)==32||decide (0≤a)&&cu a s))) (ag (decide (a<af s)&&(aN (bL s a 0)==32||aN (bL s a 0)==9)) (ay (aq a)) (au a))
def tU:aZ→Zp:=λs=>ah (J ((0,[],0),0)) λu=>ah (s.getD (nat_lit 0) 0) λa=>ah (bw (nat_lit 0) s.length) λb=>al (W&&b) (ag (aN a==10) u (ag (aN a==123) (ak (zx s) λd=>J d) (ag (aN a==92) (aB (af s<2) u (aM (CL s) 0 λe=>cC e (λc=>J (c.2,c.1)) λh=>al (W&&bw aY s.length) (ag (aN (s.getD aY 0) !=10) u (aM (IZ s) 2 λf=>J ((0,[],0),f))))) (al b (ak (mR (ej a)) λg=>J (g,1))))))
def I0:aZ→Zp:=λs=>al (W&&bw (nat_lit 0) s.length) (ag (aN (s.getD (nat_lit 0) 0)==34) (ak (lO s [34,34]) λa=>ag a (ak (mR 34) λb=>J (b,2)) (J ((0,[],0),0))) (ag (aN (s.getD (nat_lit 0) 0)==123) (ak (lO s [123,123]) λc=>ag c (ak (mR 123) λd=>J (d,2)) (ak (zx s) λe=>J e)) (al (bw (nat_lit 0) s.length) (ak (mR (ej (s.getD (nat_lit 0) 0))) λf=>J (f,1)))))
def ql:M→aZ→Zp:=λa s=>ag (a==1) (ak (IY s) λb=>J b) (ag (a==2) (ak (tU s) λc=>J c) (ak (I0 s) λd=>J d))
def nT:M→aZ→Ph→ak8:=λo raw c=>ah (aj c.2.1) λu=>ah (eQ (aV 0 (aR (af u-1))) c.2.1) λp=>ah (au (.inl (O,O,c.2.2.2.1,3))) λt=>ah (au (.inl (O,O,c.2.2.2.1,7))) λy=>ah (decide (0+(aj c.2.2.1).length=(aj c.2.2.1).length)&&(decide ((aj c.2.2.1).length+aY≤nat_lit 68719476736)&&c.2.2.1.isSome==c.2.2.1.isSome)) λz=>ah (decide (0+u.length=u.length)&&(decide (u.length+aY≤nat_lit 68719476736)&&c.2.1.isSome==c.2.1.isSome)) λA=>ah (aj p).length λv=>ah (aR (af u-1)) λf=>ah c.2.2.2 λd=>ah (decide (af (aj c.2.2.1)≥1024)) λw=>ah (u.getD (0+f.toNat) (0,[],0)).2 λk=>ah (J (aj c.2.2.1++[d.2.1])) λl=>ah p.isSome λm=>ah (af raw) λg=>ah (bw (0+f.toNat) u.length) λq=>ah (af u) λr=>ah d.2.2 λh=>ah c.2.1 λi=>aB (d.1<g) (bJ (0≤d.1∧d.1≤g∧g≤g) (ak (ql o (aV d.1 g raw)) λx=>ah x.1.1 λa=>ah (aR (d.1+x.2)) λb=>ah x.1.2.1 λj=>ah ((!a==2||A)&&z) λs=>ah (a==2) λe=>ag (x.2==0) (au (.inl (O,O,d.1,2))) (ag (a==0) (ay (c.1,i,c.2.2.1,b,d.2)) (ag (ag e e (a==4)) (ak (kc c.1 (J [(a,j,aq h)])) λB=>ah (af (aj B)) λn=>ag (decide (n>512)||w) t (al s (ay (B,ag e (J (u++[(a,j,aq h)])) i,l,b,b,aq h)))) (ag (a==3) (aB (f<0) y (bY f u (al q (ak (o7 k.1) λE=>ag (!decide (E=j)) y (al (decide (0≤f∧f<r)&&q&&(decide (0≤(0:M)∧0≤f∧f≤r)&&m==i.isSome)) (ak (kc c.1 (J [(a,j,k.2)])) λC=>ah (af (aj C)) λu=>ag (decide (u>512)||w) t (al ((!e||decide (0+v=v)&&(decide (v+aY≤nat_lit 68719476736)&&m==m))&&z) (ay (C,ag e (J (aj p++[(a,j,k.2)])) p,l,b,b,h))))))))) (ak (kc c.1 (J [x.1])) λD=>ah (af (aj D)) λn=>ag (decide (n>512)||w) t (al s (ay (D,ag e (J (u++[x.1])) i,l,b,b,h))))))))) (au (.inr (c.1,i,c.2.2.1,d.2.1)))
def hO:M→aZ→Q ak5:=λa raw=>aM (nT a raw) (O,O,O,0,0,0) λc=>cC c (λd=>J d) λb=>aB (af (aj b.2.1)>0) (J (O,O,eP raw.length,7)) (al (decide (0+(aj b.2.2.1).length=(aj b.2.2.1).length)&&(decide ((aj b.2.2.1).length+aY≤nat_lit 68719476736)&&b.2.2.1.isSome==b.2.2.1.isSome)) (J (b.1,J (aj b.2.2.1++[b.2.2.2]),0,0)))
def rz:M→Zi:=λn=>J (n==1||(n==2||n==3))
def lc:fa→M→Q ip:=λd part=>ak (rz d.1) λb=>ag (!b) (J (O,1)) (al (decide (part<0)||(decide (part≥af (aj d.2))||decide (0≤part∧part<af (aj d.2)))) (ag (decide (part<0)||(decide (part≥af (aj d.2))|| !(aF d.2 part (I,[],[])).1)) (J (O,6)) (bY part (aj d.2) (ak (hO d.1 (aF d.2 part (I,[],[])).2.2) λa=>J (a.1,a.2.2.2)))))
def alx:fa→eL→zm:=λd a=>aB (a.2<af (aj d.2)) (al (decide (0≤a.2∧a.2<af (aj d.2))&&(!(aF d.2 a.2 (I,[],[])).1||decide (0+(aj a.1).length=(aj a.1).length)&&(decide ((aj a.1).length+aY≤nat_lit 68719476736)&&a.1.isSome==a.1.isSome))) (ay (ag (aF d.2 a.2 (I,[],[])).1 (J (aj a.1++[a.2])) a.1,aq a.2))) (au a.1)
def CM:fa→rx:=λd=>aM (alx d) (O,0) λa=>al (a.isSome==a.isSome) (al (a.isSome==a.isSome) (J a))
def CN:fa→cV→alw:=λd a=>aB (a.2<af (aj d.2)) (al (decide (0≤a.2∧a.2<af (aj d.2))&&cr (a.1.length+(aF d.2 a.2 (I,[],[])).2.2.length)) (ay (a.1++(aF d.2 a.2 (I,[],[])).2.2,aq a.2))) (au a.1)
def wV:fa→zo:=λd=>aM (CN d) ([],0) λa=>J a
def I1:M×aZ→Q (M×aZ⊕aZ):=λb=>ah (lE [IntKind.u8.wrap (aR (48+b.1.tmod 10))]++b.2) λu=>ah (aR (b.1.tdiv 10)) λa=>al (W&&cr (aY+b.2.length)) (ag (a==0) (au u) (ay (a,u)))
def CO:M→zo:=λn=>aM I1 (n,[]) λa=>J a
def wW:M→zo:=λn=>ag (decide (n<0)&&decide (n>(-4611686018427387904:M))) (ak (CO (aR (0-n))) λa=>fW (aY+a.length) (J (45::a))) (ak (CO (mI n 0)) λb=>J b)
def rA:wI→Q (i7×aZ×bu×M):=λb=>al (decide (0≤b.2.2∧b.2.2≤af b.1∧af b.1≤af b.1)&&(decide (0+(aj b.2.1).length=(aj b.2.1).length)&&(decide ((aj b.2.1).length+aY≤nat_lit 68719476736)&&b.2.1.isSome==b.2.1.isSome))) (J (J (aj b.2.1++[(I,[],aV b.2.2 (af b.1) b.1)]),b.1,(),b.2.2))
def rB:aZ→M→M→wI→Q wI:=λkey a to b=>al (decide (0≤b.2.2∧b.2.2≤a∧a≤af b.1)&&(decide (0≤a∧a≤to∧to≤af b.1)&&(decide (0+(aj b.2.1).length=(aj b.2.1).length)&&(decide ((aj b.2.1).length+gP≤nat_lit 68719476736)&&b.2.1.isSome==b.2.1.isSome)))) (J (b.1,J (aj b.2.1++[(I,[],aV b.2.2 a b.1),(W,key,aV a to b.1)]),to))
def wX:aZ→M×Iz→Q (M×Iz⊕tM⊕wI):=λdata a=>ah (bJ (0≤a.1∧a.1≤af data∧af data≤af data) (ak (CK (aV a.1 (af data) data)) λb=>ak (o7 b.1.2.1) λd=>ag (b.2==0) (au (.inl (O,a.1,2))) (ak (zw d) λg=>ag (g&&b.1.1 !=2) (au (.inl (O,a.1,2))) (ak (zw d) λh=>ag (!h) (ay (aR (a.1+b.2),a.2)) (fW (gP+d.length) (fW (([60,47]++d).length+aY) (ak (ry data ([60,47]++d++[62]) (aR (a.1+b.2))) λc=>bJ (0≤aR (a.1+b.2)∧aR (a.1+b.2)≤af data∧af data≤af data) (al (!decide (c≥0)||decide (0≤aR (a.1+b.2)∧aR (a.1+b.2)≤c∧c≤af data)) (ak (hO 1 (aB (c≥0) (aV (aR (a.1+b.2)) c data) (aV (aR (a.1+b.2)) (af data) data))) λf=>ag (f.2.2.2 !=0) (au (.inl (O,aR (aR (a.1+b.2)+f.2.2.1),f.2.2.2))) (aB (c<0) (au (.inl (O,af data,2))) (ak (wW (aq a.2.1)) λi=>ak (rB i (aR (a.1+b.2)) c a.2.2) λj=>ay (aR (aR (c+af d)+3),aq a.2.1,j)))))))))))) λu=>ah (af data) λe=>aB (a.1<e) (al (decide (0≤a.1)&&cu a.1 data) (ag (aN (bL data a.1 0) !=60) (ay (aq a.1,a.2)) (bJ (0≤a.1∧a.1≤e∧e≤e) (ak (lO (aV a.1 e data) [60,33,45,45]) λl=>ag l (ak (ry data [45,45,62] (aR (a.1+4))) λk=>aB (k≥0) (ay (aR (k+3),a.2)) u) u)))) (au (.inr a.2.2))
def zy:aZ→tN:=λdata=>aM (wX data) (0,0,data,O,0) λa=>cC a (λb=>J b) λc=>ak (rA c) λd=>J (d.1,0,0)
def CP:i7→aZ→M→ja:=λl key b=>ah (aj l) λu=>ah (u.getD (0+b.toNat) (I,[],[])) λa=>ah (decide (0≤b∧b<af u)) λc=>ah (bw (0+b.toNat) u.length) λd=>aB (b<af u) (al (c&&(d&&(!a.1||c&&d))) (ag (a.1&&decide (a.2.1=key)) (au (.inl W)) (ay (aq b)))) (au (.inr ()))
def I2:i7→aZ→Zi:=λl key=>aM (CP l key) 0 λa=>cC a (λb=>J b) λc=>J I
def I3:M→Zi:=λc=>ah (aB (c≥48) (decide (c≤57)||(c==46||(c==95||c==45))) (c==46||(c==95||c==45))) λu=>J (aB (c≥97) (decide (c≤122)||u) u)
def wY:aZ→ao→M→jm:=λdata pairs a=>al (!decide (a<af data)||decide (0≤a)&&cu a data) (ag (decide (a<af data)&&aN (bL data a 0) !=10) (al (!pairs||decide (0≤a)&&cu a data) (ay (aq (ag (pairs&&aN (bL data a 0)==92) (aq a) a)))) (au a))
def rC:aZ→M→ao→fc:=λdata at' pairs=>aM (wY data pairs) at' λa=>J (gN a (af data))
def wZ:aZ→M→jm:=λb a=>al (!decide (a<af b)||decide (0≤a)&&(cu a b&&(aN (bL b a 0)==32||decide (0≤a)&&cu a b))) (ag (decide (a<af b)&&(aN (bL b a 0)==32||aN (bL b a 0)==9)) (ay (aq a)) (au a))
def CQ:aZ→Iz→M→jm:=λb c a=>aB (a<af b) (aB (a<aR (c.1+64)) (gC a b (ak (I3 (ej (bL b a 0))) λd=>ag d (ay (aq a)) (au a))) (au a)) (au a)
def CR:aZ→Iz→Q (Iz⊕tM⊕wI):=λa b=>aB (b.1<af a) (aM (wZ a) b.1 λd=>al (decide (d≥af a)||decide (0≤d)&&(cu d a&&(aN (bL a d 0)==10||decide (0≤d)&&cu d a))) (ag (decide (d≥af a)||(aN (bL a d 0)==10||aN (bL a d 0)==35)) (ak (rC a d I) λg=>ay (aq g,b.2)) (aM (CQ a b) b.1 λc=>al (c==b.1||(decide (c≥af a)||decide (0≤c)&&cu c a)) (ag (c==b.1||(decide (c≥af a)||aN (bL a c 0) !=61)) (au (.inl (O,b.1,2))) (bJ (0≤b.1∧b.1≤c∧c≤af a) (al (b.2.2.1.isSome==b.2.2.1.isSome) (ak (I2 b.2.2.1 (aV b.1 c a)) λh=>ag h (au (.inl (O,b.1,5))) (ak (rC a (aq c) W) λe=>bJ (0≤aq c∧aq c≤e∧e≤af a) (ak (hO 2 (aV (aq c) e a)) λf=>ag (f.2.2.2 !=0) (au (.inl (O,aR (aq c+f.2.2.1),f.2.2.2))) (ak (rB (aV b.1 c a) (aq c) e b.2) λi=>ay (aq e,i))))))))))) (au (.inr b.2))
def zA:aZ→tN:=λa=>aM (CR a) (0,a,O,0) λb=>cC b (λc=>J c) λd=>ak (rA d) λe=>J (e.1,0,0)
def I4:aZ→M→jm:=λdata a=>al (!decide (a<af data)||decide (0≤a)&&(cu a data&&(aN (bL data a 0) !=34||(!decide (aq a<af data)||decide (0≤aq a)&&cu (aq a) data)))) (ag (decide (a<af data)&&(aN (bL data a 0) !=34||decide (aq a<af data)&&aN (bL data (aq a) 0)==34)) (al (decide (0≤a)&&cu a data) (ay (aq (ag (aN (bL data a 0)==34) (aq a) a)))) (au a))
def I5:aZ→M→jm:=λdata c=>ah (aN (bL data c 0)) λu=>ah (decide (0≤c)) λa=>ah (u !=44) λd=>ah (u !=34) λe=>ah (decide (c<af data)) λf=>ah (cu c data) λb=>al (!f||a&&(b&&(!e||a&&(b&&(!d||a&&b))))) (ag (f&&(e&&(d&&u !=10))) (ay (aq c)) (au c))
def I6:aZ→M→abL:=λdata at'=>ah (decide (at'<af data)&&aN (bL data at' 0)==34) λu=>ah (af data) λb=>al (!decide (at'<b)||decide (0≤at')&&cu at' data) (ag u (aM (I4 data) (aq at') λg=>ah (aN (bL data (aq g) 0)) λd=>ah (aq g) λa=>ah (decide (0≤a)) λc=>ah (d==44) λf=>aB (g≥b) (J (0,W,I)) (al (a==b||c&&(cu a data&&(f||c&&cu a data))) (J (ag (a==b) a (ag f a a),ag (a==b) u (ag f u u),a==b||(f||d==10))))) (aM (I5 data) at' λe=>ah (aN (bL data e 0)) λd=>ah (decide (0≤e)) λa=>ah (d==44) λc=>al (e==b||a&&(cu e data&&(c||a&&cu e data))) (J (ag (e==b) e (ag c e e),ag (e==b) u (ag c u u),e==b||(c||d==10)))))
def CS:aZ→zl→zl→Q (zl⊕tM⊕zl):=λm t g=>ah [116,101,120,116] λu=>ah t.2.2.2.1 λk=>ah g.2.2 λa=>ah (aq g.1) λf=>ah (af m) λl=>ah O λn=>ah a.2.1 λo=>ah (decide (k>0)) λp=>ah (k==0) λq=>ah g.2.1 λr=>ah (aq a.1) λc=>ak (I6 m g.1) λd=>ah (q&&decide (aV g.1 d.1 m=u)) λu=>ah (decide (d.1≥l)) λh=>ah (aR (d.1-1)) λe=>ah (ag u a.1 r) λb=>ah (h||decide (0≤d.1)&&cu d.1 m) λi=>ah (ag u (aq o) o) λu=>ah (h||aN (bL m d.1 0)==10) λj=>ag (!d.2.2||p&&(decide (a.1≥t.2.1)||a.1==r&& !d.2.1)) (au (.inl (n,g.1,2))) (al (!q||decide (0≤g.1∧g.1≤d.1∧d.1≤l)) (ag (p&&a.1==b) (bJ (0≤f∧f≤e∧e≤l) (ak (hO 3 (aV f e m)) λs=>ag (s.2.2.2 !=0) (au (.inl (n,aR (f+s.2.2.1),s.2.2.2))) (ak (wW k) λw=>ak (rB w f e a.2.2) λv=>al i (ag j (au (.inr (d.1,b,c,u,v))) (ay (aq d.1,b,c,u,v)))))) (al i (ag j (au (.inr (d.1,b,c,u,a.2.2))) (ay (aq d.1,b,c,u,a.2.2))))))
def CT:aZ→zl→Q (zl⊕tM⊕wI):=λg c=>ah (au (.inl (O,c.1,2))) λu=>ah O λd=>ah c.2.2.2 λb=>ag (b.1==0||decide (c.1<af g)) (aM (CS g c) (c.1,c.2.2.1,0,0,b.2) λh=>cC h (λi=>au (.inl i)) λf=>ah f.2.2 λa=>ah (f.2.1,aq b.1,a.2.2) λe=>ag (b.1==0) (ag (a.2.1==0) (au (.inl (d,0,6))) (aB (a.2.1>1) (au (.inl (d,0,5))) (aB (a.1<a.1) u (ay (aq f.1,a.1,e))))) (aB (a.1<c.2.1) u (ay (aq f.1,c.2.1,e)))) (au (.inr b.2))
def zB:aZ→tN:=λa=>aM (CT a) (0,0,(-1:M),0,a,O,0) λb=>cC b (λc=>J c) λd=>ak (rA d) λe=>J (e.1,0,0)
def I7:M→aZ→tN:=λa data=>aB (af data>65536) (J (O,0,3)) (ag (a==1) (ak (zy data) λb=>J b) (ag (a==2) (ak (zA data) λc=>J c) (ak (zB data) λd=>J d)))
def o8:M→aZ→Q (fa×dz):=λa data=>ak (rz a) λc=>ag (!c) (J ((0,O),0,1)) (ak (I7 a data) λb=>ag (b.2.2 !=0) (J ((0,O),b.2)) (J ((a,b.1),0,0)))
def Pr:i7→i7→M→ja:=λa b c=>aB (c<af (aj a)) (al (decide (0≤c∧c<af (aj a))&&decide (0≤c∧c<af (aj b))) (ag (!((aF a c (I,[],[])).1==(aF b c (I,[],[])).1&&(decide ((aF a c (I,[],[])).2.1=(aF b c (I,[],[])).2.1)&&(decide ((aF a c (I,[],[])).2.2=(aF b c (I,[],[])).2.2)&&W)))) (au (.inl I)) (ay (aq c)))) (au (.inr ()))
def I8:i7→i7→Zi:=λa b=>ag (af (aj a) !=af (aj b)) (J I) (aM (Pr a b) 0 λc=>cC c (λd=>J d) λe=>J W)
def Ps:fa→fa→Zi:=λa b=>ag (a.1==b.1) (ak (I8 a.2 b.2) λc=>J c) (J I)
def rD:fa→fc:=λd=>ak (rz d.1) λb=>ag (!b) (J 1) (ak (wV d) λc=>ak (o8 d.1 c) λa=>ag (a.2.2 !=0) (J 11) (ak (Ps a.1 d) λe=>ag (!e) (J 11) (J 0)))
def I9:qi→M→Q (M⊕Iy⊕bu):=λdocs a=>bq a (aj docs) (ak (rD (aF docs a (0,O))) λb=>ag (b !=0) (au (.inl (b,O,O,0))) (ay (aq a))) (au (.inr ()))
def Ja:ak4→cJ→ak4→jZ→ak4→IB:=λc d e b a=>aB (a.1<af (aj b)) (al (decide (0≤a.1∧a.1<af (aj b))&&(decide (0+(aj a.2.2.1).length=(aj a.2.2.1).length)&&(decide ((aj a.2.2.1).length+aY≤nat_lit 68719476736)&&a.2.2.1.isSome==a.2.2.1.isSome))) (ay (aq a.1,a.2.1,J (aj a.2.2.1++[(a.2.2.2,c.1,aF d e.1 0,aF b a.1 (0,0),0,O,[],0,I)]),aq a.2.2.2))) (au a.2)
def Jb:qi→rr→ak4→cJ→ak4→IB:=λdocs a d c b=>bq b.1 (aj c) (ak (lc (aF docs d.1 (0,O)) (aF c b.1 0)) λe=>ak (IX a e.1) λf=>aM (Ja d c b f) (0,b.2) λg=>ay (aq b.1,g)) (au b.2)
def Pt:qi→rr→ak4→IB:=λdocs a b=>bq b.1 (aj docs) (ak (CM (aF docs b.1 (0,O))) λc=>aM (Jb docs a b c) (0,b.2) λd=>ay (aq b.1,d)) (au b.2)
def zC:qi→rr→wK:=λdocs a=>aB (af (aj docs)>16) (J ((O,O,0),3)) (aM (I9 docs) 0 λd=>cC d (λc=>al (c.2.1.isSome==c.2.1.isSome) (al (c.2.2.1.isSome==c.2.2.1.isSome) (J (c.2,c.1)))) λe=>al (W&&decide (nat_lit 0+(aj docs).length≤nat_lit 68719476736)) (aM (Pt docs a) (0,[]++aj docs,O,1) λb=>aB (af (aj b.2.1)>512) (J ((O,O,0),3)) (al (b.2.1.isSome==b.2.1.isSome) (al (b.2.1.isSome==b.2.1.isSome) (J ((J b.1,b.2),0))))))
def Pu:eg→M→M→qj:=λp id a=>bq a (aj p.2.1) (ag ((aF p.2.1 a (0,0,0,(0,0),0,O,[],0,I)).1==id) (au (.inl a)) (ay (aq a))) (au (.inr ()))
def w6:eg→M→fc:=λp id=>aM (Pu p id) 0 λa=>cC a (λb=>J b) λc=>J (-1:M)
def tV:eg→M→ka:=λp i=>ah (aF p.2.1 i (0,0,0,(0,0),0,O,[],0,I)).2 λu=>bY i (aj p.2.1) (bY u.1 (aj p.1) (ak (lc (aF p.1 u.1 (0,O)) u.2.1) λa=>ak (kZ a.1 u.2.2.1.1 u.2.2.1.2) λb=>J b.1))
def Pv:eg→M→jA→Q eg:=λp i s=>al (W&&decide (nat_lit 0+(aj p.2.1).length≤nat_lit 68719476736)) (al (decide (0≤i∧i<af ([]++aj p.2.1))&&bw (0+i.toNat) ([]++aj p.2.1).length) (al (W&&decide (nat_lit 0+(aj p.1).length≤nat_lit 68719476736)) (J (J ([]++aj p.1),J (([]++aj p.2.1).set (0+i.toNat) s),p.2.2))))
def Jc:jA→Zi:=λs=>ah s.2.2.2.2.2.2 λu=>ah (decide (u.1=[])) λc=>ah (c&&decide (u.2.1≥1)) λd=>ah s.2.2.2.2 λa=>ah (u.2.1==0) λb=>ag (a.1==0) (J (af (aj a.2.1)==0&&(c&&b))) (ag (a.1==1) (J (c&&b)) (ag (a.1==2) (ak (qk u.1) λe=>J (e&&b)) (ag (a.1==3) (ak (qk u.1) λf=>J (ag f (b||d) d)) (J I))))
def Zu:cJ→cJ→M→ja:=λa b c=>aB (c<af (aj a)) (al (decide (0≤c∧c<af (aj a))&&decide (0≤c∧c<af (aj b))) (ag (aF a c 0 !=aF b c 0) (au (.inl I)) (ay (aq c)))) (au (.inr ()))
def zD:cJ→cJ→Zi:=λa b=>ag (af (aj a) !=af (aj b)) (J I) (aM (Zu a b) 0 λc=>cC c (λd=>J d) λe=>J W)
def aly:jY→jY→M→ja:=λa b c=>aB (c<af (aj a)) (al (decide (0≤c∧c<af (aj a))&&decide (0≤c∧c<af (aj b))) (ag (!decide (aF a c []=aF b c [])) (au (.inl I)) (ay (aq c)))) (au (.inr ()))
def Jd:jY→jY→Zi:=λa b=>ag (af (aj a) !=af (aj b)) (J I) (aM (aly a b) 0 λc=>cC c (λd=>J d) λe=>J W)
def Pw:bp→cJ×eL→Zj:=λf a=>ah (aj a.2.1) λu=>ah (decide (0≤a.2.2∧a.2.2<af (aj f))) λh=>ah (aF f a.2.2 (0,[],0)) λc=>ah (aR (af u-1)) λb=>ah (aj a.1).length λi=>ah u.length λd=>ah (eQ (aV 0 b) a.2.1) λl=>ah a.2.1.isSome λj=>ah (af u) λk=>ah (aq a.2.2) λe=>ah a.1.isSome λg=>bq a.2.2 (aj f) (ag (c.1==2) (al (h&&(decide (0+d=d)&&(decide (d+aY≤nat_lit 68719476736)&&j==j))) (ay (a.1,J (u++[c.2.2]),e))) (ag (c.1==3) (ag (k==0) (al (h&&(decide (0+i=i)&&(decide (i+aY≤nat_lit 68719476736)&&g==g))) (ay (J (aj a.1++[c.2.2]),a.2.1,e))) (al (decide (0≤b∧b<k)&&(bw (0+b.toNat) d&&h)) (ag (u.getD (0+b.toNat) 0==c.2.2) (al (decide (0≤(0:M)∧0≤b∧b≤k)&&l.isSome==j) (ay (a.1,l,e))) (au (.inl (O,O,I)))))) (ay (a.1,a.2.1,e)))) (au (.inr (a.1,a.2.1)))
def CU:bp→Zk:=λf=>aM (Pw f) (O,O,0) λb=>cC b (λc=>J c) λa=>al (a.1.isSome==a.1.isSome&&a.2.isSome==a.2.isSome) (al (a.1.isSome==a.1.isSome) (al (a.2.isSome==a.2.isSome) (J (a.1,a.2,W))))
def CV:jY→aZ→M→jm:=λl s a=>al (!decide (a<af (aj l))||decide (0≤a∧a<af (aj l))) (ag (decide (a<af (aj l))&&(Op.bytesLess (aF l a []) s||decide (aF l a []=s))) (ay (aq a)) (au a))
def Je:jY→aZ→Q jY:=λl s=>ah (af (aj l)) λu=>ah [s] λe=>aM (CV l s) 0 λa=>ah (dj (aj (eQ (aV 0 a) l))) λf=>ah (aj f) λb=>ah (aj (eQ (aV a u) l)) λg=>ah (aj (eQ (aV 0 a) l)).length λi=>ah (b++e).length λc=>ah b.length λd=>ah f.isSome λh=>al (decide (0≤(0:M)∧0≤a∧a≤u)&&(decide (i≤nat_lit 68719476736)&&(decide (0+d=d)&&(decide (d+aY≤nat_lit 68719476736)&&h==h)))) (al (decide (0≤a∧a≤u∧u≤u)&&(decide (0+c=c)&&decide (c+g.length≤nat_lit 68719476736))) (J (J (b++e++g))))
def CW:bp→jY×M→Q (jY×M⊕jY):=λf a=>bq a.2 (aj f) (ag ((aF f a.2 (0,[],0)).1==5) (bY a.2 (aj f) (ak (Je a.1 (aF f a.2 (0,[],0)).2.1) λb=>ay (b,aq a.2))) (ay (a.1,aq a.2))) (au a.1)
def CX:bp→Q jY:=λf=>aM (CW f) (O,0) λa=>J a
def nU:iH→Zi:=λx=>J (x.1==2||(x.1==3||x.1==4))
def CY:bp→ip→wJ:=λf a=>bq a.2 (aj f) (ak (nU (aF f a.2 (0,[],0))) λb=>al (!b||decide (0≤a.2∧a.2<af (aj f))&&(decide (0+(aj a.1).length=(aj a.1).length)&&(decide ((aj a.1).length+aY≤nat_lit 68719476736)&&a.1.isSome==a.1.isSome))) (ay (ag b (J (aj a.1++[aF f a.2 (0,[],0)])) a.1,aq a.2))) (au a.1)
def CZ:bp→ka:=λf=>aM (CY f) (O,0) λa=>al (a.isSome==a.isSome) (al (a.isSome==a.isSome) (J a))
def C0:bp→iH→dz→tL:=λf x a=>bq a.2 (aj f) (ay (ag ((aF f a.2 (0,[],0)).1==x.1&&(decide ((aF f a.2 (0,[],0)).2.1=x.2.1)&&((aF f a.2 (0,[],0)).2.2==x.2.2&&W))) (aq a.1) a.1,aq a.2)) (au a.1)
def C2:bp→iH→fc:=λf x=>aM (C0 f x) (0,0) λa=>J a
def C4:bp→bp→M→ja:=λa c b=>bq b (aj a) (ak (C2 a (aF a b (0,[],0))) λd=>bY b (aj a) (ak (C2 c (aF a b (0,[],0))) λe=>ag (d !=e) (au (.inl I)) (ay (aq b)))) (au (.inr ()))
def w7:bp→bp→Zi:=λsource target=>ak (CU source) λa=>ak (CU target) λb=>ag (!a.2.2) (J I) (ag (!b.2.2) (J I) (ak (zD a.1 b.1) λg=>ag (!g) (J I) (ak (zD a.2.1 b.2.1) λh=>ag (!h) (J I) (ak (CX source) λi=>ak (CX target) λj=>ak (Jd i j) λk=>ag (!k) (J I) (ak (CZ source) λe=>ak (CZ target) λf=>ag (af (aj e) !=af (aj f)) (J I) (aM (C4 e f) 0 λc=>cC c (λd=>J d) λl=>J W))))))
def w8:bp→iH→M→qj:=λa x d=>ah (aF a d (0,[],0)) λu=>ah (au (.inl 7)) λb=>ah (ay (aq d)) λc=>bq d (aj a) (ak (nU u) λe=>ag (!e||u.2.2 !=x.2.2) c (ag (x.1 !=3) b (ag (u.1 !=2) b (ak (o7 u.2.1) λf=>ag (!decide (f=x.2.1)) b c)))) (au (.inr ()))
def Zv:bp→iH→M→qj:=λa x d=>ah (aF a d (0,[],0)) λu=>ah (au (.inl 7)) λb=>ah (ay (aq d)) λc=>bq d (aj a) (ak (nU u) λe=>ag (!e||u.2.2 !=x.2.2) c (ag (x.1 !=3) b (ag (u.1 !=2) b (ak (o7 u.2.1) λf=>ag (!decide (f=x.2.1)) b c)))) (au (.inr ()))
def Jf:bp→iH→fc:=λa x=>ah (af (aj a)) λu=>ah (decide (x.2.2<1)||decide (x.2.2>999)) λd=>ah (x.2.2 !=0) λb=>ah (decide (x.2.1=[])) λe=>ah (aR (u-1)) λc=>ah (decide (u>0)) λf=>ag (x.1==1) (al (e||(b||(!f||decide (0≤c∧c<u)))) (ag (e||(b||f&&(aF a c (0,[],0)).1==1)) (J 1) (J 0))) (ag (x.1==5) (ak (qk x.2.1) λg=>ag (!g||b) (J 1) (J 0)) (ag (ag (x.1==2) (x.1==2) (x.1==4)) (ak (CJ x.2.1) λh=>ag (!h||d) (J 1) (aM (w8 a x) 0 λi=>cC i (λj=>J j) λn=>J 0)) (ag (x.1==3) (ak (qk x.2.1) λk=>ag (!k||d) (J 1) (aM (Zv a x) 0 λl=>cC l (λm=>J m) λo=>J 0)) (J 1))))
def Jg:bp→M→qj:=λf a=>aB (a<af (aj f)) (bJ (0≤(0:M)∧0≤a∧a≤af (aj f)) (bY a (aj f) (ak (Jf (eQ (aV 0 a) f) (aF f a (0,[],0))) λb=>ag (b !=0) (au (.inl b)) (ay (aq a))))) (au (.inr ()))
def zE:bp→fc:=λf=>aB (af (aj f)>512) (J 3) (ak (lN f) λa=>aB (a>1024) (J 3) (aM (Jg f) 0 λb=>cC b (λc=>J c) λd=>J 0))
def zG:cJ→M→M→ja:=λl n a=>aB (a<af (aj l)) (al (decide (0≤a∧a<af (aj l))&&bw (0+a.toNat) (aj l).length) (ag ((aj l).getD (0+a.toNat) 0==n) (au (.inl W)) (ay (aq a)))) (au (.inr ()))
def Jh:cJ→M→Zi:=λl n=>aM (zG l n) 0 λa=>cC a (λb=>J b) λc=>J I
def C5:bp→eL→zm:=λf a=>ah (aj f) λu=>ah (aF f a.2 (0,[],0)) λc=>ah (aj a.1).length λd=>ah a.1.isSome λb=>bq a.2 u (ak (nU c) λg=>ag g (bY a.2 u (al (b==b) (ak (Jh a.1 c.2.2) λe=>al (!!e||decide (0≤a.2∧a.2<af u)&&(decide (0+d=d)&&(decide (d+aY≤nat_lit 68719476736)&&b==b))) (ay (ag (!e) (J (aj a.1++[c.2.2])) a.1,aq a.2))))) (ay (a.1,aq a.2))) (au a.1)
def zH:bp→rx:=λf=>aM (C5 f) (O,0) λa=>al (a.isSome==a.isSome) (al (a.isSome==a.isSome) (J a))
def C6:bp→cJ→cJ→ip→M→Q (M⊕L iH):=λf a to b c=>al (decide (c<af (aj a))&&decide (c<af (aj to))) (bY c (aj a) (ag (aF a c 0==(aF f b.2 (0,[],0)).2.2) (al (decide (0≤c∧c<af (aj to))&&(decide (0+(aj b.1).length=(aj b.1).length)&&(decide ((aj b.1).length+aY≤nat_lit 68719476736)&&b.1.isSome==b.1.isSome))) (au (aj b.1++[((aF f b.2 (0,[],0)).1,(aF f b.2 (0,[],0)).2.1,aF to c 0)]))) (ay (aq c))))
def C7:bp→cJ→cJ→ip→wJ:=λf b to a=>bq a.2 (aj f) (ak (nU (aF f a.2 (0,[],0))) λc=>ag (!c) (al (decide (0+(aj a.1).length=(aj a.1).length)&&(decide ((aj a.1).length+aY≤nat_lit 68719476736)&&a.1.isSome==a.1.isSome)) (ay (J (aj a.1++[aF f a.2 (0,[],0)]),aq a.2))) (aM (C6 f b to a) 0 λd=>ay (J d,aq a.2))) (au a.1)
def Ji:bp→cJ→cJ→ka:=λf a to=>aM (C7 f a to) (O,0) λb=>al (b.isSome==b.isSome) (ak (CH b) λc=>J c)
def C8:M→eL→zm:=λn a=>aB (a.2≤n) (al (decide (0+(aj a.1).length=(aj a.1).length)&&(decide ((aj a.1).length+aY≤nat_lit 68719476736)&&a.1.isSome==a.1.isSome)) (ay (J (aj a.1++[a.2]),aq a.2))) (au a.1)
def Da:M→rx:=λn=>aM (C8 n) (O,1) λa=>al (a.isSome==a.isSome) (al (a.isSome==a.isSome) (J a))
def Jj:bp→ka:=λf=>ak (zH f) λa=>ak (Da (eP (aj a).length)) λb=>ak (Ji f a b) λc=>J c
def Px:bp→bp→M→ja:=λa b c=>aB (c<af (aj a)) (al (decide (0≤c∧c<af (aj a))&&decide (0≤c∧c<af (aj b))) (ag (!((aF a c (0,[],0)).1==(aF b c (0,[],0)).1&&(decide ((aF a c (0,[],0)).2.1=(aF b c (0,[],0)).2.1)&&((aF a c (0,[],0)).2.2==(aF b c (0,[],0)).2.2&&W)))) (au (.inl I)) (ay (aq c)))) (au (.inr ()))
def Db:bp→bp→Zi:=λa b=>ag (af (aj a) !=af (aj b)) (J I) (aM (Px a b) 0 λc=>cC c (λd=>J d) λe=>J W)
def zI:M→M→zo:=λa c=>ag (a==1) (ag (c==60) (J [38,108,116,59]) (ag (c==38) (J [38,97,109,112,59]) (ag (c==123) (J [38,108,98,59]) (J [je c.toNat])))) (ag (a==2) (ag (c==10) (J [92,110]) (ag (c==9) (J [92,116]) (ag (c==13) (J [92,114]) (ag (ag (c==92) (c==92) (c==123)) (fW (aY+aY) (J [92,je c.toNat])) (J [je c.toNat]))))) (ag (c==34||c==123) (fW (aY+aY) (J [je c.toNat,je c.toNat])) (J [je c.toNat])))
def Zw:M→bp→cV→cV→alw:=λa f d b=>ah (aF f d.2 (0,[],0)).2.1 λu=>aB (b.2<af u) (gC b.2 u (ak (zI a (ej (bL u b.2 0))) λc=>fW (b.1.length+c.length) (ay (b.1++c,aq b.2)))) (au b.1)
def zJ:M→bp→cV→cV→alw:=λa f d b=>ah (aF f d.2 (0,[],0)).2.1 λu=>aB (b.2<af u) (gC b.2 u (ak (zI a (ej (bL u b.2 0))) λc=>fW (b.1.length+c.length) (ay (b.1++c,aq b.2)))) (au b.1)
def Jk:M→bp→cV→Q (cV⊕cV⊕aZ):=λa f b=>ah (aF f b.2 (0,[],0)) λu=>ah (al (ag (u.1==2) (cr (aY+u.2.1.length)&&(cr (([60]++u.2.1).length+aY)&&cr (b.1.length+([60]++u.2.1++[62]).length))) (ag (u.1==3) (cr (gP+u.2.1.length)&&(cr (([60,47]++u.2.1).length+aY)&&cr (b.1.length+([60,47]++u.2.1++[62]).length))) (ag (u.1==4) (cr (aY+u.2.1.length)&&(cr (([60]++u.2.1).length+gP)&&cr (b.1.length+([60]++u.2.1++[47,62]).length))) (!u.1==5||cr (aY+u.2.1.length)&&(cr (([123]++u.2.1).length+aY)&&cr (b.1.length+([123]++u.2.1++[125]).length)))))) (ay (ag (u.1==2) (b.1++([60]++u.2.1++[62])) (ag (u.1==3) (b.1++([60,47]++u.2.1++[62])) (ag (u.1==4) (b.1++([60]++u.2.1++[47,62])) (ag (u.1==5) (b.1++([123]++u.2.1++[125])) b.1))),aq b.2))) λc=>ah (au (.inl ([],7))) λd=>bq b.2 (aj f) (ak (nU u) λe=>ag e (ag (a !=1) d (ak (o7 u.2.1) λg=>ak (zw g) λh=>ag h d (ag (u.1==1) (aM (Zw a f b) (b.1,0) λi=>ay (i,aq b.2)) c))) (ag (u.1==1) (aM (zJ a f b) (b.1,0) λj=>ay (j,aq b.2)) c)) (au (.inr b.1))
def Dd:M→bp→Pe:=λa f=>ak (zE f) λb=>ag (b !=0) (J ([],b)) (aM (Jk a f) ([],0) λc=>cC c (λd=>J d) λe=>J (e,0))
def De:jZ→ip→dz→Q (dz⊕zq⊕bu):=λc d b=>ah (au (.inl (1,0,O))) λu=>ah (aF c b.2 (0,0)) λa=>bq b.2 (aj c) (aB (a.1<b.1) u (aB (a.2<a.1) u (ak (lN d.1) λe=>aB (a.2>e) u (ay (a.2,aq b.2))))) (au (.inr ()))
def Df:fa→M→jZ→nQ→ip→ak5→M×aZ×M×ip→ak7:=λl o m n p k c=>ah (aF m c.2.2.2.2 (0,0)) λu=>ah (aF l.2 o (I,[],[])).2.2 λf=>ah (aF k.2.1 u.1 0) λd=>ah (aF n c.2.2.2.2 O) λg=>ah c.2.2 λa=>ah (aj n) λh=>ah (aj k.2.1) λi=>ah (aV a.1 d f) λe=>ah a.2.2 λb=>bq b (aj m) (bY b h (ak (Dd l.1 g) λj=>ag (j.2 !=0) (au (.inl (j.2,0,O))) (al (decide (0≤u.1∧u.1<af i)&&(decide (0≤a.1∧a.1≤d∧d≤af f)&&(cr (e.length+j.1.length)&&cr (c.2.1.length+(e++j.1).length)))) (bY u.2 i (ak (kZ p.1 c.1 u.1) λq=>ak (kc a.2.1 q.1) λr=>bY b h (ak (kc r g) λs=>ay (u.2,c.2.1++(e++j.1),aF k.2.1 u.2 0,s,aq b))))))) (au (.inr (c.1,c.2.1,a.1,a.2.1)))
def zK:fa→M→jZ→nQ→IC:=λc d n x=>ah (aF c.2 d (I,[],[])).2.2 λu=>ah (aj (dj (aj c.2))) λe=>ah (0,O) λa=>ah (aj c.2) λf=>ah (dj f).isSome λl=>ah (af u) λb=>ah (e.getD (0+d.toNat) (I,[],[])) λm=>ak (rD c) λy=>ag (y !=0) (J (a,y)) (ak (lc c d) λj=>ag (j.2 !=0) (J (a,j.2)) (bY d f (ak (hO c.1 u) λz=>ag (af (aj n) !=af (aj x)) (J (a,1)) (aM (De n j) (0,0) λA=>cC A (λo=>ah o.2.2.isSome λu=>al (u==u) (J (o.2,o.1))) λC=>aM (Df c d n x j z) (0,[],0,O,0) λB=>cC B (λp=>ah p.2.2.isSome λu=>al (u==u) (J (p.2,p.1))) λk=>ah (k.2.1++aV k.2.2.1 b u) λg=>ah k.2.2.1 λh=>al (decide (0≤h∧h≤b∧b≤b)&&cr (k.2.1.length+(aV h b u).length)) (ak (lN j.1) λq=>ak (kZ j.1 k.1 q) λr=>ak (kc k.2.2.2 r.1) λs=>ak (hO c.1 g) λi=>ag (i.2.2.2 !=0) (J (a,i.2.2.2)) (ak (Jj s) λt=>ak (Db i.1 t) λv=>ag (!v) (J (a,11)) (ak (wV c) λw=>ah (aR (aR (af w-b)+af g)) λu=>aB (u>65536) (J (a,3)) (al (decide (f.length≤nat_lit 68719476736)&&l==l) (al (decide (0≤d∧d<af e)&&bw (0+d.toNat) e.length) (J ((c.1,J (e.set (0+d.toNat) (m.1,m.2.1,g))),0)))))))))))
def zL:fa→bp→jA→fc:=λd source s=>ak (Jc s) λb=>ag (!b) (J 8) (ak (zE s.2.2.2.2.2.1) λa=>ag (a !=0) (J a) (ag (s.2.2.2.2.1 !=3) (J 0) (ak (w7 source s.2.2.2.2.2.1) λc=>ag (!c) (J 7) (ak (zK d s.2.2.1 (J [s.2.2.2.1]) (J [s.2.2.2.2.2.1])) λe=>J e.2))))
def tW:eg→jA→wK:=λp s=>ah (0,0,0,(0,0),0,O,[],0,I) λu=>ah (O,O,0) λa=>ah (aj s.2.2.2.2.2.1) λb=>ah (s.2.2.2.2.1,J ([]++b),s.2.2.2.2.2.2) λf=>ah p.2.1 λc=>ah (nat_lit 0+b.length) λg=>ak (w6 p s.1) λd=>ah (aF c d u) λu=>ah (u.1,u.2.1,u.2.2.1,u.2.2.2.1,f) λe=>aB (d<0) (J (a,6)) (bY d (aj c) (al (W&&decide (g≤nat_lit 68719476736)) (bY u.2.1 (aj p.1) (ak (tV p d) λi=>ak (zL (aF p.1 u.2.1 (0,O)) i e) λh=>ag (h !=0) (J (a,h)) (ak (Pv p d e) λj=>J (j,0))))))
def alz:tK→tK→M→ja:=λa b c=>ah (af (aj a)) λu=>ah (aF a c (0,0,0)) λd=>ah (aF b c (0,0,0)) λe=>ah (af (aj b)) λf=>aB (c<u) (al (decide (0≤c∧c<u)&&decide (0≤c∧c<f)) (ag (!(d.1==e.1&&(d.2.1==e.2.1&&(d.2.2==e.2.2&&W)))) (au (.inl I)) (ay (aq c)))) (au (.inr ()))
def Zx:tK→tK→Zi:=λa b=>ag (af (aj a) !=af (aj b)) (J I) (aM (alz a b) 0 λc=>cC c (λd=>J d) λe=>J W)
def rE:fa→zo:=λd=>if(fi (d.2.getD []).length 4611686018427387903&&fi ((d.2.getD []).flatMap λq=>q.2.2).length 140737488355328)=W then J ((d.2.getD []).flatMap λq=>q.2.2)else O
def w9:M→Zi:=λa=>J (a==1||(a==2||a==3))
def xa:aZ→Q o4:=λdata=>J (data,0,O)
def xb:o4→Q (i7×aZ×M×bu):=λp=>al (decide (0≤p.2.1∧p.2.1≤af p.1∧af p.1≤af p.1)&&(decide (0+(aj p.2.2).length=(aj p.2.2).length)&&(decide ((aj p.2.2).length+aY≤nat_lit 68719476736)&&p.2.2.isSome==p.2.2.isSome))) (J (J (aj p.2.2++[(I,[],aV p.2.1 (af p.1) p.1)]),p.1,p.2.1,()))
def xc:M→M→aZ→o4→Q o4:=λa to key p=>al (decide (0≤p.2.1∧p.2.1≤a∧a≤af p.1)&&(decide (0≤a∧a≤to∧to≤af p.1)&&(decide (0+(aj p.2.2).length=(aj p.2.2).length)&&(decide ((aj p.2.2).length+gP≤nat_lit 68719476736)&&p.2.2.isSome==p.2.2.isSome)))) (J (p.1,to,J (aj p.2.2++[(I,[],aV p.2.1 a p.1),(W,key,aV a to p.1)])))
def Dg:kY→Q kY:=λb=>ah (aj b.1).length λu=>ah (af (aj b.2.1)) λa=>ah b.1.isSome λd=>ah b.2.2 λc=>ah b.2.1.isSome λe=>al (!decide (a>0)||e==e&&(decide (0+u=u)&&(decide (u+aY≤nat_lit 68719476736)&&d==d))) (J (aB (a>0) (J (aj b.1++[(1,lE (aj b.2.1),0)])) b.1,aB (a>0) O b.2.1,aB (a>0) c.1 c.1,aB (a>0) c.2.1 c.2.1,aB (a>0) c.2.2 c.2.2))
def Jl:kY→Q (bp×kY):=λb=>ak (Dg b) λa=>al (a.1.isSome==a.1.isSome) (J (a.1,a))
def Dh:ao→kY→Zi:=λtext b=>J (decide (ag (!text||af (aj b.2.1)==0) (aq (aB (af (aj b.2.1)>0) (aq (af (aj b.1))) (af (aj b.1)))) (aB (af (aj b.2.1)>0) (aq (af (aj b.1))) (af (aj b.1)))>512)||decide (aq (af (aj b.2.2.1))>1024))
def tX:M→M→kY→Q (ao×kY):=λc offset b=>ah (aj b.2.2.1).length λu=>ah (aj b.2.1).length λa=>ah b.2.2.1.isSome λd=>ah b.2.1.isSome λe=>ak (Dh W b) λf=>ag f (J (I,b)) (al (decide (0+a=a)&&(decide (a+aY≤nat_lit 68719476736)&&e==e)) (al (decide (0+u=u)&&(decide (u+aY≤nat_lit 68719476736)&&d==d)) (J (W,b.1,J (aj b.2.1++[c]),J (aj b.2.2.1++[offset]),b.2.2.2))))
def qm:iH→M→kY→Q (ao×kY):=λx offset b=>ak (Dh I b) λc=>ag c (J (I,b)) (ak (Dg b) λa=>al (decide (0+(aj a.1).length=(aj a.1).length)&&(decide ((aj a.1).length+aY≤nat_lit 68719476736)&&a.1.isSome==a.1.isSome)) (al (decide (0+(aj a.2.2.1).length=(aj a.2.2.1).length)&&(decide ((aj a.2.2.1).length+aY≤nat_lit 68719476736)&&a.2.2.1.isSome==a.2.2.1.isSome)) (J (W,J (aj a.1++[x]),a.2.1,J (aj a.2.2.1++[offset]),a.2.2.2))))
def Jm:aZ→M→ja:=λs a=>ah (aN (bL s a 0)) λu=>ah (aB (u≥48) (!decide (u≤57)&& !u==45) !u==45) λb=>aB (a<af s) (al (decide (0≤a)&&cu a s) (ag (aB (u≥97) (!decide (u≤122)&&b) b) (au (.inl I)) (ay (aq a)))) (au (.inr ()))
def nV:aZ→Zi:=λs=>al (decide (af s<1)||(decide (af s>24)||true&&(bw (nat_lit 0) s.length&&(decide (aN (s.getD (nat_lit 0) 0)<97)||true&&bw (nat_lit 0) s.length)))) (ag (decide (af s<1)||(decide (af s>24)||(decide (aN (s.getD (nat_lit 0) 0)<97)||decide (aN (s.getD (nat_lit 0) 0)>122)))) (J I) (aM (Jm s) 1 λa=>cC a (λb=>J b) λc=>J W))
def zM:aZ→Zi:=λs=>ag (aB (s=[112]) (decide (s=[112])) (aB (s=[104]) (decide (s=[104])) (aB (s=[108,105]) (decide (s=[108,105])) (aB (s=[116,100]) (decide (s=[116,100])) (decide (s=[116,105,116,108,101])))))) (J W) (J I)
def ld:ao→fc:=λok=>ag (!ok) (J 3) (J 0)
def Di:aZ→M→fc:=λs c=>J (dW s c.toNat.toUInt8)
def Dj:aZ→M→fc:=λs c=>ak (Di s c) λa=>J a
def zN:aZ→aZ→fc:=λb a=>ag (af a==0||decide (a=b)) (J 0) (ag (af a==1) (al (bw (nat_lit 0) a.length) (ak (Dj b (ej (a.getD (nat_lit 0) 0))) λc=>J c)) (bJ (af a≥af b) (J (-1:M))))
def Jn:aZ→aZ→ak3:=λs sep=>ak (zN s sep) λa=>aB (a≥0) (al (decide (0≤(0:M)∧0≤a∧a≤af s)&&decide (0≤aR (a+af sep)∧aR (a+af sep)≤af s∧af s≤af s)) (J (aV 0 a s,aV (aR (a+af sep)) (af s) s,W))) (J (s,[],I))
def rF:aZ→aZ→ak3:=λs sep=>ak (Jn s sep) λa=>J a
def tY:aZ→zo:=λa=>ak (rF a [32]) λb=>J b.1
def qn:iH→M→kY→Q (M×kY):=λx offset r=>ah (aj r.2.2.2.1) λu=>ah (eQ (aV 0 (aR (af u-1))) r.2.2.2.1) λg=>ah (aj g).length λm=>ah (aR (af u-1)) λd=>ah (J (7,r)) λq=>ah (u.getD (0+d.toNat) (0,[],0)).2 λn=>ah r.2.2.2.1.isSome λo=>ah g.isSome λp=>ah (x.1==2) λb=>ah u.length λh=>ah (ag b r.1 r.1) λi=>ah r.2.2 λa=>ah (ag b r.2.1 r.2.1) λj=>ah (ag b a.1 a.1) λk=>ah (af u) λf=>ah (aq a.2.2) λe=>ah x.2.1 λc=>ah (bw (0+d.toNat) h) λl=>ag (x.1==3) (ag (f==0) q (bY d u (al l (ak (tY n.1) λv=>ag (!decide (v=c)) q (al (decide (0≤d∧d<f)&&l&&(decide (0≤(0:M)∧0≤d∧d≤f)&&p==o)) (al (!b||decide (0+m=m)&&(decide (m+aY≤nat_lit 68719476736)&&p==p)) (ak (qm (x.1,c,n.2) offset (i,j,k,ag b (J (aj g++[(x.1,c,n.2)])) g,ag b a.2.2 a.2.2)) λs=>ak (ld s.1) λw=>J (w,s.2)))))))) (al (!b||decide (0+h=h)&&(decide (h+aY≤nat_lit 68719476736)&&o==o)) (ak (qm (x.1,c,e) offset (i,j,k,ag b (J (u++[(x.1,c,e)])) a.2.1,ag b e e)) λt=>ak (ld t.1) λy=>J (y,t.2)))
def Py:aZ→aZ→Zi:=λs a=>al (!decide (af s≥af a)||decide (0≤(0:M)∧0≤af a∧af a≤af s)) (J (decide (af s≥af a)&&decide (aV 0 (af a) s=a)))
def nW:aZ→aZ→Zi:=λs a=>ak (Py s a) λb=>J b
def Jo:aZ→Q (M×rp):=λs=>ak (nW s [38,108,116,59]) λa=>ag a (J (60,4,W)) (ak (nW s [38,103,116,59]) λb=>ag b (J (62,4,W)) (ak (nW s [38,97,109,112,59]) λc=>ag c (J (38,5,W)) (ak (nW s [38,108,98,59]) λd=>ag d (J (123,4,W)) (ak (nW s [38,114,98,59]) λe=>ag e (J (125,4,W)) (J (0,0,I))))))
def strings_IndexByte:aZ→M→fc:=λs c=>ak (Dj s c) λa=>J a
def Dk:aZ→M→ja:=λs a=>aB (a<af s) (gC a s (aB (aN (bL s a 0)<32) (au (.inl I)) (gC a s (aB (aN (bL s a 0)>126) (au (.inl I)) (gC a s (ak (strings_IndexByte [60,62,123,125] (ej (bL s a 0))) λb=>aB (b≥0) (au (.inl I)) (ay (aq a)))))))) (au (.inr ()))
def Dl:aZ→Zi:=λs=>al (decide (af s>64)||(af s==0||decide (0≤aR (af s-1))&&cu (aR (af s-1)) s)) (ag (decide (af s>64)||(af s==0||aN (bL s (aR (af s-1)) 0)==47)) (J I) (aM (Dk s) 0 λb=>cC b (λc=>J c) λe=>ak (rF s [32]) λa=>ak (nV a.1) λd=>J (d&&(!a.2.2||decide (af a.2.1>0)))))
def Pz:aZ→aZ→Zi:=λs suffix=>al (!decide (af s≥af suffix)||decide (0≤aR (af s-af suffix)∧aR (af s-af suffix)≤af s∧af s≤af s)) (J (decide (af s≥af suffix)&&decide (aV (aR (af s-af suffix)) (af s) s=suffix)))
def Jp:aZ→aZ→Zi:=λs suffix=>ak (Pz s suffix) λa=>J a
def Dm:aZ→Q (iH×rp):=λs=>ak (strings_IndexByte s 62) λb=>ah (af (aV 1 b s)) λu=>ah (aV 1 b s) λa=>ah (aR (u-1)) λc=>aB (b<1) (J ((0,[],0),0,I)) (bJ (0≤(1:M)∧1≤b∧b≤af s) (ak (nW a [47]) λf=>ag f (bJ (0≤(1:M)∧1≤u∧u≤u) (ak (nV (aV 1 u a)) λg=>J ((3,aV 1 u a,0),aq b,g))) (ak (Jp a [47]) λe=>ah (ag e (aV 0 c a) a) λd=>al (!e||decide (0≤(0:M)∧0≤c∧c≤u)) (ak (Dl d) λh=>J ((ag e 4 2,d,0),aq b,h)))))
def lP:aZ→M→kY→Q (M×M×kY):=λraw at' r=>ah (J (0,2,r)) λu=>ah (aV at' (af raw) raw) λa=>ah (aN (a.getD (nat_lit 0) 0)) λb=>ah (af raw) λd=>ah (af a) λe=>ah (bw (nat_lit 0) a.length) λf=>bJ (0≤at'∧at'≤d∧d≤d) (al (W&&f) (ag (b==60) (ak (Dm a) λi=>ag (!i.2.2) u (ak (tY i.1.2.1) λn=>ak (zM n) λo=>ag o u (ak (qn i.1 at' r) λp=>J (i.2.1,p)))) (ag (b==38) (ak (Jo a) λj=>ag (!j.2.2) u (ak (tX j.1 at' r) λm=>ak (ld m.1) λq=>J (j.2.1,q,m.2))) (ag (b==123) (ak (strings_IndexByte a 125) λc=>aB (c<0) u (bJ (0≤(1:M)∧1≤c∧c≤e) (ak (nV (aV 1 c a)) λs=>ag (!s) u (bJ (0≤(1:M)∧1≤c∧c≤e) (ak (qm (5,aV 1 c a,0) at' r) λg=>ak (ld g.1) λk=>J (aq c,k,g.2)))))) (al f (ak (tX b at' r) λh=>ak (ld h.1) λl=>J (1,l,h.2)))))))
def Jq:aZ→M×kY→Q (M×kY⊕bu×dz⊕kY):=λraw a=>aB (a.1<af raw) (ak (lP raw a.1 a.2) λb=>ag (b.2.1 !=0) (au (.inl ((),a.1,b.2.1))) (ay (aR (a.1+b.1),b.2.2))) (au (.inr a.2))
def Jr:aZ→Q (M×M×ao×kY):=λraw=>aM (Jq raw) (0,O,O,O,O,0) λc=>cC c (λa=>J (a.2.1,a.2.2,I,O,O,O,O,0)) λb=>aB (af (aj b.2.2.2.1)>0) (J (eP raw.length,7,I,O,O,O,O,0)) (J (0,0,W,b))
def zO:aZ→Q nS:=λraw=>ak (Jr raw) λa=>ag a.2.2.1 (ag (a.2.1 !=0) (J (O,a.1,a.2.1)) (ak (Jl a.2.2.2) λb=>J (b.1,0,0))) (al (a.2.1 !=0) (J (O,a.1,a.2.1)))
def strings_Index:aZ→aZ→fc:=λs sub=>if decide (s.length<4294967281)=W then J (uR s sub)else O
def Js:aZ→Q (M×aZ×ao):=λs=>al (W&&bw (nat_lit 0) s.length) (ag (aN (s.getD (nat_lit 0) 0) !=60) (J (1,[],W)) (ak (nW s [60,33,45,45]) λc=>ag c (bJ (0≤(4:M)∧4≤af s∧af s≤af s) (ak (strings_Index (aV 4 (af s) s) [45,45,62]) λb=>J (aR (b+7),[],decide (b≥0)))) (ak (Dm s) λa=>ag (!a.2.2) (J (a.2.1,[],a.2.2)) (ak (tY a.1.2.1) λd=>ak (zM d) λe=>ag (!e) (J (a.2.1,[],a.2.2)) (ak (tY a.1.2.1) λf=>J (a.2.1,f,a.1.1==2))))))
def strconv_Itoa:M→zo:=λn=>if(decide (-9223372036854775808≤n)&&decide (n≤9223372036854775807))=W then J (Lib.itoa n)else O
def Dn:aZ→Zn→Q (Zn⊕tM⊕o4):=λdata b=>ah (af data) λu=>ah O λe=>aB (b.1<u) (bJ (0≤b.1∧b.1≤u∧u≤u) (ak (Js (aV b.1 u data)) λg=>ah (aR (b.1+g.1)) λa=>ah ([60,47]++g.2.1) λf=>ah g.2.1 λd=>ag (!g.2.2) (au (.inl (e,b.1,2))) (aB (d=[]) (ay (a,b.2)) (bJ (0≤a∧a≤u∧u≤u) (fW (gP+d.length) (fW (f.length+aY) (ak (strings_Index (aV a u data) (60::47::(d++[62]))) λh=>ah (aB (h<0) u (aR (a+h))) λc=>bJ (0≤a∧a≤c∧c≤u) (ak (zO (aV a c data)) λi=>ag (i.2.2 !=0) (au (.inl (e,aR (a+i.2.1),i.2.2))) (aB (h<0) (au (.inl (e,u,2))) (ak (strconv_Itoa (aq b.2.1)) λj=>ak (xc a c j b.2.2) λk=>al (cr (gP+d.length)&&cr (f.length+aY)) (ay (aR (c+af (f++[62])),aq b.2.1,k)))))))))))) (au (.inr b.2.2))
def Do:aZ→tN:=λdata=>aB (af data>65536) (J (O,0,3)) (ak (xa data) λa=>aM (Dn data) (0,0,a) λb=>cC b (λc=>J c) λd=>ak (xb d) λe=>J (e.1,0,0))
def Dp:lM→Q lM:=λb=>ah (aj b.1).length λu=>ah (af (aj b.2.1)) λa=>ah b.1.isSome λd=>ah b.2.2 λc=>ah b.2.1.isSome λe=>al (!decide (a>0)||e==e&&(decide (0+u=u)&&(decide (u+aY≤nat_lit 68719476736)&&d==d))) (J (aB (a>0) (J (aj b.1++[(1,lE (aj b.2.1),0)])) b.1,aB (a>0) O b.2.1,aB (a>0) c.1 c.1,aB (a>0) c.2.1 c.2.1,aB (a>0) c.2.2 c.2.2))
def zP:lM→Q (bp×lM):=λb=>ak (Dp b) λa=>al (a.1.isSome==a.1.isSome) (J (a.1,a))
def Dq:ao→lM→Zi:=λtext b=>J (decide (ag (!text||af (aj b.2.1)==0) (aq (aB (af (aj b.2.1)>0) (aq (af (aj b.1))) (af (aj b.1)))) (aB (af (aj b.2.1)>0) (aq (af (aj b.1))) (af (aj b.1)))>512)||decide (aq (af (aj b.2.2.1))>1024))
def zQ:M→M→lM→Q (ao×lM):=λc offset b=>ah (aj b.2.2.1).length λu=>ah (aj b.2.1).length λa=>ah b.2.2.1.isSome λd=>ah b.2.1.isSome λe=>ak (Dq W b) λf=>ag f (J (I,b)) (al (decide (0+a=a)&&(decide (a+aY≤nat_lit 68719476736)&&e==e)) (al (decide (0+u=u)&&(decide (u+aY≤nat_lit 68719476736)&&d==d)) (J (W,b.1,J (aj b.2.1++[c]),J (aj b.2.2.1++[offset]),b.2.2.2))))
def Dr:iH→M→lM→Q (ao×lM):=λx offset b=>ak (Dq I b) λc=>ag c (J (I,b)) (ak (Dp b) λa=>al (decide (0+(aj a.1).length=(aj a.1).length)&&(decide ((aj a.1).length+aY≤nat_lit 68719476736)&&a.1.isSome==a.1.isSome)) (al (decide (0+(aj a.2.2.1).length=(aj a.2.2.1).length)&&(decide ((aj a.2.2.1).length+aY≤nat_lit 68719476736)&&a.2.2.1.isSome==a.2.2.1.isSome)) (J (W,J (aj a.1++[x]),a.2.1,J (aj a.2.2.1++[offset]),a.2.2.2))))
def PA:M→Zi:=λb=>J (b==32||b==9)
def Jt:M→Q rp:=λb=>ag (b==110) (J (10,W)) (ag (b==116) (J (9,W)) (ag (b==115) (J (32,W)) (ag (b==114) (J (13,W)) (ag (ag (b==92) (b==92) (b==123)) (J (b,W)) (J (0,I))))))
def Ju:aZ→M→jm:=λb a=>aB (a<af b) (gC a b (ak (PA (ej (bL b a 0))) λc=>ag c (ay (aq a)) (au a))) (au a)
def xe:aZ→M→lM→Q (M×M×lM):=λs c n=>ah (J (c,2,n)) λu=>ah (aV c (af s) s) λa=>ah (aN (a.getD (nat_lit 0) 0)) λb=>ah (bw (nat_lit 0) a.length) λj=>ah (af a) λe=>ah (af s) λk=>ah (decide (e>1)) λo=>ah (W&&j) λl=>ah n.2.2.2.1 λm=>ah (aR (c+2)) λf=>ah (bw aY a.length) λg=>ah (a.getD aY 0) λh=>bJ (0≤c∧c≤k∧k≤k) (al l (ag (b==10) u (al (W&&(j&&(!b==92||(!o||true&&g)))) (ag (b==92&&(o&&aN h==10)) (aM (Ju s) f λv=>J (v,0,n)) (al l (ag (b==92) (aB (e<2) u (al g (ak (Jt (ej h)) λt=>ag (!t.2) u (ak (zQ t.1 m n) λp=>ag (!p.1) (J (c,3,p.2)) (J (f,0,p.2.1,p.2.2.1,p.2.2.2.1,f,f)))))) (al l (ag (b==123) (ak (strings_IndexByte a 125) λi=>ah (aq (aR (c+i))) λd=>aB (i<0) u (bJ (0≤(1:M)∧1≤i∧i≤e) (ak (nV (aV 1 i a)) λw=>ag (!w) u (bJ (0≤(1:M)∧1≤i∧i≤e) (ak (Dr (5,aV 1 i a,0) m n) λq=>ag (!q.1) (J (c,3,q.2)) (J (d,0,q.2.1,q.2.2.1,q.2.2.2.1,d,d))))))) (al j (ak (zQ b m n) λr=>ag (!r.1) (J (c,3,r.2)) (J (aq c,0,r.2.1,r.2.2.1,r.2.2.2.1,aq c,aq c))))))))))))
def Jv:aZ→M×lM→Q (M×lM⊕bu×dz⊕lM):=λraw a=>aB (a.1<af raw) (ak (xe raw a.1 a.2) λb=>ag (b.2.1 !=0) (au (.inl ((),a.1,b.2.1))) (ay (b.1,b.2.2))) (au (.inr a.2))
def Ds:aZ→Q (M×M×ao×lM):=λraw=>aM (Jv raw) (0,O,O,O,0,0) λb=>cC b (λa=>J (a.2.1,a.2.2,I,O,O,O,0,0)) λc=>J (0,0,W,c)
def xf:aZ→Q nS:=λraw=>ak (Ds raw) λa=>ag a.2.2.1 (ag (a.2.1 !=0) (J (O,a.1,a.2.1)) (ak (zP a.2.2.2) λb=>J (b.1,0,0))) (al (a.2.1 !=0) (J (O,a.1,a.2.1)))
def alA:aZ→M→jm:=λdata a=>al (!decide (a<af data)||decide (0≤a)&&cu a data) (ag (decide (a<af data)&&aN (bL data a 0) !=10) (al (decide (0≤a)&&cu a data) (ay (aq (ag (aN (bL data a 0)==92) (aq a) a)))) (au a))
def PB:aZ→M→fc:=λdata at'=>aM (alA data) at' λa=>J (gN a (af data))
def Jw:aZ→M→jm:=λs a=>ah (aN (bL s a 0)) λu=>ah (aB (u≥48) (!decide (u≤57)&&(!u==46&&(!u==95&& !u==45))) (!u==46&&(!u==95&& !u==45))) λb=>ag (decide (a<af s)&&decide (a<65)) (al (decide (0≤a)&&cu a s) (ag (aB (u≥97) (!decide (u≤122)&&b) b) (au a) (ay (aq a)))) (au a)
def Jx:aZ→fc:=λs=>aM (Jw s) 0 λa=>J a
def nX:aZ→aZ→zo:=λs c=>if(decide (c.length<4294967281)&&c.all λb=>decide (b.toNat<128))=W then J (s.dropWhile (c.contains ·))else O
def Jy:aZ→M→Q rp:=λdata at'=>bJ (0≤at'∧at'≤af data∧af data≤af data) (ak (rF (aV at' (af data) data) [10]) λb=>ak (nX b.1 [32,9]) λa=>al (decide (a=[])||true&&bw (nat_lit 0) a.length) (J (aB (a=[]) (gN (aq (aR (at'+af b.1))) (af data)) (gN (aq (aR (at'+af b.1))) (af data)),decide (a=[])||aN (a.getD (nat_lit 0) 0)==35)))
def PD:aZ→wL→Q (wL⊕tM⊕o4):=λdata b=>ah (af data) λu=>ah O λd=>aB (b.1<u) (ak (Jy data b.1) λl=>ag l.2 (ay (l.1,b.2)) (bJ (0≤b.1∧b.1≤u∧u≤u) (ak (Jx (aV b.1 u data)) λj=>ah (aR (b.1+j)) λa=>ah (aq a) λc=>ah (decide (j>64)) λf=>ah (decide (a≥u)) λg=>ah (aV b.1 a data) λe=>ah (decide (j<1)) λh=>al (h||(f||(g||decide (0≤a)&&cu a data))) (ag (h||(f||(g||aN (bL data a 0) !=61))) (au (.inl (d,b.1,2))) (bJ (0≤b.1∧b.1≤a∧a≤u) (ag ((cF Ty.str e b.2.1).getD I) (au (.inl (d,b.1,5))) (ak (PB data c) λi=>bJ (0≤c∧c≤i∧i≤u) (ak (xf (aV c i data)) λk=>ag (k.2.2 !=0) (au (.inl (d,aR (c+k.2.1),k.2.2))) (ak (xc c i e b.2.2) λm=>ay (gN (aq i) u,eI Ty.str e W b.2.1,m)))))))))) (au (.inr b.2.2))
def Dt:aZ→tN:=λdata=>aB (af data>65536) (J (O,0,3)) (ak (xa data) λa=>aM (PD data) (0,[],a) λb=>cC b (λc=>J c) λd=>ak (xb d) λe=>J (e.1,0,0))
def Jz:aZ→M→jm:=λdata a=>aB (a<af data) (al (decide (0≤a)&&cu a data) (ag (aN (bL data a 0) !=34) (ay (aq a)) (al (!decide (aq a<af data)||decide (0≤aq a)&&cu (aq a) data) (ag (decide (aq a<af data)&&aN (bL data (aq a) 0)==34) (ay (aR (a+2))) (au a))))) (au a)
def JA:aZ→M→jm:=λdata a=>aB (a<af data) (gC a data (ak (strings_IndexByte [34,44,10] (ej (bL data a 0))) λb=>aB (b<0) (ay (aq a)) (au a))) (au a)
def JC:aZ→M→abL:=λdata at'=>ah (af data) λu=>ah (decide (at'<u)) λd=>al (!d||decide (0≤at')&&cu at' data) (ag (d&&aN (bL data at' 0)==34) (aM (Jz data) (aq at') λf=>ah (aN (bL data (aq f) 0)) λb=>ah (aq f) λa=>ah (decide (0≤a)) λe=>aB (f≥u) (J (0,W,I)) (al (a==u||e&&(cu a data&&(b==44||e&&cu a data))) (J (ag (a==u) a (ag (b==44) a a),W,a==u||(b==44||b==10))))) (aM (JA data) at' λc=>ah (aN (bL data c 0)) λb=>ah (decide (0≤c)) λa=>al (c==u||a&&(cu c data&&(b==44||a&&cu c data))) (J (ag (c==u) c (ag (b==44) c c),I,c==u||(b==44||b==10)))))
def o9:kE→Q kE:=λb=>al (!decide (af (aj b.2.1)>0)||b.2.1.isSome==b.2.1.isSome&&(decide (0+(aj b.1).length=(aj b.1).length)&&(decide ((aj b.1).length+aY≤nat_lit 68719476736)&&b.1.isSome==b.1.isSome))) (J (aB (af (aj b.2.1)>0) (J (aj b.1++[(1,lE (aj b.2.1),0)])) b.1,aB (af (aj b.2.1)>0) O b.2.1,aB (af (aj b.2.1)>0) b.2.2 b.2.2))
def JD:kE→Q (bp×kE):=λb=>ak (o9 b) λa=>al (a.1.isSome==a.1.isSome) (J (a.1,a))
def pa:ao→kE→Zi:=λtext b=>J (decide (ag (!text||af (aj b.2.1)==0) (aq (aB (af (aj b.2.1)>0) (aq (af (aj b.1))) (af (aj b.1)))) (aB (af (aj b.2.1)>0) (aq (af (aj b.1))) (af (aj b.1)))>512)||decide (aq (af (aj b.2.2))>1024))
def qo:M→M→kE→Q (ao×kE):=λc offset b=>ak (pa W b) λa=>ag a (J (I,b)) (al (decide (0+(aj b.2.1).length=(aj b.2.1).length)&&(decide ((aj b.2.1).length+aY≤nat_lit 68719476736)&&b.2.1.isSome==b.2.1.isSome)) (al (decide (0+(aj b.2.2).length=(aj b.2.2).length)&&(decide ((aj b.2.2).length+aY≤nat_lit 68719476736)&&b.2.2.isSome==b.2.2.isSome)) (J (W,b.1,J (aj b.2.1++[c]),J (aj b.2.2++[offset])))))
def rG:iH→M→kE→Q (ao×kE):=λx offset b=>ak (pa I b) λc=>ag c (J (I,b)) (ak (o9 b) λa=>al (decide (0+(aj a.1).length=(aj a.1).length)&&(decide ((aj a.1).length+aY≤nat_lit 68719476736)&&a.1.isSome==a.1.isSome)) (al (decide (0+(aj a.2.2).length=(aj a.2.2).length)&&(decide ((aj a.2.2).length+aY≤nat_lit 68719476736)&&a.2.2.isSome==a.2.2.isSome)) (J (W,J (aj a.1++[x]),a.2.1,J (aj a.2.2++[offset])))))
def zR:aZ→M→kE→Q (M×M×kE):=λraw at' b=>ah (al (bw (nat_lit 0) (aV at' (af raw) raw).length) (ak (qo (aN ((aV at' (af raw) raw).getD (nat_lit 0) 0)) at' b) λi=>ag (!i.1) (J (at',3,i.2)) (J (aR (at'+2),0,i.2)))) λu=>ah (aV at' (af raw) raw) λa=>ah (J (at',2,b)) λd=>ah (aN (a.getD (nat_lit 0) 0)) λe=>ah (bw (nat_lit 0) a.length) λf=>ah (af raw) λg=>ah (af a) λh=>bJ (0≤at'∧at'≤g∧g≤g) (ak (nW a [34,34]) λl=>ag l u (ak (nW a [123,123]) λm=>ag m u (al (W&&f) (ag (e==34) d (al (W&&f) (ag (e==123) (ak (strings_IndexByte a 125) λc=>aB (c<0) d (bJ (0≤(1:M)∧1≤c∧c≤h) (ak (nV (aV 1 c a)) λn=>ag (!n) d (bJ (0≤(1:M)∧1≤c∧c≤h) (ak (rG (5,aV 1 c a,0) at' b) λj=>ag (!j.1) (J (at',3,j.2)) (J (aq (aR (at'+c)),0,j.2))))))) (al f (ak (qo e at' b) λk=>ag (!k.1) (J (at',3,k.2)) (J (aq at',0,k.2))))))))))
def JE:aZ→M×kE→Q (M×kE⊕bu×dz⊕kE):=λraw a=>aB (a.1<af raw) (ak (zR raw a.1 a.2) λb=>ag (b.2.1 !=0) (au (.inl ((),a.1,b.2.1))) (ay (b.1,b.2.2))) (au (.inr a.2))
def Du:aZ→Q (M×M×ao×kE):=λraw=>aM (JE raw) (0,O,O,O) λb=>cC b (λa=>J (a.2.1,a.2.2,I,O,O,O)) λc=>J (0,0,W,c)
def xg:aZ→Q nS:=λraw=>ak (Du raw) λa=>ag a.2.2.1 (ag (a.2.1 !=0) (J (O,a.1,a.2.1)) (ak (JD a.2.2.2) λb=>J (b.1,0,0))) (al (a.2.1 !=0) (J (O,a.1,a.2.1)))
def PF:M→M→M→ao→ala→o4→Q Zn:=λa to b quoted t parts=>ag (decide (b≥t.2.2.2.1)||b==t.2.2.2.2.1&& !quoted) (J (a,2,parts)) (ag (b !=t.2.2.2.2.1) (J (0,0,parts)) (bJ (0≤aq a∧aq a≤aR (to-1)∧aR (to-1)≤af t.1) (ak (xg (aV (aq a) (aR (to-1)) t.1)) λc=>ag (c.2.2 !=0) (J (aR (aq a+c.2.1),c.2.2,parts)) (ak (strconv_Itoa t.2.2.1) λd=>ak (xc (aq a) (aR (to-1)) d parts) λe=>J (0,0,e)))))
def JF:M→M→M→ala→o4→Q nP:=λa to b t parts=>bJ (0≤a∧a≤to∧to≤af t.1) (J (aq b,aB (aV a to t.1=[116,101,120,116]) b t.2.2.2.2.1,aB (aV a to t.1=[116,101,120,116]) (aq t.2.2.2.2.2) t.2.2.2.2.2))
def PG:ala→Cv→Q (Cv⊕Cv⊕Cv):=λt c=>ah c.2.2.2 λu=>ah (t.1,(),t.2.2.1,c.2.2.1,u.1,u.2.1) λe=>ah c.2.1 λa=>ah (af t.1) λf=>ah c.2.2 λg=>ah u.2.2 λd=>ak (JC t.1 c.1) λb=>ah (b.1==f||decide (0≤b.1)&&cu b.1 t.1) λh=>ah (b.1==f||aN (bL t.1 b.1 0)==10) λi=>ag (!b.2.2) (au (.inl (c.1,2,g))) (ag (t.2.2.1==0) (ak (JF c.1 b.1 a e d) λk=>ah (k.1,k.2.1,k.2.2,d) λu=>al h (ag i (au (.inr (b.1,a,u))) (ay (aq b.1,aq a,u)))) (ak (PF c.1 b.1 a b.2.1 e d) λj=>ah (g.1,u.1,u.2.1,j.2.2) λu=>ag (j.2.1 !=0) (au (.inl (j.1,j.2.1,u))) (al h (ag i (au (.inr (b.1,a,u))) (ay (aq b.1,aq a,u))))))
def PH:M→ala→o4→Q Cv:=λbegin t parts=>aM (PG t) (begin,0,t.2.2.2.1,t.2.2.2.2.1,t.2.2.2.2.2,parts) λb=>cC b (λc=>J c) λa=>ag (decide (t.2.2.1>0)&&decide (aq a.2.1<a.2.2.1)) (J (begin,2,a.2.2)) (ag (t.2.2.1==0&&a.2.2.2.2.1==0) (J (0,6,a.2.2)) (ag (t.2.2.1==0&&decide (a.2.2.2.2.1>1)) (J (0,5,a.2.2)) (J (gN (aq a.1) (af t.1),0,a.2.2))))
def PJ:aZ→M×ak9→IA:=λdata b=>ag (decide (b.1<af data)||b.2.2.2.2.1==0) (ak (PH b.1 (data,(),b.2.2.2.2) (b.2.1,b.2.2.1,b.2.2.2.1)) λa=>ag (a.2.1 !=0) (au (.inl (O,a.1,a.2.1))) (ay (a.1,a.2.2.2.2.2.1,a.2.2.2.2.2.2.1,a.2.2.2.2.2.2.2,aq b.2.2.2.2.1,a.2.2.1,a.2.2.2.1,a.2.2.2.2.1))) (au (.inr b.2))
def Dv:aZ→tN:=λdata=>aB (af data>65536) (J (O,0,3)) (ak (xa data) λa=>aM (PJ data) (0,a.1,a.2.1,a.2.2,0,0,0,0) λc=>cC c (λd=>J d) λb=>ak (xb (b.1,b.2.1,b.2.2.1)) λe=>J (e.1,0,0))
def JG:M→aZ→tN:=λa data=>ag (a==1) (ak (Do data) λb=>J b) (ag (a==2) (ak (Dt data) λc=>J c) (ak (Dv data) λd=>J d))
def JH:M→aZ→Q (fa×dz):=λa data=>ak (w9 a) λc=>ag (!c) (J ((0,O),0,1)) (ak (JG a data) λb=>ag (b.2.2 !=0) (J ((0,O),b.2)) (J ((a,b.1),0,0)))
def PK:i7→i7→M→ja:=λa b c=>aB (c<af (aj a)) (al (decide (0≤c∧c<af (aj a))&&decide (0≤c∧c<af (aj b))) (ag (!((aF a c (I,[],[])).1==(aF b c (I,[],[])).1&&(decide ((aF a c (I,[],[])).2.1=(aF b c (I,[],[])).2.1)&&(decide ((aF a c (I,[],[])).2.2=(aF b c (I,[],[])).2.2)&&W)))) (au (.inl I)) (ay (aq c)))) (au (.inr ()))
def JI:i7→i7→Zi:=λa b=>ag (af (aj a) !=af (aj b)) (J I) (aM (PK a b) 0 λc=>cC c (λd=>J d) λe=>J W)
def xh:fa→fc:=λd=>ak (w9 d.1) λb=>ag (!b) (J 1) (ak (rE d) λc=>ak (JH d.1 c) λa=>ag (a.2.2 !=0) (J 11) (ak (JI a.1.2 d.2) λe=>ag (!e) (J 11) (J 0)))
def Dw:M→aZ→Q ip:=λa raw=>ag (a==1) (ak (zO raw) λb=>J (b.1,b.2.2)) (ag (a==2) (ak (xf raw) λc=>J (c.1,c.2.2)) (ak (xg raw) λd=>J (d.1,d.2.2)))
def xi:fa→M→Q ip:=λd part=>ak (w9 d.1) λa=>ag (!a) (J (O,1)) (al (decide (part<0)||(decide (part≥af (aj d.2))||decide (0≤part∧part<af (aj d.2)))) (ag (decide (part<0)||(decide (part≥af (aj d.2))|| !(aF d.2 part (I,[],[])).1)) (J (O,6)) (bY part (aj d.2) (ak (Dw d.1 (aF d.2 part (I,[],[])).2.2) λb=>J b))))
def Dx:fa→eL→zm:=λd a=>aB (a.2<af (aj d.2)) (al (decide (0≤a.2∧a.2<af (aj d.2))&&(!(aF d.2 a.2 (I,[],[])).1||decide (0+(aj a.1).length=(aj a.1).length)&&(decide ((aj a.1).length+aY≤nat_lit 68719476736)&&a.1.isSome==a.1.isSome))) (ay (ag (aF d.2 a.2 (I,[],[])).1 (J (aj a.1++[a.2])) a.1,aq a.2))) (au a.1)
def lQ:fa→rx:=λd=>aM (Dx d) (O,0) λa=>al (a.isSome==a.isSome) (al (a.isSome==a.isSome) (J a))
def Dy:fa→cJ→Zm×M→Q (Zm×M⊕Zm):=λd b a=>bq a.2 (aj b) (ak (xi d (aF b a.2 0)) λc=>ay (eI (Ty.int aO) (aF b a.2 0) c.1 a.1,aq a.2)) (au a.1)
def JJ:fa→Q Zm:=λd=>ak (lQ d) λa=>aM (Dy d a) ([],0) λb=>J b
def JK:bp→ka:=λs=>ag (!s.isSome) (J O) (al (W&&decide (nat_lit 0+(aj s).length≤nat_lit 68719476736)) (J (J ([]++aj s))))
def PN:jA→Q jA:=λs=>ak (JK s.2.2.2.2.2.1) λa=>J (s.1,s.2.1,s.2.2.1,s.2.2.2.1,s.2.2.2.2.1,a,s.2.2.2.2.2.2)
def JL:i7→Q i7:=λs=>ag (!s.isSome) (J O) (al (W&&decide (nat_lit 0+(aj s).length≤nat_lit 68719476736)) (J (J ([]++aj s))))
def PP:fa→Q fa:=λd=>ak (JL d.2) λa=>J (d.1,a)
def Dz:eg→Iy→Q (Iy⊕eg):=λp a=>bq a.1 (aj p.1) (ak (PP (aF p.1 a.1 (0,O))) λb=>al (decide (0+(aj a.2.1).length=(aj a.2.1).length)&&(decide ((aj a.2.1).length+aY≤nat_lit 68719476736)&&a.2.1.isSome==a.2.1.isSome)) (ay (aq a.1,J (aj a.2.1++[b]),a.2.2))) (au a.2)
def DA:eg→Iy→Q (Iy⊕eg):=λp a=>bq a.1 (aj p.2.1) (ak (PN (aF p.2.1 a.1 (0,0,0,(0,0),0,O,[],0,I))) λb=>al (decide (0+(aj a.2.2.1).length=(aj a.2.2.1).length)&&(decide ((aj a.2.2.1).length+aY≤nat_lit 68719476736)&&a.2.2.1.isSome==a.2.2.1.isSome)) (ay (aq a.1,a.2.1,J (aj a.2.2.1++[b]),a.2.2.2))) (au a.2)
def JM:eg→Q eg:=λp=>aM (Dz p) (0,O,O,p.2.2) λb=>aM (DA p) (0,b) λa=>al (a.1.isSome==a.1.isSome&&a.2.1.isSome==a.2.1.isSome) (al (a.1.isSome==a.1.isSome) (al (a.2.1.isSome==a.2.1.isSome) (J a)))
def DB:iH→fc:=λx=>ag (x.1==1) (J (eP x.2.1.length)) (J 1)
def DC:bp→dz→tL:=λf a=>bq a.2 (aj f) (ak (DB (aF f a.2 (0,[],0))) λb=>ay (aR (a.1+b),aq a.2)) (au a.1)
def tZ:bp→fc:=λf=>aM (DC f) (0,0) λa=>J a
def DD:bp→M→M→nS→Q (nS⊕bp):=λf b to c=>ah (aF f c.2.2 (0,[],0)) λu=>ah (aj c.1).length λd=>ah c.2.1 λa=>ah (aR (mI b a-a)) λe=>ah c.1.isSome λi=>ah (af u.2.1) λk=>ah (mI b a) λj=>bq c.2.2 (aj f) (ak (DB u) λl=>ah (gN to (aR (a+l))) λg=>ah (aR (g-a)) λh=>al (!decide (j<g)||(!u.1==1||decide (0≤e∧e≤h∧h≤k))&&(decide (0+d=d)&&(decide (d+aY≤nat_lit 68719476736)&&i==i))) (ay (aB (j<g) (J (aj c.1++[(u.1,ag (u.1==1) (aV e h u.2.1) u.2.1,u.2.2)])) c.1,aR (a+l),aq c.2.2))) (au c.1)
def pb:bp→M→M→Q (bp×ao):=λf a to=>aB (a<0) (J (O,I)) (aB (to<a) (J (O,I)) (ak (tZ f) λc=>aB (to>c) (J (O,I)) (aM (DD f a to) (O,0,0) λb=>al (b.isSome==b.isSome) (al (b.isSome==b.isSome) (J (b,W))))))
def ud:M→jX→ka:=λi v=>ah (af (aj v.2.1)) λu=>ah (aF v.2.1 i (0,0,0,(0,0),0,O,[],0,I)).2 λa=>ah (decide (0≤i∧i<u)) λu=>al (u&&u) (J ((cF ((Ty.int aO).pair (Ty.int aO)) (a.1,a.2.1) v.2.2.2).getD O))
def uf:M→jX→ka:=λi v=>ah (aF v.2.1 i (0,0,0,(0,0),0,O,[],0,I)).2.2.2.1 λu=>bY i (aj v.2.1) (ak (ud i v) λa=>ak (pb a u.1 u.2) λb=>J b.1)
def JN:jZ→M→dz→Zo:=λa length b=>ah (aF a b.2 (0,0)) λu=>bq b.2 (aj a) (ag (decide (u.1<b.1)||(decide (u.2<u.1)||decide (u.2>length))) (au (.inl I)) (ay (u.2,aq b.2))) (au (.inr ()))
def JO:jZ→M→Zi:=λa length=>aM (JN a length) (0,0) λb=>cC b (λc=>J c) λd=>J W
def PQ:M→kY→Q (cJ×bp×cJ×bu×ip):=λlast b=>al (decide (0+(aj b.2.2.1).length=(aj b.2.2.1).length)&&(decide ((aj b.2.2.1).length+aY≤nat_lit 68719476736)&&b.2.2.1.isSome==b.2.2.1.isSome)) (J (J (aj b.2.2.1++[last]),b.1,b.2.1,(),b.2.2.2))
def DE:aZ→Q eL:=λraw=>ak (Jr raw) λa=>ag a.2.2.1 (ag (a.2.1 !=0) (J (O,a.2.1)) (ak (PQ (af raw) a.2.2.2) λb=>J (b.1,0))) (al (a.2.1 !=0) (J (O,a.2.1)))
def PR:M→lM→Q (cJ×bp×cJ×bu×dz):=λlast b=>al (decide (0+(aj b.2.2.1).length=(aj b.2.2.1).length)&&(decide ((aj b.2.2.1).length+aY≤nat_lit 68719476736)&&b.2.2.1.isSome==b.2.2.1.isSome)) (J (J (aj b.2.2.1++[last]),b.1,b.2.1,(),b.2.2.2))
def DF:aZ→Q eL:=λraw=>ak (Ds raw) λa=>ag a.2.2.1 (ag (a.2.1 !=0) (J (O,a.2.1)) (ak (PR a.2.2.2.2.2.2.2 a.2.2.2) λb=>J (b.1,0))) (al (a.2.1 !=0) (J (O,a.2.1)))
def PT:M→kE→Q (cJ×bp×cJ×bu):=λlast b=>al (decide (0+(aj b.2.2).length=(aj b.2.2).length)&&(decide ((aj b.2.2).length+aY≤nat_lit 68719476736)&&b.2.2.isSome==b.2.2.isSome)) (J (J (aj b.2.2++[last]),b.1,b.2.1,()))
def DG:aZ→Q eL:=λraw=>ak (Du raw) λa=>ag a.2.2.1 (ag (a.2.1 !=0) (J (O,a.2.1)) (ak (PT (af raw) a.2.2.2) λb=>J (b.1,0))) (al (a.2.1 !=0) (J (O,a.2.1)))
def DH:M→aZ→Q eL:=λa raw=>ag (a==1) (ak (DE raw) λb=>J b) (ag (a==2) (ak (DF raw) λc=>J c) (ak (DG raw) λd=>J d))
def pc:iH→Zi:=λx=>J (x.1==2||(x.1==3||x.1==4))
def JP:aZ→zo:=λa=>ak (rF a [32]) λb=>J b.1
def DI:bp→iH→M→ja:=λa x d=>ah (aF a d (0,[],0)) λu=>ah (au (.inl I)) λb=>ah (ay (aq d)) λc=>bq d (aj a) (ak (pc u) λe=>ag (!e||u.2.2 !=x.2.2) c (ag (x.1 !=3) b (ag (u.1 !=2) b (ak (JP u.2.1) λf=>ag (!decide (f=x.2.1)) b c)))) (au (.inr ()))
def JQ:bp→iH→Zi:=λa x=>aM (DI a x) 0 λb=>cC b (λc=>J c) λd=>J W
def JR:bp→M→Zi:=λf i=>ah (aF f i (0,[],0)) λu=>ah (aj f) λc=>ah (decide (u.2.2≥1)&&decide (u.2.2≤999)) λd=>ah (!decide (u.2.1=[])) λe=>ah (aR (i-1)) λa=>ah (u.2.2==0) λb=>bY i c (ag (u.1==1) (al (!e||(!b||(i==0||decide (0≤a∧a<af c)))) (J (e&&(b&&(i==0||(aF f a (0,[],0)).1 !=1))))) (ag (u.1==5) (ak (nV u.2.1) λg=>J (g&&b)) (ag (ag (u.1==2) (u.1==2) (u.1==4)) (ak (Dl u.2.1) λh=>J (h&&d)) (ag (u.1==3) (ak (nV u.2.1) λj=>J (j&&d)) (J I)))))
def JS:bp→M→qj:=λf a=>bq a (aj f) (ak (JR f a) λb=>ag (!b) (au (.inl 1)) (ak (pc (aF f a (0,[],0))) λc=>ag c (bJ (0≤(0:M)∧0≤a∧a≤af (aj f)) (ak (JQ (eQ (aV 0 a) f) (aF f a (0,[],0))) λd=>ag (!d) (au (.inl 7)) (ay (aq a)))) (ay (aq a)))) (au (.inr ()))
def xj:bp→fc:=λf=>aB (af (aj f)>512) (J 3) (ak (tZ f) λa=>aB (a>1024) (J 3) (aM (JS f) 0 λb=>cC b (λc=>J c) λd=>J 0))
def ug:jY→Q jB:=λl=>if(decide ((l.getD []).length%2=0)&&decide (0<(l.getD []).length)&&decide ((l.getD []).length≤2000))=W then J (0,0,0,[],l)else O
def uh:L (L ai)→Q (L (ai×L ai))|[]=>J []|[c]::n::r=>(uh r).map ((c,n):: ·)|_=>O
def DJ(ps:L (ai×L ai))(s:L ai):L ai:=s.flatMap λc=>(dK ps c).getD [c]
def zS(ps:L (ai×L ai))(s:L ai):ao:=decide (2≤ps.length)&&decide (ps.length≤1000)&&decide (ps.map (·.1)).Nodup&&ps.all (λp=>decide (2≤p.2.length))&&decide (s.length≤1073741824)&&decide ((DJ ps s).length≤1099511627776)
abbrev alB:Type:=M×M×M×L (ai×L ai)×Q (L (L ai))
def rH(s:L ai)(b:alB):Q (L ai×M×M×L (ai×L ai)×Q (L (L ai))):=if b.1=1 then(if zS b.2.2.2.1 s=W then J (DJ b.2.2.2.1 s,b.1,b.2.1,b.2.2.2.1,b.2.2.2.2)else O)else if b.1=0∧b.2.1=0 then match uh (b.2.2.2.2.getD [])with|some ps=>if zS ps s=W then J (DJ ps s,1,0,ps,O)else O|none=>O else O
def DK:bp→jB→aZ×jB→Pd:=λf m b=>ah (aF f b.2.1 (0,[],0)) λu=>ah u.2.1 λa=>ah ([60]++a) λc=>ah b.1.length λd=>ah (cr (aY+a.length)) λg=>ah ([60,47]++a) λh=>ah ([123]++a) λi=>ah b.2.2 λe=>ah (aq b.2.1) λj=>ah (c++[47,62]) λk=>bq b.2.1 (aj f) (ag (u.1==1) (ak (rH a (e.1,e.2.1,m.2.2.1,e.2.2)) λl=>fW (d+l.1.length) (ay (b.1++l.1,j,l.2))) (ag (u.1==5) (al (g&&(cr (i.length+aY)&&cr (d+(i++[125]).length))) (ay (b.1++(i++[125]),j,e))) (ak (tY a) λn=>ak (zM n) λo=>ag o (au (.inl ([],7))) (al (ag (u.1==2) (g&&(cr (c.length+aY)&&cr (d+(c++[(62:ai)]).length))) (ag (u.1==3) (cr (gP+a.length)&&(cr (h.length+aY)&&cr (d+(h++[62]).length))) (!u.1==4||g&&(cr (c.length+gP)&&cr (d+k.length))))) (ay (ag (u.1==2) (b.1++(c++[62])) (ag (u.1==3) (b.1++(h++[62])) (ag (u.1==4) (b.1++k) b.1)),j,e)))))) (au (.inr b.1))
def DM:bp→Pe:=λf=>ak (xj f) λb=>ag (b !=0) (J ([],b)) (ak (ug (J [[60],[38,108,116,59],[38],[38,97,109,112,59],[123],[38,108,98,59]])) λa=>aM (DK f a) ([],0,a.1,a.2.1,a.2.2.2) λc=>cC c (λd=>J d) λe=>J (e,0))
def DN:bp→jB→aZ×jB→Pd:=λf e a=>ah (aF f a.2.1 (0,[],0)) λu=>ah ([123]++u.2.1) λc=>ah a.2.2 λb=>bq a.2.1 (aj f) (ag (u.1==1) (ak (rH u.2.1 (b.1,b.2.1,e.2.2.1,b.2.2)) λd=>fW (a.1.length+d.1.length) (ay (a.1++d.1,aq a.2.1,d.2))) (ag (u.1==5) (al (cr (aY+u.2.1.length)&&(cr (c.length+aY)&&cr (a.1.length+(c++[125]).length))) (ay (a.1++(c++[125]),aq a.2.1,b))) (au (.inl ([],7))))) (au (.inr a.1))
def DO:bp→Pe:=λf=>ak (xj f) λb=>ag (b !=0) (J ([],b)) (ak (ug (J [[10],[92,110],[9],[92,116],[13],[92,114],[92],[92,92],[123],[92,123]])) λa=>aM (DN f a) ([],0,a.1,a.2.1,a.2.2.2) λc=>cC c (λd=>J d) λe=>J (e,0))
def Zy:bp→jB→aZ×jB→Pd:=λf e a=>ah (aF f a.2.1 (0,[],0)) λu=>ah ([123]++u.2.1) λc=>ah a.2.2 λb=>bq a.2.1 (aj f) (ag (u.1==1) (ak (rH u.2.1 (b.1,b.2.1,e.2.2.1,b.2.2)) λd=>fW (a.1.length+d.1.length) (ay (a.1++d.1,aq a.2.1,d.2))) (ag (u.1==5) (al (cr (aY+u.2.1.length)&&(cr (c.length+aY)&&cr (a.1.length+(c++[125]).length))) (ay (a.1++(c++[125]),aq a.2.1,b))) (au (.inl ([],7))))) (au (.inr a.1))
def DP:bp→Pe:=λf=>ak (xj f) λb=>ag (b !=0) (J ([],b)) (ak (ug (J [[34],[34,34],[123],[123,123]])) λa=>aM (Zy f a) ([],0,a.1,a.2.1,a.2.2.2) λc=>cC c (λd=>J d) λe=>J (e,0))
def JT:M→bp→Pe:=λa f=>ag (a==1) (ak (DM f) λb=>J b) (ag (a==2) (ak (DO f) λc=>J c) (ak (DP f) λd=>J d))
def JU:bp→M×cJ→Q (M×cJ⊕M×cJ):=λf a=>ah (af (aj f)) λu=>ah (aF f a.1 (0,[],0)) λb=>ah (aj a.2).length λc=>ah (decide (0≤a.1∧a.1<u)) λd=>ah (iF a.2 (ey b.2.1)) λe=>ah (decide (a.1<u)) λu=>ah (c+(ey b.2.1).length) λi=>ah a.2.isSome λg=>ah e.isSome λh=>al (!u||d) (ag (u&&b.1==1) (al (d&&(decide (0+c=c)&&(decide (i≤nat_lit 68719476736)&&(g==g&&h==h)))) (ay (aq a.1,e))) (au a))
def JV:bp→ip→wJ:=λf a=>ah (aj a.1).length λu=>ah (decide (0+u=u)&&(decide (u+aY≤nat_lit 68719476736)&&a.1.isSome==a.1.isSome)) λu=>ah (aj f) λb=>ah (aF f a.2 (0,[],0)) λc=>ah (aj a.1) λd=>bq a.2 b (ag (c.1 !=1) (al (decide (0≤a.2∧a.2<af b)&&u) (ay (J (d++[c]),aq a.2))) (aM (JU f) (a.2,O) λh=>ah (af (aj h.2)) λe=>ah h.2.isSome λg=>al (!decide (e>0)||g==g&&u) (ay (aB (e>0) (J (d++[(1,lE (aj h.2),0)])) a.1,h.1)))) (au a.1)
def DQ:bp→ka:=λf=>aM (JV f) (O,0) λa=>al (a.isSome==a.isSome) (al (a.isSome==a.isSome) (J a))
def JW:M→ka:=λn=>if(!decide (n<(0:M)))=W then if(!decide (aO.wrap (n-(0:M))>(0:M))||true&&(decide ((0:M)≤aO.wrap (n-(0:M))∧aO.wrap (n-(0:M))≤(68719476736:M))&&(decide ((0:M)≤(0:M)∧(0:M)≤(0:M)∧(0:M)≤af ((dj (dk (aO.wrap (n-(0:M))).toNat ((0:M),([]:L ai),(0:M)))).getD []))&&(eQ (aV (0:M) (0:M)) (dj (dk (aO.wrap (n-(0:M))).toNat ((0:M),([]:L ai),(0:M))))).isSome==(dj (dk (aO.wrap (n-(0:M))).toNat ((0:M),([]:L ai),(0:M)))).isSome)))=W then if((if decide (aO.wrap (n-(0:M))>(0:M))=W then eQ (aV (0:M) (0:M)) (dj (dk (aO.wrap (n-(0:M))).toNat ((0:M),([]:L ai),(0:M))))else O).isSome==(if decide (aO.wrap (n-(0:M))>(0:M))=W then eQ (aV (0:M) (0:M)) (dj (dk (aO.wrap (n-(0:M))).toNat ((0:M),([]:L ai),(0:M))))else O).isSome)=W then if((if decide (aO.wrap (n-(0:M))>(0:M))=W then eQ (aV (0:M) (0:M)) (dj (dk (aO.wrap (n-(0:M))).toNat ((0:M),([]:L ai),(0:M))))else O).isSome==(if decide (aO.wrap (n-(0:M))>(0:M))=W then eQ (aV (0:M) (0:M)) (dj (dk (aO.wrap (n-(0:M))).toNat ((0:M),([]:L ai),(0:M))))else O).isSome)=W then J (if decide (aO.wrap (n-(0:M))>(0:M))=W then eQ (aV (0:M) (0:M)) (dj (dk (aO.wrap (n-(0:M))).toNat ((0:M),([]:L ai),(0:M))))else O)else O else O else O else O
def DR:nQ→dz→tL:=λslices a=>aB (a.2<af (aj slices)) (al (decide (0≤a.2∧a.2<af (aj slices))&& !decide (aR (a.1+af (aj (aF slices a.2 O)))<0)) (ay (aR (a.1+af (aj (aF slices a.2 O))),aq a.2))) (au a.1)
def DS:nQ→ip→wJ:=λslices a=>ah (aj (aF slices a.2 O)) λu=>ah (aj a.1).length λb=>ah (af (aj slices)) λc=>ah (iF a.1 u).isSome λd=>ah a.1.isSome λe=>aB (a.2<c) (al (decide (0≤a.2∧a.2<c)&&(decide (0+b=b)&&(decide (b+u.length≤nat_lit 68719476736)&&(e==e&&d==d)))) (ay (iF a.1 u,aq a.2))) (au a.1)
def JX:nQ→ka:=λslices=>aM (DR slices) (0,0) λc=>ak (JW c) λb=>al (b.isSome==b.isSome) (aM (DS slices) (b,0) λa=>al (a.isSome==a.isSome) (al (a.isSome==a.isSome) (J a)))
def zT:bp→bp→ka:=λa b=>ak (JX (J [a,b])) λc=>ak (DQ c) λd=>J d
def DT:bp→jZ→nQ→nS→Q (nS⊕ip):=λf a targets b=>bq b.2.2 (aj a) (ak (pb f b.2.1 (aF a b.2.2 (0,0)).1) λc=>ak (zT b.1 c.1) λd=>bY b.2.2 (aj targets) (ak (zT d (aF targets b.2.2 O)) λe=>ay (e,(aF a b.2.2 (0,0)).2,aq b.2.2))) (au (b.1,b.2.1))
def JY:bp→jZ→nQ→ka:=λf a targets=>aM (DT f a targets) (O,0,0) λb=>ak (tZ f) λc=>ak (pb f b.2 c) λd=>ak (zT b.1 d.1) λe=>J e
def DU:bp→cJ×L rp×M→Q (cJ×L rp×M⊕cJ):=λf a=>ah (aF f a.2.2 (0,[],0)) λu=>ah (!(cF (Ty.int aO) u.2.2 a.2.1).getD I) λe=>ah (aj a.1).length λb=>ah a.1.isSome λd=>bq a.2.2 (aj f) (ak (pc u) λg=>ah (g&&e) λc=>al (!c||decide (0+b=b)&&(decide (b+aY≤nat_lit 68719476736)&&d==d)) (ay (ag c (J (aj a.1++[u.2.2])) a.1,ag c (eI (Ty.int aO) u.2.2 W a.2.1) a.2.1,aq a.2.2))) (au a.1)
def JZ:bp→rx:=λf=>aM (DU f) (O,[],0) λa=>al (a.isSome==a.isSome) (al (a.isSome==a.isSome) (J a))
def J0:cJ→cJ→L dz×M→Q (L dz×M⊕L dz):=λa to b=>aB (b.2≥0) (al (decide (0≤b.2∧b.2<af (aj a))&&decide (0≤b.2∧b.2<af (aj to))) (ay (eI (Ty.int aO) (aF a b.2 0) (aF to b.2 0) b.1,aR (b.2-1)))) (au b.1)
def DV:bp→L dz→ip→wJ:=λf h b=>ah (aj b.1).length λu=>ah (aF f b.2 (0,[],0)) λa=>ah (decide (0+u=u)&&(decide (u+aY≤nat_lit 68719476736)&&b.1.isSome==b.1.isSome)) λu=>ah (cF (Ty.int aO) a.2.2 h) λc=>ah (aj b.1) λd=>ah (!c.isSome) λe=>bq b.2 (aj f) (ak (pc a) λg=>al (ag g (e||u) u) (ay (ag g (ag e b.1 (J (d++[(a.1,a.2.1,c.getD 0)]))) (J (d++[a])),aq b.2))) (au b.1)
def J1:bp→cJ→cJ→ka:=λf a to=>aM (J0 a to) ([],aR (gN (af (aj a)) (af (aj to))-1)) λc=>aM (DV f c) (O,0) λb=>al (b.isSome==b.isSome) (ak (DQ b) λd=>J d)
def DW:M→L M×M→Q (L M×M⊕L M):=λn a=>aB (a.2<af (dk n.toNat (0:M))) (al (decide (0≤a.2∧a.2<af a.1)&&bw (0+a.2.toNat) a.1.length) (ay (a.1.set (0+a.2.toNat) (aq a.2),aq a.2))) (au a.1)
def DX:M→rx:=λn=>bJ (0≤n∧n≤n∧n≤68719476736) (aM (DW n) (dk n.toNat 0,0) λa=>J (J a))
def J2:bp→ka:=λf=>ak (JZ f) λa=>ak (DX (eP (aj a).length)) λb=>ak (J1 f a b) λc=>J c
def alC:bp→bp→M→ja:=λa b c=>ah (af (aj a)) λu=>ah (aF a c (0,[],0)) λd=>ah (aF b c (0,[],0)) λe=>ah (af (aj b)) λf=>aB (c<u) (al (decide (0≤c∧c<u)&&decide (0≤c∧c<f)) (ag (!(d.1==e.1&&(decide (d.2.1=e.2.1)&&(d.2.2==e.2.2&&W)))) (au (.inl I)) (ay (aq c)))) (au (.inr ()))
def PU:bp→bp→Zi:=λa b=>ag (af (aj a) !=af (aj b)) (J I) (aM (alC a b) 0 λc=>cC c (λd=>J d) λe=>J W)
def J3:bp→bp→Zi:=λa b=>ak (PU a b) λc=>J c
def J4:i7→Q i7:=λs=>ag (!s.isSome) (J O) (al (W&&decide (nat_lit 0+(aj s).length≤nat_lit 68719476736)) (J (J ([]++aj s))))
def DY:fa→M→jZ→nQ→eL→zk→Q (zk⊕zq⊕cV):=λj m k l i e=>ah (aF k e.2.2 (0,0)) λu=>ah (aF j.2 m (I,[],[])).2.2 λf=>ah (aF i.1 u.1 0) λc=>ah (af (aj i.1)) λg=>ah e.2.1 λa=>ah (aV a c f) λd=>ah e.2.2 λb=>bq b (aj k) (bY b (aj l) (ak (JT j.1 (aF l b O)) λh=>ag (h.2 !=0) (au (.inl (h.2,0,O))) (al (decide (0≤u.1∧u.1<g)&&(decide (0≤a∧a≤c∧c≤af f)&&(cr (d.length+h.1.length)&&cr (e.1.length+(d++h.1).length)))&&decide (0≤u.2∧u.2<g)) (ay (e.1++(d++h.1),aF i.1 u.2 0,aq b))))) (au (.inr (e.1,a)))
def mS:fa→M→jZ→nQ→IC:=λc f k m=>ah (aF c.2 f (I,[],[])).2.2 λu=>ah (0,O) λa=>ah (J (a,1)) λh=>ah (af u) λd=>ah (0+f.toNat) λe=>ak (xh c) λv=>ag (v !=0) (J (a,v)) (ak (xi c f) λl=>ag (l.2 !=0) (J (a,l.2)) (ag (af (aj m) !=af (aj k)) h (ak (tZ l.1) λw=>ak (JO k w) λx=>ag (!x) h (bY f (aj c.2) (ak (DH c.1 u) λn=>ag (n.2 !=0) (J (a,n.2)) (aM (DY c f k m n) ([],0,0) λy=>cC y (λo=>ah o.2.2.isSome λu=>al (u==u) (J (o.2,o.1))) λg=>ah (aV g.2 d u) λu=>al (decide (0≤g.2∧g.2≤d∧d≤d)&&cr (g.1.length+u.length)) (ak (Dw c.1 (g.1++u)) λp=>ag (p.2 !=0) (J (a,p.2)) (ak (JY l.1 k m) λq=>ak (J2 q) λr=>ak (J3 p.1 r) λs=>ag (!s) (J (a,11)) (ak (J4 c.2) λi=>ah (aj i) λb=>ah (c.1,J (b.set e ((b.getD e (I,[],[])).1,(b.getD e (I,[],[])).2.1,g.1++u))) λu=>ah i.isSome λj=>al (j==j) (al (decide (0≤f∧f<af b)&&bw e b.length) (ak (rE u) λt=>aB (af t>65536) (J (a,3)) (J (u,0)))))))))))))
def PV:bp→cJ×eL→Zj:=λf a=>ah (aj a.2.1) λu=>ah (aF f a.2.2 (0,[],0)) λc=>ah (aR (af u-1)) λb=>ah (aj a.1).length λi=>ah u.length λd=>ah (eQ (aV 0 b) a.2.1) λl=>ah a.2.1.isSome λj=>ah (aq a.2.2) λe=>ah (af u) λk=>ah (c.1==3) λg=>ah a.1.isSome λh=>bq a.2.2 (aj f) (ag (c.1==2) (al (decide (0+d=d)&&(decide (d+aY≤nat_lit 68719476736)&&j==j)) (ay (a.1,J (u++[c.2.2]),e))) (ag (g&&k==0) (al (decide (0+i=i)&&(decide (i+aY≤nat_lit 68719476736)&&h==h)) (ay (J (aj a.1++[c.2.2]),a.2.1,e))) (al (!g||decide (0≤b∧b<k)&&bw (0+b.toNat) d) (ag (g&&u.getD (0+b.toNat) 0==c.2.2) (al (decide (0≤(0:M)∧0≤b∧b≤k)&&l.isSome==j) (ay (a.1,l,e))) (ag g (au (.inl (O,O,I))) (ay (a.1,a.2.1,e))))))) (au (.inr (a.1,a.2.1)))
def DZ:bp→Zk:=λf=>aM (PV f) (O,O,0) λc=>cC c (λb=>al (b.1.isSome==b.1.isSome) (al (b.2.1.isSome==b.2.1.isSome) (J b))) λa=>al (a.1.isSome==a.1.isSome&&a.2.isSome==a.2.isSome) (al (a.1.isSome==a.1.isSome) (al (a.2.isSome==a.2.isSome) (J (a.1,a.2,W))))
def hV(l:L (M×L ai×M)):L (L ai):=(l.filter λx=>x.1==5).map (·.2.1)
def J5:L (L ai)→Q (L (L ai))|[]=>O|a::l=>J ((a::l).mergeSort λx y=>decide (x≤y))
def ui:Q (L (M×L ai×M))→Q (Q (L (L ai))):=λf=>if decide ((f.getD []).length<4294967296)=W then J (J5 (hV (f.getD [])))else O
def D0:bp→ip→wJ:=λf a=>bq a.2 (aj f) (ak (pc (aF f a.2 (0,[],0))) λb=>al (!b||decide (0+(aj a.1).length=(aj a.1).length)&&(decide ((aj a.1).length+aY≤nat_lit 68719476736)&&a.1.isSome==a.1.isSome)) (ay (ag b (J (aj a.1++[aF f a.2 (0,[],0)])) a.1,aq a.2))) (au a.1)
def D6:bp→ka:=λf=>aM (D0 f) (O,0) λa=>al (a.isSome==a.isSome) (al (a.isSome==a.isSome) (J a))
def Zz:cJ→cJ→M→ja:=λa b c=>aB (c<af (aj a)) (al (decide (0≤c∧c<af (aj a))&&decide (0≤c∧c<af (aj b))) (ag (aF a c 0 !=aF b c 0) (au (.inl I)) (ay (aq c)))) (au (.inr ()))
def D7:cJ→cJ→Zi:=λa b=>ag (af (aj a) !=af (aj b)) (J I) (aM (Zz a b) 0 λc=>cC c (λd=>J d) λe=>J W)
def alD:jY→jY→M→ja:=λa b c=>aB (c<af (aj a)) (al (decide (0≤c∧c<af (aj a))&&decide (0≤c∧c<af (aj b))) (ag (!decide (aF a c []=aF b c [])) (au (.inl I)) (ay (aq c)))) (au (.inr ()))
def J6:jY→jY→Zi:=λa b=>ag (af (aj a) !=af (aj b)) (J I) (aM (alD a b) 0 λc=>cC c (λd=>J d) λe=>J W)
noncomputable section
def Ea:bp→L zn×M→Cw:=λb a=>if decide (a.snd<af (b.getD []))=W then if(decide ((0:M)≤a.snd∧a.snd<af (b.getD []))&&decide ((0:M)≤(↑(kP ((Ty.int aO).pair (Ty.str.pair (Ty.int aO))) ((b.getD []).getD a.snd.toNat ((0:M),[],(0:M))) a.fst):M)∧(↑(kP ((Ty.int aO).pair (Ty.str.pair (Ty.int aO))) ((b.getD []).getD a.snd.toNat ((0:M),[],(0:M))) a.fst):M)<af (lG ((Ty.int aO).pair (Ty.str.pair (Ty.int aO))) ((b.getD []).getD a.snd.toNat ((0:M),[],(0:M))) (0:M) a.fst)))=W then J (mf (nI (aO.wrap ((cF ((Ty.int aO).pair (Ty.str.pair (Ty.int aO))) ((b.getD []).getD a.snd.toNat ((0:M),[],(0:M))) a.fst).getD (0:M)+(1:M))) (↑(kP ((Ty.int aO).pair (Ty.str.pair (Ty.int aO))) ((b.getD []).getD a.snd.toNat ((0:M),[],(0:M))) a.fst):M).toNat (lG ((Ty.int aO).pair (Ty.str.pair (Ty.int aO))) ((b.getD []).getD a.snd.toNat ((0:M),[],(0:M))) (0:M) a.fst),aO.wrap (a.snd+(1:M))))else O else J (kJ a.fst)
def Eb:bp→L zn×M→Cw:=λb a=>if decide (a.snd<af (b.getD []))=W then if(decide ((0:M)≤a.snd∧a.snd<af (b.getD []))&&decide ((0:M)≤(↑(kP ((Ty.int aO).pair (Ty.str.pair (Ty.int aO))) ((b.getD []).getD a.snd.toNat ((0:M),[],(0:M))) a.fst):M)∧(↑(kP ((Ty.int aO).pair (Ty.str.pair (Ty.int aO))) ((b.getD []).getD a.snd.toNat ((0:M),[],(0:M))) a.fst):M)<af (lG ((Ty.int aO).pair (Ty.str.pair (Ty.int aO))) ((b.getD []).getD a.snd.toNat ((0:M),[],(0:M))) (0:M) a.fst)))=W then J (mf (nI (aO.wrap ((cF ((Ty.int aO).pair (Ty.str.pair (Ty.int aO))) ((b.getD []).getD a.snd.toNat ((0:M),[],(0:M))) a.fst).getD (0:M)-(1:M))) (↑(kP ((Ty.int aO).pair (Ty.str.pair (Ty.int aO))) ((b.getD []).getD a.snd.toNat ((0:M),[],(0:M))) a.fst):M).toNat (lG ((Ty.int aO).pair (Ty.str.pair (Ty.int aO))) ((b.getD []).getD a.snd.toNat ((0:M),[],(0:M))) (0:M) a.fst),aO.wrap (a.snd+(1:M))))else O else J (kJ a.fst)
def J7:L zn→L U→U→bu→zr:=λb c a d=>al (bw a b.length) (ag ((b.getD a ((0,[],0),0)).2 !=0) (au (.inl I)) (ay ()))
def PW:L U→bu→zr:=λa b=>au (.inr ())
def qp:bp→bp→Zi:=λsource target=>ak (DZ source) λa=>ak (DZ target) λb=>ag (!a.2.2) (J I) (ag (!b.2.2) (J I) (ak (D7 a.1 b.1) λh=>ag (!h) (J I) (ak (D7 a.2.1 b.2.1) λi=>ag (!i) (J I) (ak (D6 source) λj=>aM (Ea j) ([],0) λk=>ak (D6 target) λl=>aM (Eb l) (k,0) λg=>ak (qf g.length (J7 g) PW ()) λm=>cC m (λc=>J c) λn=>ak (ui source) λd=>ak (ui target) λe=>ak (J6 d e) λf=>J f))))
end
def J8:jA→Zi:=λs=>ah s.2.2.2.2.2.2 λu=>ah (decide (u.1=[])) λc=>ah (!u.2.1 !=0) λb=>ah (c&&decide (u.2.1≥1)) λd=>ah s.2.2.2.2 λa=>ag (a.1==0) (J (c&&(b&&af (aj a.2.1)==0))) (ag (a.1==1) (J (c&&b)) (ag (a.1==2) (ak (nV u.1) λe=>J (e&&b)) (ag (a.1==3) (ak (nV u.1) λf=>J (ag f (b||d) d)) (J I))))
noncomputable section
def J9:jA→bp→jX→fc:=λs source v=>ak (J8 s) λb=>ag (!b) (J 8) (ak (xj s.2.2.2.2.2.1) λa=>ag (a !=0||s.2.2.2.2.1 !=3) (J a) (ak (qp source s.2.2.2.2.2.1) λc=>ag (!c) (J 7) (bY s.2.1 (aj v.1) (ak (mS (aF v.1 s.2.1 (0,O)) s.2.2.1 (J [s.2.2.2.1]) (J [s.2.2.2.2.2.1])) λd=>J d.2))))
end
def Ka:jA→jA→Zi:=λa b=>ag (a.2.1 !=b.2.1) (J (decide (a.2.1<b.2.1))) (ag (a.2.2.1 !=b.2.2.1) (J (decide (a.2.2.1<b.2.2.1))) (J (decide (a.2.2.2.1.2≤b.2.2.2.1.1))))
noncomputable section
def Ec:M→L M→jX→fc:=λi seen v=>ah (aF v.2.1 i (0,0,0,(0,0),0,O,[],0,I)) λu=>ah (aj v.2.1) λb=>ah (ak (uf i v) λf=>ak (J9 u f v) λg=>J g) λc=>ah (cF ((Ty.int aO).pair (Ty.int aO)) (u.2.1,u.2.2.1) v.2.2.2) λd=>ah u.2.2.2.1 λa=>ah O λe=>bY i b (ag (!d.isSome) (J 6) (aB (u.1<1) (J 1) (aB (u.1>aR (v.2.2.1-1)) (J 1) (aB (a.1<0) (J 1) (aB (a.2≤a.1) (J 1) (ak (tZ (d.getD e)) λh=>aB (a.2>h) (J 1) (ag (oQ (Ty.int aO) u.1 seen) (J 5) (aB (i>0) (bY (aR (i-1)) b (ak (Ka (aF v.2.1 (aR (i-1)) (0,0,0,(0,0),0,e,[],0,I)) u) λj=>ag (!j) (J 11) c)) c))))))))
end
noncomputable section
def Kb:eg→M→Q (M⊕bu×M⊕bu):=λp a=>bq a (aj p.1) (ak (xh (aF p.1 a (0,O))) λb=>ag (b !=0) (au (.inl ((),b))) (ay (aq a))) (au (.inr ()))
def Ed:M×jX→Zm→L U→U→jX→Q (jX⊕jX):=λc a d i16 b=>if bw i16 a.length=W then J (mf (b.fst,b.snd.fst,b.snd.snd.fst,match(cF ((Ty.int aO).pair (Ty.int aO)) (c.fst,(a.getD i16 ((0:M),O)).fst) b.snd.snd.snd).isSome with|true=>eI ((Ty.int aO).pair (Ty.int aO)) (c.fst,(a.getD i16 ((0:M),O)).fst) (a.getD i16 ((0:M),O)).snd b.snd.snd.snd|false=>nH ((Ty.int aO).pair (Ty.int aO)) (c.fst,(a.getD i16 ((0:M),O)).fst) (a.getD i16 ((0:M),O)).snd b.snd.snd.snd))else O
def PX:L U→jX→Q (jX⊕jX):=λa b=>au b
def Ee:eg→M×jX→Q (M×jX⊕jX):=λp a=>bq a.1 (aj p.1) (ak (JJ (aF p.1 a.1 (0,O))) λb=>ak (qf b.length (Ed a b) PX a.2) λc=>ay (aq a.1,c)) (au a.2)
def Kc:jX→L M×M→Q (L M×M⊕bu×M⊕bu):=λb a=>bq a.2 (aj b.2.1) (ak (Ec a.2 a.1 b) λc=>ag (c !=0) (au (.inl ((),c))) (ay (mG (Ty.int aO) (aF b.2.1 a.2 (0,0,0,(0,0),0,O,[],0,I)).1 a.1,aq a.2))) (au (.inr ()))
def Kd:eg→Q Pg:=λp=>ag (decide (af (aj p.1)>16)||decide (af (aj p.2.1)>512)) (J (3,I,O,O,0,[])) (aM (Kb p) 0 λc=>cC c (λd=>J (d.2,I,O,O,0,[])) λg=>ag (decide (p.2.2<1)||decide (p.2.2>1073741824)) (J (1,I,O,O,0,[])) (ak (JM p) λa=>aM (Ee p) (0,a.1,a.2.1,a.2.2,[]) λb=>aM (Kc b) ([],0) λe=>cC e (λf=>J (f.2,I,O,O,0,[])) λh=>J (0,W,b)))
end
noncomputable section
def qq:eg→M→Q Pg:=λp number=>ak (Kd p) λa=>ag a.2.1 (ag (a.1 !=0) (J (a.1,I,O,O,0,[])) (ag (decide (number<0)||decide (number≥af (aj a.2.2.1))) (J (6,I,O,O,0,[])) (J (0,W,a.2.2)))) (ag (a.1 !=0) (J (a.1,I,O,O,0,[])) (bJ (number<0) (J (6,I,O,O,0,[]))))
end
abbrev xk:Type:=M×M×M×(M×M)×M×Q (L (M×L ai×M))×L ai×M×ao
abbrev kN:Type:=Q (L (M×Q (L (ao×L ai×L ai))))×Q (L xk)×M×L ((M×M)×Q (L (M×L ai×M)))
def bH(segs:L xk)(i:U):xk:=segs.getD i (0,0,0,(0,0),0,O,[],0,I)
def lR(segs:L xk)(keep:U→ao)(num p:M):L U:=(hY segs.length).filter λi=>decide ((bH segs i).2.1=num)&&(keep i&&decide ((bH segs i).2.2.1=p))
def jC(a:M→L U)(rg:U→M×M)(tg:U→Q (L (M×L ai×M))):L M→M×Q (L (ao×L ai×L ai))→Q ((M×Q (L (ao×L ai×L ai)))×M)|[],d=>J (d,0)|u::us,d=>if a u=[]then jC a rg tg us d else match mS d u (J ((a u).map rg)) (J ((a u).map tg))with|none=>O|some (b,e)=>if e=0 then jC a rg tg us b else J ((0,O),e)
def qr(x:M):ao:=decide (-9223372036854775808≤x∧x≤9223372036854775807)
def zU(keep:U→ao)(num:M)(v:kN):Q ((M×Q (L (ao×L ai×L ai)))×M):=if(decide (0≤num∧num<af (v.1.getD []))&&(decide ((v.2.1.getD []).length≤512)&&(v.2.1.getD []).all λs=>qr s.2.2.1))=W then match lQ ((v.1.getD []).getD num.toNat (0,O))with|none=>O|some us=>if(decide ((us.getD []).length≤4294967296)&&(us.getD []).all qr)=W then jC (lR (v.2.1.getD []) keep num) (λi=>(bH (v.2.1.getD []) i).2.2.2.1) (λi=>(bH (v.2.1.getD []) i).2.2.2.2.2.1) (us.getD []) ((v.1.getD []).getD num.toNat (0,O))else O else O
def uj(num:M)(v:kN):Q ((M×Q (L (ao×L ai×L ai)))×M):=zU (λi=>decide ((bH (v.2.1.getD []) i).2.2.2.2.1=3)) num v
noncomputable section
def alE:M→Pg→eL→zm:=λnumber f a=>ah (aF f.2.2.2.1 a.2 (0,0,0,(0,0),0,O,[],0,I)) λu=>ah (af (aj f.2.2.2.1)) λc=>ah (aj a.1).length λb=>ah (u.2.1==number&&u.2.2.2.2.1 !=3) λd=>ah a.1.isSome λe=>aB (a.2<c) (al (decide (0≤a.2∧a.2<c)&&(!d||decide (0+b=b)&&(decide (b+aY≤nat_lit 68719476736)&&e==e))) (ay (ag d (J (aj a.1++[u.1])) a.1,aq a.2))) (au a.1)
def Ke:eg→M→rx:=λp number=>ak (qq p number) λb=>ag b.2.1 (ag (b.1 !=0) (J O) (aM (alE number b) (O,0) λa=>al (a.isSome==a.isSome) (al (a.isSome==a.isSome) (J a)))) (al (b.1 !=0) (J O))
end
noncomputable section
def Kf:M→jA→jX→Zi:=λi s v=>ag (s.2.2.2.2.1 !=0) (ak (uf i v) λa=>ak (qp a s.2.2.2.2.2.1) λb=>J b) (J I)
end
noncomputable section
def qt(v:kN)(i:U):Q ao:=Kf (i:M) (bH (v.2.1.getD []) i) v
def xm(num:M)(v:kN):Q ((M×Q (L (ao×L ai×L ai)))×M):=if((hY (v.2.1.getD []).length).all λi=> !decide ((bH (v.2.1.getD []) i).2.1=num)||(qr (bH (v.2.1.getD []) i).2.1&&(qt v i).isSome))=W then zU (λi=>(qt v i).getD I) num v else O
end
noncomputable section
def Kg:eg→M→Pe:=λp number=>ak (qq p number) λa=>ag a.2.1 (ag (a.1 !=0) (J ([],a.1)) (ak (xm number a.2.2) λb=>ak (rE b.1) λc=>J (c,b.2))) (al (a.1 !=0) (J ([],a.1)))
end
def ZA:M→aZ→rx:=λa raw=>ag (a==1) (ak (DE raw) λb=>J b.1) (ag (a==2) (ak (DF raw) λc=>J c.1) (ag (a==3) (ak (DG raw) λd=>J d.1) (J O)))
def ZB:M→bp→zo:=λa f=>ag (a==1) (ak (DM f) λb=>J b.1) (ag (a==2) (ak (DO f) λc=>J c.1) (ag (a==3) (ak (DP f) λd=>J d.1) (J [])))
def ZC:Q (L cJ)→dz→tL:=λl a=>bq a.2 (aj l) (ay (aR (a.1+af (aj (aF l a.2 O))),aq a.2)) (au a.1)
def Ki:Q (L cJ)→Zi:=λl=>aM (ZC l) (0,0) λa=>J (decide (a>160))
def PY:cJ→Q eL:=λl=>J (l,0)
def PZ:M→M→fc:=λx n=>bJ (n≠0) (J (aB (x.tmod n<0) (aR (x.tmod n+n)) (x.tmod n)))
def gD:M→eL→Q dz:=λn s=>al (!decide (s.2<af (aj s.1))||decide (0≤s.2∧s.2<af (aj s.1))) (ak (PZ (aB (s.2<af (aj s.1)) (aF s.1 s.2 0) 0) n) λa=>J (a,aq s.2))
def Kj:eL→Pe:=λs=>ak (gD 4 s) λa=>al (decide (0≤a.1∧a.1<4)&&bw (0+a.1.toNat) (nat_lit 4)) (J ([[97,110,110],[98,111,98],[101,118,101],[114,111,98]].getD (0+a.1.toNat) [],a.2))
def Kk:eL→Pe:=λs=>ak (gD 24 s) λa=>al (decide (0≤a.1∧a.1<24)&&bw (0+a.1.toNat) (nat_lit 24)) (J ([[114,101,100],[99,97,114],[82,101,100],[97],[99,97,114,115],[49,44,53],[50,50],[100,111,110,39,116],[46],[33],[32],[32,32],[60],[38],[123],[34],[92],[120,45,121],[10],[61],[125],[62],[9],[98]].getD (0+a.1.toNat) [],a.2))
def P0:eL→zk→Pk:=λs a=>aB (a.2.1>0) (ak (Kk (s.1,a.2.2)) λb=>ag (!decide (a.1=[])) (ak (gD 3 (s.1,b.2)) λc=>al ((!decide (c.1>0)||cr (a.1.length+aY))&&cr ((aB (c.1>0) (a.1++[32]) a.1).length+b.1.length)) (ay (aB (c.1>0) (a.1++[32]) a.1++b.1,aR (a.2.1-1),c.2))) (fW (a.1.length+b.1.length) (ay (a.1++b.1,aR (a.2.1-1),b.2)))) (au (a.1,a.2.2))
def Kl:M→eL→Pe:=λn s=>ak (gD (aq n) s) λa=>aM (P0 s) ([],a) λb=>J b
def P1:bp→eL→nS→Q (nS⊕ip):=λsource s a=>ah [[114,111,116],[100,97,115,32,65,117,116,111],[],[101,105,110,32]++(aF source a.2.1 (0,[],0)).2.1,(aF source a.2.1 (0,[],0)).2.1] λu=>ah (aF source a.2.1 (0,[],0)) λb=>ah (J [b]) λd=>ah (aq a.2.1) λc=>bq a.2.1 (aj source) (ag (b.1==1) (fW (nat_lit 4+b.2.1.length) (ak (gD 5 (s.1,a.2.2)) λe=>al (decide (0≤e.1∧e.1<af u)&&bw (0+e.1.toNat) (nat_lit 5)) (ak (kc a.1 (J [(b.1,u.getD (0+e.1.toNat) [],b.2.2)])) λh=>ay (h,c,e.2)))) (ak (gD 3 (s.1,a.2.2)) λf=>ag (f.1==0) (ak (Kl 2 (s.1,f.2)) λg=>ak (kc a.1 (J [(1,g.1,0)])) λi=>ak (kc i d) λj=>ay (j,c,g.2)) (ak (kc a.1 d) λk=>ay (k,c,f.2)))) (au (a.1,a.2.2))
def Km:bp→eL→Q ip:=λsource s=>aM (P1 source s) (O,0,s.2) λa=>J a
def zX:jA→jA→Zi:=λa b=>ag (a.2.1 !=b.2.1) (J (decide (a.2.1>b.2.1))) (ag (a.2.2.1 !=b.2.2.1) (J (decide (a.2.2.1>b.2.2.1))) (J (decide (a.2.2.2.1.1≥b.2.2.2.1.2))))
def Kn:cJ→M→M→ja:=λl n a=>bq a (aj l) (ag (aF l a 0==n) (au (.inl W)) (ay (aq a))) (au (.inr ()))
def Ko:cJ→M→Zi:=λl n=>aM (Kn l n) 0 λa=>cC a (λb=>J b) λc=>J I
def Kp:fa→M→Zi:=λd part=>ak (CM d) λa=>ak (Ko a part) λb=>J b
def Ef:eg→M→M→qj:=λc d b=>ah (eQ (aV 0 d) c.2.1) λu=>ah (0,0,0,(0,0),0,O,[],0,I) λa=>bq b (aj u) (ag ((aF u b a).1==(aF c.2.1 d a).1) (au (.inl 5)) (ay (aq b))) (au (.inr ()))
def zY:eg→M→fc:=λd c=>ah (aF d.2.1 c (0,0,0,(0,0),0,O,[],0,I)) λu=>ah (aj d.2.1) λe=>ah (aF d.1 u.2.1 (0,O)) λf=>ah (aj d.1) λg=>ah u.2.2.2.1 λa=>ah u.2.1 λb=>bY c e (aB (b<0) (J 6) (aB (b≥af g) (J 6) (bY b g (ak (Kp f u.2.2.1) λl=>ag (!l) (J 6) (bY b g (ak (lc f u.2.2.1) λk=>ah (ak (kZ k.1 a.1 a.2) λi=>ak (zL f i.1 u) λj=>J j) λh=>aB (u.1<1) (J 1) (aB (u.1≥d.2.2) (J 1) (aB (a.1<0) (J 1) (aB (a.2≤a.1) (J 1) (ak (lN k.1) λm=>aB (a.2>m) (J 1) (bJ (0≤(0:M)∧0≤c∧c≤af e) (aM (Ef d c) 0 λn=>cC n (λo=>J o) λq=>aB (c>0) (bY (aR (c-1)) e (ak (zX u (aF d.2.1 (aR (c-1)) (0,0,0,(0,0),0,O,[],0,I))) λp=>ag (!p) (J 11) h)) h))))))))))))
def Kq:eg→M→qj:=λp a=>bq a (aj p.1) (ak (rD (aF p.1 a (0,O))) λb=>ag (b !=0) (au (.inl b)) (ay (aq a))) (au (.inr ()))
def Kr:eg→M→qj:=λp a=>aB (a<af (aj p.2.1)) (ak (zY p a) λb=>ag (b !=0) (au (.inl b)) (ay (aq a))) (au (.inr ()))
def xn:eg→fc:=λp=>ag (decide (af (aj p.1)>16)||decide (af (aj p.2.1)>512)) (J 3) (aM (Kq p) 0 λa=>cC a (λb=>J b) λe=>ag (decide (p.2.2<1)||decide (p.2.2>1073741824)) (J 1) (aM (Kr p) 0 λc=>cC c (λd=>J d) λf=>J 0))
def mT:eg→jA→wK:=λp s=>ak (xn p) λa=>ag (a !=0) (J ((O,O,0),a)) (ak (tW p s) λb=>J b)
def Ks:eg→M→Zi:=λp i=>ah (af (aj p.2.1)) λu=>ah ((aF p.2.1 (aq i) (0,0,0,(0,0),0,O,[],0,I)).2.1==(aF p.2.1 i (0,0,0,(0,0),0,O,[],0,I)).2.1) λa=>ah (decide (0≤aq i∧aq i<u)) λb=>ah (0,0,0,(0,0),0,O,[],0,I) λc=>ah (decide (0≤i∧i<u)) λd=>ah (decide (aq i<u)) λu=>al (!u||b&&(d&&(!a||b&&d))) (J (u&&(a&&(aF p.2.1 (aq i) c).2.2.1==(aF p.2.1 i c).2.2.1)))
def Kt:eg→M→wK:=λm N=>ah (0,0,0,(0,0),0,O,[],0,I) λu=>ah (af (aj m.2.1)) λb=>ah m.2.1 λf=>ah (O,O,0) λn=>ah (aj m.1) λC=>ah O λF=>ah (W&&decide (nat_lit 0+C.length≤nat_lit 68719476736)) λD=>ah (J ([]++C)) λE=>ak (xn m) λH=>ag (H !=0) (J (n,H)) (ak (w6 m N) λc=>ah (aF f c u) λa=>ah (aj (dj (aj (eQ (aV 0 c) f)))) λo=>ah (aF f (aq c) u).2.2.2 λu=>ah (aj (eQ (aV 0 c) f)) λp=>ah (aB (a.2.2.2.2.2.2.1=[]) u.2.2.2.1 a.2.2.2.2.2.2.1) λq=>ah (aj (eQ (aV (aR (c+2)) b) f)) λg=>ah (q,ag a.2.2.2.2.2.2.2.2 0 0,a.2.2.2.2.2.2.2.2||u.2.2.2.2.2) λh=>ah (dj p).isSome λd=>ah (o++[(a.1,a.2.1,a.2.2.1,(a.2.2.2.1.1,u.1.2),0,F,h)]) λr=>ah (ag (!decide (q=[])) 2 1) λs=>ah (decide (0≤aR (c+2)∧aR (c+2)≤b∧b≤b)) λt=>ah (decide (0≤(0:M)∧0≤c∧c≤b)) λv=>ah (a.2.2.2.1.1,u.1.2) λw=>ah o.length λi=>ah (decide (p.length≤nat_lit 68719476736)) λx=>ah (decide (i+aY≤nat_lit 68719476736)) λy=>ah a.2.2.1 λj=>ah r.length λk=>ah a.2.1 λe=>ah (decide (0+i=i)) λz=>ah g.length λA=>ah (aq c) λB=>ah a.2.2.2 λl=>aB (c<0) (J (n,6)) (ak (Ks m c) λP=>ag (!P) (J (n,8)) (al (decide (0≤c∧c<b)&&decide (0≤B∧B<b)) (ag (l.2.1 !=0||u.2.1 !=0) (bY e C (ak (lc (aF m.1 e (0,O)) j) λR=>ak (kZ R.1 l.1.2 u.1.1) λS=>ak (kc l.2.2.1 S.1) λT=>ak (kc T u.2.2.1) λG=>ah (o++[(a.1,e,j,w,s,G,h)]).length λu=>ak (zE G) λK=>ag (K !=0) (J (n,K)) (al D (al (v&&(x&&(z&&(y&&(d==d&&(t&&(decide (0+u=u)&&decide (u+A≤nat_lit 68719476736)))))))) (J ((E,J (o++[(a.1,e,j,w,s,G,h)]++g),m.2.2),0)))))) (al D (al (v&&(x&&(z&&(y&&(d==d&&(t&&(decide (0+k=k)&&decide (k+A≤nat_lit 68719476736)))))))) (J ((E,J (r++g),m.2.2),0))))))))
def Eg:jA→Q (M×aZ):=λs=>ag (s.2.2.2.2.1==0) (J (0,[])) (ag (!decide (s.2.2.2.2.2.2.1=[])) (J (2,s.2.2.2.2.2.2.1)) (J (1,[])))
def Ku:eg→M→M→M→wK:=λv H C A=>ah (0,0,0,(0,0),0,O,[],0,I) λu=>ah (aj v.2.1) λw=>ah (J ((O,O,0),1)) λh=>ah v.2.1 λi=>ah (O,O,0) λs=>ah (aj v.1) λx=>ah (af w) λc=>ah v.2.2 λj=>ah (nat_lit 0+x.length) λD=>ak (xn v) λE=>ag (E !=0) (J (s,E)) (ak (w6 v H) λk=>ah (aF i k u) λu=>ah (aj (dj (aj (eQ (aV 0 k) i)))) λt=>ah (aj (eQ (aV 0 k) i)) λl=>ah (aj (eQ (aV (aq k) c) i)) λm=>ah u.2.2.2 λa=>ah (dj l).isSome λn=>ah (0,a.2.2.2.2.2) λd=>ah (aR (a.1.1+C)) λo=>ah u.2.2.1 λe=>ah u.2.1 λf=>ah (a.1.1,o) λy=>ah (o,a.1.2) λp=>ah t.length λg=>ah (aq k) λq=>ah a.2.2.1 λb=>ah (aR (a.1.2-a.1.1)) λz=>aB (k<0) (J (s,6)) (bY k w (aB (C<1) h (aB (C≥z) h (aB (A<0) h (ak (lN b) λK=>aB (A>K) h (ag (decide (c≥512)||decide (j≥1073741824)) (J (s,3)) (ak (kZ b 0 A) λN=>ak (lN b) λP=>ak (kZ b A P) λF=>ak (Eg u) λG=>ah (u.1,f,e,y,G.1,N.1,G.2,d) λr=>ak (Eg u) λB=>ah (t++[r,(j,f,e,p,B.1,F.1,B.2,d)]).length λu=>al (W&&decide (D≤nat_lit 68719476736)) (al (decide (0≤(0:M)∧0≤k∧k≤c)&&(decide (l.length≤nat_lit 68719476736)&&(decide (0+g=g)&&(decide (g+gP≤nat_lit 68719476736)&&(n==n&&(decide (0≤q∧q≤c∧c≤c)&&(decide (0+u=u)&&decide (u+m.length≤nat_lit 68719476736)))))))) (J ((J ([]++x),J (t++[r,(j,f,e,p,B.1,F.1,B.2,d)]++m),aq j),0)))))))))))
def Kv:eg→eL→wK:=λc k=>ah (0,0,0,(0,0),0,O,[],0,I) λu=>ah (aj c.2.1) λp=>ah c.2.1 λF=>ag (af p==0) (J (c,k.2)) (ak (gD (af p) k) λE=>ah (aF F E.1 u) λu=>ah u.2.2.2 λa=>ah a.2.2.2.2.2 λd=>ah u.2.2.1 λe=>ah u.2.1 λf=>ah a.2.2 λm=>bY E.1 p (ak (tV c E.1) λH=>ak (gD 8 (k.1,E.2)) λl=>ah (J (c,l.2)) λq=>ag (l.1==0) (ak (lN H) λR=>ak (gD (mI 1 (aR (R-1))) (k.1,l.2)) λK=>ak (lN m.1) λS=>ak (gD (aq S) (k.1,K.2)) λG=>ak (Ku c u.1 (aR (1+K.1)) G.1) λN=>ag (N.2 !=0) (J (c,G.2)) (J (N.1,G.2))) (ag (l.1==1) (ak (Kt c u.1) λP=>ag (P.2 !=0) q (J (P.1,l.2))) (ag (l.1==2) (ak (mT c (u.1,f,e,a.1,0,O,[],0,d)) λv=>ag (v.2 !=0) q (J (v.1,l.2))) (ag (l.1==3) (ak (mT c (u.1,f,e,a.1,a.2.1,m.1,m.2.1,m.2.2.1,!d)) λw=>ag (w.2 !=0) q (J (w.1,l.2))) (ak (gD 3 (k.1,l.2)) λx=>ah (aR (1+x.1)) λb=>ak (Km H (k.1,x.2)) λh=>ak (Kj (k.1,h.2)) λg=>ah (J (c,g.2)) λo=>ah (k.1,g.2) λi=>ag (b==1) (ag (b==3&&W) (ak (gD 5 i) λr=>ak (mT c (u.1,f,e,a.1,b,h.1,[],aR (1+r.1),d)) λy=>ag (y.2 !=0) (J (c,r.2)) (J (y.1,r.2))) (ak (mT c (u.1,f,e,a.1,b,h.1,[],0,d)) λz=>ag (z.2 !=0) o (J (z.1,g.2)))) (ag (b==3) (ak (gD 3 i) λn=>ah (ag (n.1==0) [] g.1) λj=>ag (b==3&&decide (j=[])) (ak (gD 5 (k.1,n.2)) λs=>ak (mT c (u.1,f,e,a.1,b,h.1,j,aR (1+s.1),d)) λA=>ag (A.2 !=0) (J (c,s.2)) (J (A.1,s.2))) (ak (mT c (u.1,f,e,a.1,b,h.1,j,0,d)) λB=>ag (B.2 !=0) (J (c,n.2)) (J (B.1,n.2)))) (ag (b==3&&decide (g.1=[])) (ak (gD 5 i) λt=>ak (mT c (u.1,f,e,a.1,b,h.1,g.1,aR (1+t.1),d)) λC=>ag (C.2 !=0) (J (c,t.2)) (J (C.1,t.2))) (ak (mT c (u.1,f,e,a.1,b,h.1,g.1,0,d)) λD=>ag (D.2 !=0) o (J (D.1,g.2)))))))))))
def qu:aZ→Q iH:=λt=>J (1,t,0)
def Kw:ao→eL→Q ip:=λtags s=>ah [(4,[98,114],2)] λu=>ah [(3,[98],1)] λf=>ah (qu [83,97,118,101,46]) λc=>ah (qu [79,112,101,110,32]) λd=>ak c λo=>ah (J [o]) λg=>ak (qu [114,101,100,32,99,97,114,32,50,50,33]) λp=>ah (J [p]) λh=>ak d λq=>ak (qu [32,110,111,119,46]) λr=>ah (J [q,(5,[110],0),r]) λi=>ak (qu [97,32,82,101,100,32,99,97,114,46]) λt=>ah (J [t]) λj=>ak c λv=>ah (J [v]) λk=>ak (qu [120]) λw=>ah (J [w]) λl=>ak c λx=>ah (J ((2,[98],1)::x::f)) λe=>ak d λy=>ak (qu [99,97,114,115]) λm=>ak (qu [46]) λn=>ah [g,h,i,j,k,l,e,J (y::(2,[98],1)::m::(3,[98],1)::n::u)] λu=>ah (af u) λa=>ak (gD (ag (!tags) (aR (a-2)) a) s) λb=>al (decide (0≤b.1∧b.1<a)&&bw (0+b.1.toNat) (nat_lit 8)) (J (u.getD (0+b.1.toNat) O,b.2))
def Kx:eL→dz→zk→Pk:=λs b a=>aB (a.2.1≥0) (ak (Kw (aR (1+b.1)==1) (s.1,a.2.2)) λc=>ak (Dd (aR (1+b.1)) c.1) λd=>al ((!!decide (a.1=[])||cr (a.1.length+aY))&&cr ((ag (!decide (a.1=[])) (a.1++[32]) a.1).length+d.1.length)) (ay (ag (!decide (a.1=[])) (a.1++[32]) a.1++d.1,aR (a.2.1-1),c.2))) (au (a.1,a.2.2))
def Ky:eL→dz→zk→Pk:=λs j a=>ah [60,112,62] λu=>ah [60,47,112,62,10] λh=>ah a.2.1 λc=>ah a.1.length λd=>aB (c>0) (ak (gD 3 (s.1,a.2.2)) λl=>aM (Kx s j) ([],l) λb=>ah ([10,34]++b.1) λe=>ah b.1.length λf=>ah (aR (c-1),b.2) λg=>ag (aR (1+j.1)==1) (al (cr (Zh+f)&&(cr ((u++b.1).length+nat_lit 5)&&cr (d+(u++b.1++h).length))) (ay (a.1++(u++b.1++h),g))) (ag (aR (1+j.1)==2) (ak (wW c) λk=>ah ([107]++k++[61]) λu=>ah (u++b.1++[10]) λi=>al (cr (aY+k.length)&&(cr (([107]++k).length+aY)&&(cr (u.length+f)&&(cr ((u++b.1).length+aY)&&cr (d+i.length))))) (ay (a.1++i,g))) (al (cr (gP+f)&&(cr (e.length+aY)&&cr (d+(e++[34]).length))) (ay (a.1++(e++[34]),g))))) (au (a.1,a.2.2))
def Kz:M→eL→IC:=λn s=>ak (gD (3:M) s) λa=>if(decide ((0:M)≤aO.wrap (aO.wrap ((1:M)+a.fst)-(1:M))∧aO.wrap (aO.wrap ((1:M)+a.fst)-(1:M))<(3:M))&&bw ((0:U)+(aO.wrap (aO.wrap ((1:M)+a.fst)-(1:M))).toNat) (nat_lit 3))=W then ak (gD (aO.wrap (n+(1:M))) (s.fst,a.snd)) λd=>ak (bA (Ky s a) ([[(60:ai),(104:ai),(116:ai),(109:ai),(108:ai),(62:ai)],[(35:ai),(32:ai),(99:ai),(10:ai)],[(116:ai),(101:ai),(120:ai),(116:ai)]].getD ((0:U)+(aO.wrap (aO.wrap ((1:M)+a.fst)-(1:M))).toNat) [],d)) λb=>ak (o8 (aO.wrap ((1:M)+a.fst)) b.fst) λc=>if(c.snd.snd !=(0:M))=W then ak (o8 (1:M) [(60:ai),(112:ai),(62:ai),(83:ai),(97:ai),(118:ai),(101:ai),(46:ai),(32:ai),(83:ai),(97:ai),(118:ai),(101:ai),(46:ai),(60:ai),(47:ai),(112:ai),(62:ai),(60:ai),(112:ai),(62:ai),(114:ai),(101:ai),(100:ai),(32:ai),(99:ai),(97:ai),(114:ai),(32:ai),(50:ai),(50:ai),(33:ai),(60:ai),(47:ai),(112:ai),(62:ai)]) λe=>J (e.fst,b.snd)else J (c.fst,b.snd)else O
def P2:eL→qi×dz→Q (qi×dz⊕qi×M):=λs a=>aB (a.2.1≥0) (ak (Kz 3 (s.1,a.2.2)) λb=>al (decide (0+(aj a.1).length=(aj a.1).length)&&(decide ((aj a.1).length+aY≤nat_lit 68719476736)&&a.1.isSome==a.1.isSome)) (ay (J (aj a.1++[b.1]),aR (a.2.1-1),b.2))) (au (a.1,a.2.2))
def KA:eL→Q (qi×M):=λs=>ak (gD 3 s) λb=>aM (P2 s) (O,b) λa=>al (a.1.isSome==a.1.isSome) (al (a.1.isSome==a.1.isSome) (J a))
def P3:eL→M×Iy→Q (M×Iy⊕Iy):=λs a=>aB (a.1>0) (ak (Kv a.2.2 (s.1,a.2.1)) λb=>ay (aR (a.1-1),b.2,b.1)) (au a.2)
def KB:M→eL→wK:=λn s=>ak (KA s) λa=>ak wN λb=>al (b.isSome==b.isSome) (ak (zC a.1 b) λc=>ag (c.2 !=0) (J ((O,O,1),a.2)) (ak (gD (aq n) (s.1,a.2)) λd=>aM (P3 s) (d.1,d.2,c.1) λe=>J (e.2,e.1)))
def KC:cJ→Q eg:=λl=>ak (PY l) λa=>ak (KB 10 a) λb=>J b.1
def qv:eg→M→ao→Zi:=λp i a=>ah (aF p.2.1 i (0,0,0,(0,0),0,O,[],0,I)).2.2.2.2 λu=>bY i (aj p.2.1) (ag (u.1==3) (J W) (ag a (ag (u.1 !=0) (ak (tV p i) λb=>ak (w7 b u.2.1) λc=>J c) (J I)) (J I)))
def Eh:eg→M→ao→cJ→zq→jZ×nQ×M→Q (jZ×nQ×M⊕jZ×nQ):=λp b c k l a=>ah (aF p.2.1 a.2.2 (0,0,0,(0,0),0,O,[],0,I)).2 λu=>ah (aj a.2.1) λf=>ah (ay (a.1,a.2.1,aq a.2.2)) λg=>ah (aj a.1).length λd=>ah a.2.1.isSome λh=>ah f.length λe=>ah a.1.isSome λi=>bq a.2.2 (aj p.2.1) (ag (u.1==b) (ag (u.2.1==aF k l.1 0) (ak (qv p a.2.2 c) λj=>al (!j||decide (0+d=d)&&(decide (d+aY≤nat_lit 68719476736)&&i==i)&&(decide (0+e=e)&&(decide (e+aY≤nat_lit 68719476736)&&h==h))) (ay (ag j (J (aj a.1++[u.2.2.1])) a.1,ag j (J (f++[u.2.2.2.2.1])) a.2.1,aq a.2.2))) g) g) (au (a.1,a.2.1))
def zZ:eg→M→ao→cJ→zq→Q (zq⊕zq⊕fa):=λp a b e c=>bq c.1 (aj e) (aM (Eh p a b e c) (O,O,0) λd=>ag (af (aj d.1)==0) (ay (aq c.1,c.2)) (al (d.1.isSome==d.1.isSome) (al (d.2.isSome==d.2.isSome) (ak (zK c.2 (aF e c.1 0) d.1 d.2) λf=>ag (f.2 !=0) (au (.inl (f.2,0,O))) (ay (aq c.1,f.1)))))) (au (.inr c.2))
def rI:eg→M→ao→IC:=λp a b=>ak (xn p) λd=>ag (d !=0) (J ((0,O),d)) (ag (decide (a<0)||decide (a≥af (aj p.1))) (J ((0,O),6)) (bY a (aj p.1) (ak (CM (aF p.1 a (0,O))) λe=>aM (zZ p a b e) (0,aF p.1 a (0,O)) λf=>cC f (λc=>al (c.2.2.isSome==c.2.2.isSome) (J (c.2,c.1))) λg=>J (g,0))))
def Tn:eg→M→Pe:=λp a=>ak (rI p a W) λb=>ag (b.2 !=0) (J ([],b.2)) (ak (wV b.1) λc=>J (c,0))
def anF:M→fc:=λn=>J (aR ((aR (n+16)).tdiv 8))
def anH:aZ→dz→tL:=λsep a=>aB (a.2<af sep) (al (decide (0≤a.2)&&cu a.2 sep) (ay (ni.wrap (ni.wrap (a.1*16777619)+ni.wrap (aN (bL sep a.2 0))),aq a.2))) (au a.1)
def anI:nP→Q (nP⊕M):=λa=>aB (a.2.2>0) (ay (ag (ez aO a.2.2 1 !=0) (ni.wrap (a.1*a.2.1)) a.1,ni.wrap (a.2.1*a.2.1),a.2.2.fdiv 2)) (au a.1)
def aam:aZ→Q dz:=λsep=>aM (anH sep) (0,0) λa=>aM anI (1,16777619,af sep) λb=>J (a,b)
def anJ:aZ→aZ→dz→tL:=λs sep a=>aB (a.2<af sep) (al (decide (0≤a.2)&&cu a.2 s) (ay (ni.wrap (ni.wrap (a.1*16777619)+ni.wrap (aN (bL s a.2 0))),aq a.2))) (au a.1)
def anK:aZ→aZ→dz→dz→Q (dz⊕M⊕bu):=λs sep f a=>ah (ni.wrap (ni.wrap (ni.wrap (a.1*16777619)+ni.wrap (aN (bL s a.2 0)))-ni.wrap (f.2*ni.wrap (aN (bL s (aR (a.2-af sep)) 0))))) λu=>ah (aR (aq a.2-af sep)) λb=>ah (aq a.2) λc=>ah (aR (a.2-af sep)) λd=>ah (af s) λe=>aB (a.2<e) (al (decide (0≤a.2)&&cu a.2 s) (al (decide (0≤d)&&cu d s) (al (!u==f.1||decide (0≤b∧b≤c∧c≤e)) (ag (u==f.1&&decide (aV b c s=sep)) (au (.inl b)) (ay (u,c)))))) (au (.inr ()))
def anL:aZ→aZ→fc:=λs sep=>ak (aam sep) λa=>aM (anJ s sep) (0,0) λb=>al (!b==a.1||decide (0≤(0:M)∧0≤af sep∧af sep≤af s)) (ag (b==a.1&&decide (aV 0 (af sep) s=sep)) (J 0) (aM (anK s sep a) (b,af sep) λc=>cC c (λd=>J d) λe=>J (-1:M)))
def Ei:eg→M→Pe:=λp a=>ak (rI p a I) λb=>ag (b.2 !=0) (J ([],b.2)) (ak (wV b.1) λc=>J (c,0))
end Go.Fd

namespace Go.Fd
open Go Go.Vs Go.Ve
noncomputable section
def xl:eg→M→Pe:=λp number=>ak (qq p number) λa=>ag a.2.1 (ag (a.1 !=0) (J ([],a.1)) (ak (uj number a.2.2) λb=>ak (rE b.1) λc=>J (c,b.2))) (al (a.1 !=0) (J ([],a.1)))
end
noncomputable section
def alF:M→Pg→tK×nP→cJ→nR→Q (nR⊕nR):=λm n q g a=>ah (aF n.2.2.2.1 a.2.2 (0,0,0,(0,0),0,O,[],0,I)) λu=>ah (decide (0+(aj a.1).length=(aj a.1).length)&&(decide ((aj a.1).length+aY≤nat_lit 68719476736)&&a.1.isSome==a.1.isSome)) λh=>ah u.2.2.2.1 λb=>ah (aR (a.2.1+aF g b.1 0)) λc=>ah (au a) λi=>ah (decide (0≤b.1∧b.1<af (aj g))) λj=>ah (aR (aF g b.2 0-aF g b.1 0)) λk=>ah (aj a.1) λl=>ah (af (aj g)) λo=>ah u.2.1 λf=>ah (aq a.2.2) λd=>ah u.2.2 λe=>bq a.2.2 (aj n.2.2.2.1) (ag (decide (f>m)||f==m&&decide (e.1>q.2.2.2)) i (aB (f<m) (ay (a.1,a.2.1,d)) (al (j&&(decide (0≤b.2∧b.2<o)&&j)) (ag (e.2.2.1==3) (ak (ZB (aF n.2.2.1 m (0,O)).1 e.2.2.2.1) λp=>al h (ay (J (l++[(u.1,c,aR (c+af p))]),aR (a.2.1+aR (aR (aR (c+af p)-c)-k)),d))) (al h (ay (J (l++[(u.1,c,aR (c+k))]),a.2.1,d))))))) i
def alG:M→Pg→tK×nP→nR→Q (nR⊕nR):=λc d e a=>ah (aF d.2.2.2.1 a.2.2 (0,0,0,(0,0),0,O,[],0,I)).2 λu=>ah (au a) λb=>bq a.2.2 (aj d.2.2.2.1) (ag (decide (u.1>c)||u.1==c&&decide (u.2.1>e.2.2.2)) b (bJ (u.1<c) (ay (a.1,a.2.1,aq a.2.2)))) b
def alH:M→Pg→tK×nP→Q (tK×nP⊕tK):=λe f b=>ah (aF f.2.2.1 e (0,O)) λu=>ah (aF u.2 b.2.2.2 (I,[],[])) λa=>ah (b.1,b.2.1,b.2.2.1) λd=>ah b.2.2.2 λc=>bq c (aj u.2) (ag a.1 (ak (ZA u.1 a.2.2) λi=>aM (alF e f b i) d λg=>ay (g.1,aR (g.2.1+af a.2.2),g.2.2,aq c)) (aM (alG e f b) d λh=>ay (h.1,aR (h.2.1+af a.2.2),h.2.2,aq c))) (au b.1)
def Kh:eg→M→Q (tK×M):=λe c=>ak (qq e c) λa=>ag a.2.1 (ag (a.1 !=0) (J (O,a.1)) (ak (uj c a.2.2) λd=>ag (d.2 !=0) (J (O,d.2)) (bY c (aj a.2.2.1) (aM (alH c a) (O,0,0,0) λb=>al (b.isSome==b.isSome) (al (b.isSome==b.isSome) (J (b,0))))))) (al (a.1 !=0) (J (O,a.1)))
end
noncomputable section
def zV:Zi:=ak (o8 3 [116,101,120,116,10,34,79,110,101,46,32,84,119,111,46,34]) λi=>ak wN λb=>al (b.isSome==b.isSome) (ak (zC (J [i.1]) b) λj=>ak (tW j.1 (1,0,0,(0,0),3,J [(1,[85,34,110,46],0)],[97,110,110],0,I)) λe=>ak (tW e.1 (2,0,0,(0,0),2,J [(1,[68,101,117,120,46],0)],[97,110,110],0,I)) λa=>ak (xl a.1 0) λf=>ak (Kg a.1 0) λg=>ak (Kh a.1 0) λh=>ag (e.2==0) (ag (a.2==0) (ag (f.2==0) (ag (g.2==0) (ag (h.2==0) (aB (f.1=[116,101,120,116,10,34,85,34,34,110,46,32,84,119,111,46,34]) (aB (g.1=[116,101,120,116,10,34,85,34,34,110,46,32,68,101,117,120,46,34]) (ak (Zx h.1 (J [(1,6,11),(2,12,16)])) λk=>ag k (ak (Ke a.1 0) λc=>ak (zD c (J [2])) λd=>J d) (J I)) (J I)) (J I)) (J I)) (J I)) (J I)) (J I)) (J I))
end
noncomputable section
def abu:M→eg→M→ja:=λa d b=>ah [a,0,1,2] λu=>ah (u.getD (0+b.toNat) 0) λc=>ah (af u) λu=>aB (b<u) (al (decide (0≤b∧b<u)&&bw (0+b.toNat) (nat_lit 4)) (ak (Kg d c) λe=>ak (Tn d c) λf=>ag (e.2 !=f.2|| !decide (e.1=f.1)) (au (.inl I)) (ay (aq b)))) (au (.inr ()))
def abq:cJ→M→Zi:=λl a=>ak (Ki (J [l])) λb=>ag b (ak zV λc=>J c) (ak (KC l) λd=>aM (abu a d) 0 λe=>cC e (λf=>J f) λh=>ak zV λg=>J g)
end
noncomputable section
end
end Go.Fd
namespace Go.PL
open Go Go.Vs Go.Ve
def scan{ρ:Type}(e:U→Q ρ):U→U→Q ρ
 |_,0=>O|i,k+1=>match e i with|some r=>J r|none=>scan e (i+1) k
theorem Ah{ρ:Type}{e:U→Q ρ}:∀(k i:U),scan e i k=O↔ ∀j,i≤j→j<i+k→e j=O
 |0,i=>by grind [scan]|k+1,i=>by
  unfold scan;constructor;intro h j h1 h2;cases a:e i with
  |some r=>rw[a]at h;cases h
  |none=>
   rw[a]at h;rcases Nat.eq_or_lt_of_le h1 with rfl|h3
   exact a;exact(Ah k (i+1)).1 h j h3 (by omega)
  intro h;rw[h i (dD _) (by omega)];exact(Ah k (i+1)).2 λj h1 h2=>h j (by omega) (by omega)
theorem xy{ρ:Type}{e:U→Q ρ}{r:ρ}:∀{k i:U},scan e i k=J r→∃j,i≤j∧j<i+k∧e j=J r
 |0,i,h=>by simp[scan]at h|k+1,i,h=>by
  unfold scan at h;cases a:e i with|some x=>grind|none=>rw[a]at h;let⟨j,h1,h2,h3⟩:=xy h;grind
def K9{ρ:Type}:Q ρ→ρ⊕bu|some r=>.inl r|none=>.inr ()
def uz{ρ:Type}(i:U)(o:Q ρ):Q (M⊕ρ⊕bu):=match o with|none=>J (.inl ((i+1:U):M))|some r=>J (.inr (.inl r))
def acd{ρ:Type}{f:M→Q (M⊕ρ⊕bu)}(n:U)(e:U→Q ρ) (step:∀i,i<n→f (i:M)=uz i (e i))(stop:f (n:M)=J (.inr (.inr ()))):∀(k i m:U),i+k=n→k<m→dy f m (i:M)=J (K9 (scan e i k))
 |0,i,m,hi,a=>by
  obtain⟨m,rfl⟩:∃q,m=q+1:=⟨m-1,by omega⟩;have:i=n:=by omega
  subst this;unfold dy;rw[stop];rfl
 |k+1,i,m,hi,a=>by
  obtain⟨m,rfl⟩:∃q,m=q+1:=⟨m-1,by omega⟩;unfold dy scan;rw[step i (by omega)];cases e i with|some r=>rfl|none=>exact acd n e step stop k (i+1) m (by omega) (by omega)
def asf{ρ:Type}{f:M→Q (M⊕ρ⊕bu)}(n:U)(e:U→Q ρ)(i:U) (step:∀i,i<n→f (i:M)=uz i (e i))(stop:f (n:M)=J (.inr (.inr ())))(hi:i≤n)(hn:n<fuel):bA f (i:M)=J (K9 (scan e i (n-i))):=acd n e step stop (n-i) i fuel (by omega) (by omega)
def ace{ρ:Type}{f:M→Q (M⊕ρ⊕bu)}(n:U)(e:U→Q ρ) (step:∀i,i<n→f (i:M)=uz i (e i))(stop:f (n:M)=J (.inr (.inr ())))(hn:n<fuel):bA f 0=J (K9 (scan e 0 n)):=asf n e 0 step stop (fm _) hn
theorem acf{ρ α:Type}(o:Q ρ)(k:ρ→Q α)(d:Q α):cC (K9 o) k (λ_=>d)=match o with|some r=>k r|none=>d:=by cases o<;>rfl
def acg{σ ρ:Type}{f:σ→Q (σ⊕ρ)}(n:U)(st:U→σ){r:ρ}(step:∀i,i<n→f (st i)=J (.inl (st (i+1))))(stop:f (st n)=J (.inr r)):∀(k i m:U),i+k=n→k<m→dy f m (st i)=J r
 |0,i,m,hi,a=>by obtain⟨m,rfl⟩:∃q,m=q+1:=⟨m-1,by omega⟩;simp_all [dy]
 |k+1,i,m,hi,a=>by obtain⟨m,rfl⟩:∃q,m=q+1:=⟨m-1,by omega⟩;unfold dy;rw[step i (by omega)];exact acg n st step stop k (i+1) m (by omega) (by omega)
def ep{σ ρ:Type}{f:σ→Q (σ⊕ρ)}(n:U)(st:U→σ){r:ρ}(step:∀i,i<n→f (st i)=J (.inl (st (i+1))))(stop:f (st n)=J (.inr r))(hn:n<fuel):bA f (st 0)=J r:=acg n st step stop n 0 fuel (by omega) (by omega)
def aL{α:Type}(l:L α):Q (L α):=match l with|[]=>O|x::r=>J (x::r)
@[simp] theorem bS{α:Type}(l:L α):(aL l).getD []=l:=by cases l<;>rfl
theorem Sl{α:Type}(l:L α)(x:α):J ((aL l).getD []++[x])=aL (l++[x]):=by cases l<;>rfl
def asg(b:ai):0≤aN b:=Int.natCast_nonneg _
def ash(b:ai):aN b<256:=by unfold aN;have:=b.toNat_lt;omega
def xA{s:L ai}{k:U}(h:k<s.length):(decide (0≤(k:M))&&bw ((k:M)).toNat s.length)=W:=by grind [cq]
theorem ke{s:L ai}{k:U}(h:k<s.length){d:ai}:s.getD ((k:M)).toNat d=s[k]:=by grind
end Go.PL
namespace Go.Fd
open Go Go.Vs Go.Ve Go.PL
def uA{α ρ:Type}{f:M→Q (M⊕ρ⊕bu)}(s:L α)(ok:α→ao)(r:ρ)(a:U) (step:∀i(h:i<s.length),a≤i→f (i:M)=if ok s[i]then J (.inl ((i+1:U):M))else J (.inr (.inl r)))(stop:f (s.length:M)=J (.inr (.inr ()))):∀(k i m:U),i+k=s.length→k<m→a≤i→dy f m (i:M)=J (if(s.drop i).all ok then .inr ()else .inl r)
 |0,i,m+1,hi,_,_=>by simp_all [dy]|k+1,i,m+1,hi,c,b=>by
  have h:i<s.length:=by omega
  rw[uY h,List.all_cons];unfold dy;rw[step i h b];cases hk:ok s[i];rfl;exact uA s ok r a step stop k (i+1) m (by omega) (by omega) (by omega)
def asi{σ ρ:Type}(f:σ→Q (σ⊕ρ))(x:σ):bA f x=match f x with|some (.inl y)=>dy f (fuel-1) y|some (.inr z)=>J z|none=>O:=by
 rfl
def nY(b:ai):ao:=decide (97≤aN b)&&decide (aN b≤122)
def xB(b:ai):ao:=nY b||(decide (48≤aN b)&&decide (aN b≤57))||aN b==45
def gf(s:L ai):ao:=decide (s.length≤24)&&match s with|[]=>I|b::r=>nY b&&r.all xB
theorem bT{n:U}(h:n≤1152921504606846976):n+1<fuel:=js (Nat.add_le_add_right h 1) (by decide)
theorem uB(s:L ai):nV s=J (gf s):=by
 unfold nV gf aM al ag;by_cases c:s.length≤24;cases s with
 |nil=>simp|cons b r=>
  have d:bw 0 (b::r).length=W:=by simp[cq]
  have g:=bT (n:=(b::r).length) (by omega);have e:bA (Jm (b::r)) 1=_:=uA (b::r) xB I 1 (λi h _=>by unfold Jm al aB ag bL aq ay au cu;dsimp-proj only[ah];rw[dq h,ax (xA h),ke h,eo (by omega)];grind [xB,nY]) (by unfold Jm al aB ag bL aq ay au cu;dsimp-proj only[ah];rw[eZ]) r.length 1 fuel (by simp;omega) (by grind) (by omega);have f:(nY b=W→¬aN b<97∧¬aN b>122)∧(nY b=I→aN b<97∨aN b>122):=by unfold nY;simp;omega
  simp only[ot,d];cases a:nY b;grind;have:=f.1 a;rw[ax (by simp),aK (by have:=c;simp at this ⊢;omega),e,iM c,show List.drop 1 (b::r)=r from rfl];cases r.all xB<;>rfl
 grind [af]
theorem Ai(s:List UInt8):qk s=some (gf s):=by
 unfold qk gf aM ag
 by_cases hl:s.length≤24
 ·cases s with
  |nil=>simp
  |cons b r=>
   have hF:=bT (n:=(b::r).length) (by omega)
   have hL:=uA (f:=wU (b::r)) (b::r) xB false 1 (fun i h hi=>by
    unfold wU al aB ag bL aq ay au cu;dsimp-proj only[ah]
    rw[dq h,if_pos (xA h),ke h,eo (by omega)]
    grind [xB,nY]) (by unfold wU al aB ag bL aq ay au cu;dsimp-proj only[ah];rw[eZ]) r.length 1 (fuel-1) (by simp;omega) (by grind) (by omega)
   have hb:wU (b::r) 0=if nY b then some (.inl 1)else some (.inr (.inl false)):=by
    unfold wU nY al aB ag bL aq ay au cu;dsimp-proj only[ah]
    have w1:IntKind.i64.wrap (0+1)=1:=rfl
    simp only[Int.toNat_zero,List.getD_cons_zero,w1]
    generalize aN b=x
    by_cases h1:97≤x<;>by_cases h2:x≤122<;>simp[*,cq]
   rw[if_neg (by have:=hl;simp at this ⊢;omega),asi,hb]
   cases hlo:nY b
   ·simp[hlo]
   ·rw[decide_eq_true hl]
    show ak (dy (wU (b::r)) (fuel-1) ((1:Nat):Int)) _=_
    rw[hL,show List.drop 1 (b::r)=r from rfl]
    simp only[hlo]
    cases r.all xB<;>rfl
 grind [af]
abbrev aC:=M×L ai×M
def gs(out:L aC)(x:aC):L aC:=if x.1 !=1 then out++[x]else if x.2.1=[]then out else
 match out.getLast? with|some y=>if y.1==1 then out.dropLast++[(1,y.2.1++x.2.1,0)]else out++[(1,x.2.1,0)]|none=>out++[(1,x.2.1,0)]
def nrm(f:L aC):L aC:=f.foldl gs []
def tot(f:L aC):U:=(f.map λx=>x.2.1.length+1).sum
theorem gR(a b:L aC):tot (a++b)=tot a+tot b:=by simp[tot]
theorem dH(f:L aC):f.length≤tot f:=by
 induction f with|nil=>simp[tot]|cons a r b=>grind [tot]
def ach{α:Type}{l:L α}{y:α}(h:l.getLast?=J y):l=l.dropLast++[y]:=by grind [aeU]
theorem aci(out:L aC)(x:aC):tot (gs out x)≤tot out+(x.2.1.length+1):=by
 have h1:∀y:aC,tot [y]=y.2.1.length+1:=λy=>by simp[tot]
 unfold gs;split;rw[gR,h1];omega;split;omega;split;rename_i y hy;split;rw[ach hy,gR,gR,List.dropLast_concat,h1,h1];simp;omega;grind [gR];simp_all
def asj{f:L aC}{out:L aC}{i:U}(h:i<f.length)(l:tot out+tot f≤1073741824)(o:Q (L aC))(g:o.getD []=f):zu o (aL out,(i:M))=J (.inl (aL (gs out f[i]),((i+1:U):M))):=by
 have e:=dH out;have j:=dH f;have m:f[i].2.1.length+1≤tot f:=by
  have:tot f=tot (f.take i)+tot (f[i]::f.drop (i+1)):=by rw[←gR,←uY h,l7]
  grind [tot]
 unfold zu gs aF al aB ag aj aq aR ay au cr aY;dsimp-proj only[ah];simp only[g,bS];rw[dq h,getD_at h,wrap_i64 (n:=(i:M)+1) (by omega) (by omega)];generalize f[i]=x at *;have c:0≤(i:M)∧(i:M)<af f:=⟨by omega,by simp;omega⟩;have c:decide (0≤(i:M)∧(i:M)<af f)=W:=iM c;by_cases hk:x.1=1;by_cases d:x.2.1=[];simp[h,hk,d];cases a:out.getLast? with
 |none=>simp_all [aL]|some y=>
  obtain⟨q,rfl⟩:=aeU.1 a;have w:aO.wrap (af (q++[y])-1)=(q.length:M):=by simp at e ⊢;grind [wrap_i64]
  have hy:y.2.1.length+1≤tot (q++[y]):=by rw[gR];simp[tot]
  have hd:(q++[y]).getD q.length (0,[],0)=y:=by simp
  have k:∀z:aC,(q++[y]).set q.length z=q++[z]:=λz=>by simp
  simp only[w,uP,eE,hd,k];by_cases b:y.1=1;simp[c,hk,d,b,cq,aL];grind;simp[c,hk,d,b,cq];refine⟨by simp at e;omega,?_⟩;cases q<;>rfl
 simp[h,hk];refine⟨by omega,?_⟩;cases out<;>rfl
theorem acj{o:Q (L aC)}(b:tot (o.getD [])≤536870912):CH o=J (aL (nrm (o.getD []))):=by
 have key:∀(k i m:U)(out:L aC),i+k=(o.getD []).length→k<m→tot out+tot ((o.getD []).drop i)≤536870912→dy (zu o) m (aL out,(i:M))=J (aL (((o.getD []).drop i).foldl gs out)):=by
  intro k;induction k with
  |zero=>intro i m out hi c a;obtain⟨m,rfl⟩:∃q,m=q+1:=⟨m-1,by omega⟩;simp_all [dy,zu,ah,aF,al,aB,ag,aj,aq,aR,ay,au,cr,aY]
  |succ k d=>intro i m out hi c a;obtain⟨m,rfl⟩:∃q,m=q+1:=⟨m-1,by omega⟩;have h:i<(o.getD []).length:=(by omega);unfold dy;rw[asj h (by omega) o rfl];rw[uY h]at a ⊢;refine d (i+1) m _ (by omega) (by omega) ?_;grind [aci,tot]
 have e:=dH (o.getD []);unfold CH aM al;have:=key (o.getD []).length 0 fuel [] (by omega) (cb (bT (by omega))) (by simpa[tot]using b);rw[show bA (zu o) (O,0)=_ from this];simp[nrm]
theorem lh{a b:Q (L aC)}(c:tot (a.getD [])+tot (b.getD [])≤536870912):kc a b=J (aL (nrm (a.getD []++b.getD []))):=by
 have e:=dH (a.getD []);have d:=dH (b.getD []);have h1:(dj (a.getD [])).getD []=a.getD []:=by cases a.getD []<;>rfl
 have h2:(iF (dj (a.getD [])) (b.getD [])).getD []=a.getD []++b.getD []:=by cases a.getD []<;>cases b.getD []<;>simp[iF,dj]
 unfold kc bJ al aj;rw[acj (by rw[h2,gR];exact c),h2,h1];simp;omega
theorem gE{α:Type}(l:L α)(k:U):aV (k:M) (af l) l=l.drop k:=by unfold aV;simp
theorem fF{α:Type}(l:L α)(a b:U):aV (a:M) (b:M) l=(l.take b).drop a:=by unfold aV;simp
def iJ(s:L ai):aC×U:=match dW s 125 with|.ofNat k=>if gf ((s.take k).drop 1)=W then((5,(s.take k).drop 1,0),k+1)else((0,[],0),0)|_=>((0,[],0),0)
theorem jD(s:L ai)(c:ai):(dW s c= -1∧∀k:U,s[k]?≠J c)∨∃k:U,dW s c=(k:M)∧s[k]?=J c∧k<s.length∧∀j:U,j<k→s[j]?≠J c:=by
 have a:=Lib.indexByte_ge s c;rcases Int.lt_or_le (dW s c) 0 with h|h
 grind [Lib.indexByte_none];grind [oq,Lib.indexByte_some]
theorem uC{a b:ai}(h:aN a=aN b):a=b:=by grind [aN,UInt8.toNat_inj]
def Sm{s:L ai}(n:s[0]?≠J 125)(u:0<s.length)(v:s.length≤1073741824):zx s=J ((iJ s).1,((iJ s).2:M)):=by
 have run:∀(m:U)(r:M×M×L ai×M⊕bu),1≤m→m≤s.length→m≤26→(∀j,1≤j→j<m→s[j]?≠J 125)→tS s (m:M)=J (.inr r)→bA (tS s) 1=J r:=by
  intro m r h1 h2 h3 o w;refine ep (f:=tS s) (m-1) (λi=>((i+1:U):M)) (λi hi=>?_) (by grind) (cb (bT (by omega)));have c:i+1<s.length:=by omega
  have d:=o (i+1) (by omega) (by omega);rw[du c]at d;have g:(aN s[i+1]==125)=I:=by rw[beq_eq_false_iff_ne];intro e;exact d (bz J (uC (b:=125) e))
  unfold tS bJ al ag bL aq ay au cu;rw[ax (by simp;omega),ax (xA c),ke c,g,eo (by omega)];rfl
 unfold zx iJ aM;rcases jD s 125 with⟨e,hn⟩|⟨k,e,hk,a,hn⟩
 rw[run (min s.length 26) (.inr ()) (by omega) (by omega) (by omega) (λj _ _=>hn j) (by unfold tS bJ al ag bL aq ay au cu;rw[aK (by simp;omega)]),e];rfl;have p:k≠0:=λh=>by subst h;exact n hk
 rw[e];rcases gW k 26 with l|l
 have g:(aN s[k]==125)=W:=by rw[du a]at hk;rw[qG hk];rfl
 have q:aV 1 (k:M) s=(s.take k).drop 1:=fF s 1 k;rw[run k (if gf ((s.take k).drop 1)=W then .inl ((k:M)+1,5,(s.take k).drop 1,0)else .inr ()) (by omega) (by omega) (by omega) (λj _ c=>hn j c) (by unfold tS bJ al ag bL aq ay au cu;rw[ax (by simp;omega),ax (xA a),ke a,g,ax rfl,ax (by simp;omega),q,Ai,eo (by omega)];cases gf ((s.take k).drop 1);rfl;simp;omega)];simp only[Int.ofNat_eq_natCast,aw];cases gf ((s.take k).drop 1);rfl;simp;have t:gf ((s.take k).drop 1)=I:=by unfold gf;grind
 rw[run 26 (.inr ()) (by omega) (by omega) (by omega) (λj _ c=>hn j (by omega)) (by grind [tS])];simp_all
def kf:L ai→aC×U
 |[]=>((0,[],0),0)|c::r=>if c=34 then(if r.head?=J 34 then((1,[34],0),2)else((0,[],0),0))
  else if c=123 then(if r.head?=J 123 then((1,[123],0),2)else iJ (c::r))else((1,[c],0),1)
def rO(s t:L ai):lO s t=J (t.isPrefixOf s):=by grind [af,aV,List.prefix_iff_eq_take,lO]
def EG(s t:L ai):nW s t=J (t.isPrefixOf s):=by have:=rO s t;unfold lO al at this;unfold nW Py al;rw[this];rfl
theorem xC{c b:ai}(h:c≠b):(aN c==aN b)=I:=by grind [uC]
def Sn(c:ai):lE [aN c]=[c]:=by simp[lE,aN]
def ack{s:L ai}(g:s≠[])(h:s.length≤1073741824):I0 s=J ((kf s).1,((kf s).2:M)):=by
 cases s with
 |nil=>exact bX rfl g|cons c r=>
  unfold I0 kf al ag ej;rw[ax (by simp[cq])];simp only[ot,rO];by_cases h1:c=34;subst h1;cases r with|nil=>rfl|cons d r=>by_cases hd:d=34;subst hd;simp[aN,mR,lE,pA];have a:¬(34:ai)=d:=λe=>hd e.symm;simp[aN,pA,hd,a]
  rw[show(aN c==34)=I from xC (b:=34) h1,aK (by simp),aK h1];by_cases h2:c=123;subst h2;have f:=Sm (s:=123::r) (by simp) (by simp) h;cases r with|nil=>simp[aN,pA,f]|cons d r=>by_cases hd:d=123;subst hd;simp[aN,mR,lE,pA];have a:¬(123:ai)=d:=λe=>hd e.symm;simp[aN,pA,hd,a,f]
  rw[show(aN c==123)=I from xC (b:=123) h2,aK (by simp),aK h2,ax (by simp[cq])];have:=Sn c;unfold aN at this;simp[mR,this]
def acm{σ c ρ e:Type}{f:σ→Q (σ⊕ρ)}{g:c→Q (c⊕e)}(R:σ→c→Prop)(S:ρ→e→Prop)(m:σ→U) (step:∀x y,R x y→(∃b d,f x=J (.inl b)∧g y=J (.inl d)∧R b d∧m b<m x)∨∃r a,f x=J (.inr r)∧g y=J (.inr a)∧S r a):∀(n:U)(x:σ)(y:c),R x y→m x<n→∃r a,dy f n x=J r∧dy g n y=J a∧S r a
 |n+1,x,y,h,o=>by
  unfold dy;rcases step x y h with⟨b,d,i,j,k,l⟩|⟨r,a,i,j,k⟩
  rw[i,j];exact acm R S m step n b d k (by omega);grind
def pf{σ a ρ c:Type}{f:σ→Q (σ⊕ρ)}{g:a→Q (a⊕c)}(R:σ→a→Prop)(S:ρ→c→Prop)(m:σ→U) (step:∀x y,R x y→(∃b d,f x=J (.inl b)∧g y=J (.inl d)∧R b d∧m b<m x)∨∃r r',f x=J (.inr r)∧g y=J (.inr r')∧S r r') {x:σ}{y:a}(h:R x y)(hm:m x<fuel):∃r r',bA f x=J r∧bA g y=J r'∧S r r':=acm R S m step fuel x y h hm
def cK(items:L aC)(text:L ai):L aC:=if text=[]then items else items++[(1,text,0)]
def pg(items:L aC):Prop:=nrm items=items∧∀y,items.getLast?=J y→y.1≠1
def ph(f:L aC)(x:aC):nrm (f++[x])=gs (nrm f) x:=by unfold nrm;grind
theorem acn{items:L aC}(h:pg items){t:L ai}(a:t≠[]):gs items (1,t,0)=items++[(1,t,0)]:=by unfold gs;rw[aK (by simp),aK a];split;rename_i y hy;rw[aK (by simpa using h.2 y hy)];rfl
def rP{items:L aC}(h:pg items)(text:L ai):nrm (cK items text)=cK items text:=by unfold cK;split;exact h.1;rename_i a;rw[ph,h.1,acn h a]
def EH{items:L aC}(h:pg items)(text:L ai){x:aC}(hx:x.1≠1):gs (cK items text) x=cK items text++[x]∧pg (cK items text++[x]):=by
 have e:gs (cK items text) x=cK items text++[x]:=by simp_all [gs]
 refine⟨e,by rw[ph,rP h,e],λy hy=>?_⟩;grind
def Sp{items:L aC}(h:pg items)(text:L ai)(b:ai):gs (cK items text) (1,[b],0)=cK items (text++[b]):=by unfold cK;rw[aK (show ¬text++[b]=[] by simp)];grind [acn,gs]
def uD(items:L aC)(text:L ai):tot (cK items text)≤tot items+(text.length+1):=by grind [cK,tot]
def La(items:L aC)(text:L ai):(cK items text).length=items.length+if text=[]then 0 else 1:=by unfold cK;split<;>simp
theorem iq{α:Type}(l:L α)(x:α):J (l++[x])=aL (l++[x]):=by cases l<;>rfl
def Lb(text:L ai):(ey text).length=text.length:=by simp[ey]
def ofBytes(text:L ai):lE (ey text)=text:=by
 induction text with|nil=>rfl|cons b r a=>simp[ey,lE,aN]at a ⊢;exact a
theorem aco{items:L aC}{text:L ai}{tb:Q (L M)}{cs:L M}(a:tb.getD []=ey text)(hi:items.length≤1073741824)(e:cs.length≤1073741824)(t:ao):pa t (aL items,tb,aL cs)=J (decide ((if t=W then items.length+1 else(cK items text).length+1)>512∨cs.length≥1024)):=by
 have b:aO.wrap ((items.length:M)+1)=(items.length:M)+1:=eo (by omega);have f:aO.wrap ((items.length:M)+1+1)=(items.length:M)+1+1:=eo (by omega);have d:aO.wrap ((cs.length:M)+1)=(cs.length:M)+1:=eo (by omega);unfold pa aB ag aj aq;rw[La];simp only[bS,a,dp,Lb,d,kI];rw[uX];cases text with
 |nil=>cases t<;>simp[b]<;>omega
 |cons c r=>grind
theorem EI{items:L aC}{text:L ai}{tb:Q (L M)}{cs:Q (L M)}(a:tb.getD []=ey text)(hi:items.length≤1073741824):o9 (aL items,tb,cs)=J (aL (cK items text),if text=[]then tb else O,cs):=by
 unfold o9 cK al aB aj aY;simp only[bS,a,ofBytes,dp,Lb];cases text with|nil=>simp|cons c r=>grind [iq]
def Sq{items:L aC}{text:L ai}{tb:Q (L M)}{cs:L M}(a:tb.getD []=ey text)(hi:items.length≤1073741824)(hx:text.length≤1073741824)(c:cs.length≤1073741824)(b:ai)(off:M):qo (aN b) off (aL items,tb,aL cs)=J (if items.length+1>512∨cs.length≥1024 then(I,aL items,tb,aL cs)else(W,aL items,J (ey (text++[b])),aL (cs++[off]))):=by grind [ey,qo,aco,bS,aw,iq]
def EJ{items:L aC}{text:L ai}{tb:Q (L M)}{cs:L M}(b:tb.getD []=ey text)(hi:items.length≤1073741824)(c:cs.length≤1073741824)(x:aC)(off:M):∃a,a.getD []=[]∧rG x off (aL items,tb,aL cs)=J (if(cK items text).length+1>512∨cs.length≥1024 then(I,aL items,tb,aL cs)else(W,aL (cK items text++[x]),a,aL (cs++[off]))):=by refine⟨if text=[]then tb else O,by split<;>simp_all [ey],?_⟩;grind [rG,aco,EI,bS,aw,iq]
def acp{items:L aC}{text:L ai}{tb:Q (L M)}{cs:Q (L M)}(a:tb.getD []=ey text)(hi:items.length≤1073741824):∃b,JD (aL items,tb,cs)=J (aL (cK items text),b):=by unfold JD al;rw[EI a hi];simp_all
abbrev Sr:=Q (L aC)×Q (L M)×Q (L M)
def Ss(s:L ai):strings_IndexByte s 125=J (dW s 125):=rfl
def asl{raw:L ai}{k:U}(hk:k<raw.length)(K:raw.length≤1073741824)(B:Sr):((kf (raw.drop k)).2=0∧zR raw (k:M) B=J ((k:M),2,B))∨(∃b n,1≤n∧k+n≤raw.length∧kf (raw.drop k)=((1,[b],0),n)∧zR raw (k:M) B=ak (qo (aN b) (k:M) B) λr=>if(!r.fst)=W then J ((k:M),3,r.snd)else J (((k+n:U):M),0,r.snd))∨(∃nm n,nm.length+2=n∧k+n≤raw.length∧kf (raw.drop k)=((5,nm,0),n)∧zR raw (k:M) B=ak (rG (5,nm,0) (k:M) B) λr=>if(!r.fst)=W then J ((k:M),3,r.snd)else J (((k+n:U):M),0,r.snd)):=by
 have a:(raw.drop k).length=raw.length-k:=by simp
 have o:aO.wrap ((k:M)+2)=((k+2:U):M):=by grind [wrap_i64]
 have p:=cI (i:=k) (by omega);unfold zR bJ al aB ag aq aR;dsimp-proj only[ah];rw[ax (by simp;omega),gE,EG,EG,Ss,p,o];cases s:raw.drop k with
 |nil=>grind|cons c r=>
  rw[s]at a;simp only[jr]at a;have t:bw 0 (c::r).length=W:=by simp[cq]
  simp only[t,ot,r8,aw,bf];by_cases h1:c=34;subst h1;cases r with|nil=>left;simp[kf,pA,aN]|cons d r=>grind [kf,aN]
  have u:¬(34:ai)=c:=λe=>h1 e.symm;have v:(aN c==34)=I:=xC (b:=34) h1;by_cases h2:c=123;subst h2;by_cases l:r.head?=J 123
  obtain⟨q,rfl⟩:∃q,r=123::q:=by cases r with|nil=>simp at l|cons x q=>grind
  grind [kf];have w:([34,34]:L ai).isPrefixOf (123::r)=I:=by simp[pA]
  have y:([123,123]:L ai).isPrefixOf (123::r)=I:=by cases r with|nil=>rfl|cons x q=>grind
  have m:(aN 123==123)=W:=rfl;have z:kf (123::r)=iJ (123::r):=by simp[kf,l]
  rw[w,y,v,m,z];simp only[bh,bC,bf];unfold iJ;rcases jD (123::r) 125 with⟨e,hn⟩|⟨j,e,A,f,hn⟩
  grind;have C:j≠0:=λh=>by subst h;simp at A
  simp only[jr]at f;have D:aV 1 (j:M) (123::r)=((123::r).take j).drop 1:=fF (123::r) 1 j;have E:(((123::r).take j).drop 1).length=j-1:=by simp;omega
  have g:decide ((0:M)≤1∧1≤(j:M)∧(j:M)≤af (123::r))=W:=by simp;omega
  have F:aO.wrap (aO.wrap ((k:M)+(j:M))+1)=((k+(j+1):U):M):=by grind [wrap_i64]
  rw[e,aK (by simp),g,D,uB,F];simp only[Int.ofNat_eq_natCast,aw,bf];cases G:gf (((123::r).take j).drop 1);grind;grind;right;left;have H:¬(123:ai)=c:=λe=>h2 e.symm;have m:(aN c==123)=I:=xC (b:=123) h2;exact⟨c,1,by omega,by omega,by simp[kf,h1,h2],by grind⟩
def RD(raw:L ai)(x:M×Sr)(y:Q (L aC)×Q (L aC)×Q (L M)×M×M×M):Prop:=∃(k:U)(items:L aC)(text:L ai)(a:Q (L M))(cs:L M),k≤raw.length∧x=((k:M),aL items,a,aL cs)∧a.getD []=ey text∧y=(aL (cK items text),O,aL cs,(k:M),(k:M),0)∧pg items∧tot items+(text.length+1)≤2*k+1∧cs.length≤k
def SD(raw:L ai)(r:(bu×M×M)⊕Sr)(q:(Q (L aC)×Q (L M)×M×M)⊕(Q (L aC)×Q (L aC)×Q (L M)×M)):Prop:=(∃(k:U)(e:M),k≤raw.length∧e≠0∧r=.inl ((),(k:M),e)∧q=.inl (O,O,(k:M),e))∨∃(items:L aC)(text:L ai)(a:Q (L M))(cs:L M),r=.inr (aL items,a,aL cs)∧a.getD []=ey text∧q=.inr (aL (cK items text),O,aL cs,(raw.length:M))∧pg items∧tot items+(text.length+1)≤2*raw.length+1∧cs.length≤raw.length
def acq{raw:L ai}(N:raw.length≤67108864):∃r q,bA (JE raw) (0,O,O,O)=J r∧bA (nT 3 raw) (O,O,O,0,0,0)=J q∧SD raw r q:=by
 refine pf (RD raw) (SD raw) (λx=>raw.length-x.1.toNat) (λx y h=>?_) ⟨0,[],[],O,[],by omega,rfl,rfl,rfl,⟨rfl,by simp⟩,by simp[tot],by simp⟩ (cb (bT (by simp;omega)));obtain⟨k,items,text,A,cs,hk,rfl,o,rfl,d,e,p⟩:=h;rcases gW k raw.length with s|B
 have C:raw.drop k≠[]:=by simp;omega
 have D:ql 3 (raw.drop k)=J ((kf (raw.drop k)).1,((kf (raw.drop k)).2:M)):=by unfold ql ag;rw[ack C (by simp;omega)];rfl
 have E:=dH items;have F:=uD items text;have G:=dH (cK items text);have c:∀x:aC,tot [x]=x.2.1.length+1:=λx=>by simp[tot]
 have c1:decide ((k:M)<af raw)=W:=by simp;omega
 have H:decide (0≤(k:M)∧(k:M)≤af raw∧af raw≤af raw)=W:=by simp;omega
 unfold JE nT bY bJ al aB ag aj aq aR ay au aY;dsimp-proj only[ah];simp only[c1,H,bf,gE,D,aw];rcases asl s (by omega) (aL items,A,aL cs)with⟨f,g⟩|⟨b,n,hn,t,f,g⟩|⟨m,n,hn,t,f,g⟩
 right;rw[g,f];exact⟨_,_,rfl,rfl,.inl ⟨k,2,hk,by omega,rfl,rfl⟩⟩;rw[g,f,Sq o (by omega) (by omega) (by omega)];have u:(((n:M)==0)=I):=by grind
 have w:aO.wrap ((k:M)+(n:M))=((k+n:U):M):=by grind [wrap_i64]
 have i:=lh (a:=aL (cK items text)) (b:=J [(1,[b],0)]) (by simp[c];omega);rw[bS,eB,ph,rP d,Sp d]at i;have j:(cK items (text++[b])).length=items.length+1:=by rw[La];simp
 simp only[u,w,i,bS,j,aw,dp];by_cases l:items.length+1>512∨cs.length≥1024;right;simp only[ax l];refine⟨_,_,rfl,?_,.inl ⟨k,3,hk,by omega,rfl,rfl⟩⟩;simp;omega;left;simp only[aK l];refine⟨_,_,rfl,?_,⟨k+n,items,text++[b],J (ey (text++[b])),cs++[(k:M)],by omega,rfl,rfl,rfl,d,by simp;omega,by simp;omega⟩,by simp;omega⟩;grind [iq];rw[g,f];let⟨v,z,K⟩:=EJ (items:=items) o (by omega) (show cs.length≤1073741824 by omega) (5,m,0) (k:M);rw[K];have u:(((n:M)==0)=I):=by grind
 have w:aO.wrap ((k:M)+(n:M))=((k+n:U):M):=by grind [wrap_i64]
 have i:=lh (a:=aL (cK items text)) (b:=J [(5,m,0)]) (by simp[c];omega);let⟨f1,f2⟩:=EH d text (x:=(5,m,0)) (show(5:M)≠1 by decide);rw[bS,eB,ph,rP d,f1]at i;simp only[u,w,i,bS,aw,dp,lr,jr,AB];by_cases l:(cK items text).length+1>512∨cs.length≥1024;right;simp only[ax l];refine⟨_,_,rfl,?_,.inl ⟨k,3,hk,by omega,rfl,rfl⟩⟩;simp;omega;left;simp only[aK l];refine⟨_,_,rfl,?_,⟨k+n,cK items text++[(5,m,0)],[],v,cs++[(k:M)],by omega,rfl,z,rfl,f2,by grind [gR],by simp;omega⟩,by simp;omega⟩;grind [iq,cK];right;have:k=raw.length:=by omega
 subst this;have c1:decide (((raw.length:U):M)<af raw)=I:=by simp
 unfold JE nT bY bJ al aB ag aj aq aR ay au aY;dsimp-proj only[ah];simp only[c1];exact⟨_,_,rfl,rfl,.inr ⟨items,text,A,cs,rfl,o,rfl,d,e,p⟩⟩
theorem acr{raw:L ai}(d:raw.length≤67108864):∃f a at' e,hO 3 raw=J (f,a,at',e)∧xg raw=J (f,at',e)∧0≤at'∧at'≤raw.length∧tot (f.getD [])≤2*raw.length+2:=by
 let⟨r,q,g,i,h⟩:=acq d;unfold hO xg Du aM al aB ag aj aY;rw[g,i];rcases h with⟨k,e,hk,j,rfl,rfl⟩|⟨items,text,s,cs,rfl,l,rfl,t,c,m⟩
 refine⟨O,O,k,e,rfl,?_,by omega,by omega,by simp[tot]⟩;simp[j];have n:=dH items;have o:=uD items text;let⟨b,p⟩:=acp (cs:=aL cs) l (by omega:items.length≤1073741824);refine⟨aL (cK items text),J (cs++[(raw.length:M)]),0,0,?_,?_,by omega,by omega,by rw[bS];omega⟩;simp;omega;simp[p]
def Lc{s:L ai}{k:U}(h:k<s.length):(decide (0≤(k:M))&&bw ((k:M)).toNat s.length)=W:=by simp[cq,h]
def nZ{c:ai}{z:M}{b:ai}(a:aN b=z):(aN c==z)=(c==b):=by grind [uC]
theorem lT(c:ai):(aN c==34)=(c==34):=nZ rfl
def b44(c:ai):(aN c==44)=(c==44):=nZ rfl
theorem qy(c:ai):(aN c==10)=(c==10):=nZ rfl
def asm(c:ai):strings_IndexByte [34,44,10] (aN c)=J (if c=34 then 0 else if c=44 then 1 else if c=10 then 2 else-1):=by
 have h:(aN c).toNat.toUInt8=c:=by simp[aN]
 grind [strings_IndexByte,Dj,Di,aw,dW]
def Sv(data:L ai)(e:U):Prop:=e=data.length∨data[e]?=J 44∨data[e]?=J 10
def asn{data:L ai}{k:U}(hk:k≤data.length)(F:data.length≤67108864):∃(e:U)(q ok:ao),I6 data (k:M)=J ((e:M),q,ok)∧JC data (k:M)=J ((e:M),q,ok)∧(ok=W→k≤e∧e≤data.length∧Sv data e∧(q=W→k+2≤e)):=by
 have G:data.length+1<fuel:=bT (by omega);have B:∀j:U,j≤data.length→∃r:U,bA (I4 data) (j:M)=J (r:M)∧bA (Jz data) (j:M)=J (r:M)∧j≤r∧r≤data.length:=by
  intro j u;have:=pf (f:=I4 data) (g:=Jz data) (λx y=>x=y∧∃s:U,x=(s:M)∧j≤s∧s≤data.length) (λr q=>r=q∧∃s:U,r=(s:M)∧j≤s∧s≤data.length) (λx=>data.length-x.toNat) (λx y h=>by
   obtain⟨rfl,s,rfl,h1,h2⟩:=h
   have o:=cI (i:=s) (by omega)
   have t:aO.wrap ((s:M)+2)=((s+2:U):M):=by grind [wrap_i64]
   have H:aO.wrap (((s+1:U):M)+1)=((s+2:U):M):=by grind
   unfold I4 Jz al aB ag bL aq aR ay au cu
   rw[o,t]
   rcases gW s data.length with c|c
   have c1:decide ((s:M)<af data)=W:=by simp;omega
   rw[c1,Lc c,ke c,lT]
   by_cases d:data[s]=34
   rcases gW (s+1) data.length with l|l
   have m:decide (((s+1:U):M)<af data)=W:=by simp;omega
   have g:=Lc l
   rw[m,ke l,lT]
   simp only[d,g]
   by_cases n:data[s+1]=34
   left
   refine⟨_,_,?_,?_,⟨rfl,s+2,rfl,by omega,by omega⟩,by simp;omega⟩
   simp_all [cq]
   simp[n,bne,lT,d]
   right
   refine⟨_,_,?_,?_,⟨rfl,s,rfl,by omega,by omega⟩⟩
   simp[n,cq,c,l,bne,lT,d]
   simp[n,bne,lT,d]
   right
   have m:decide (((s+1:U):M)<af data)=I:=by simp;omega
   rw[m]
   refine⟨_,_,?_,?_,⟨rfl,s,rfl,by omega,by omega⟩⟩
   simp[cq,c,bne,lT,d]
   simp[bne,lT,d]
   left
   refine⟨_,_,?_,?_,⟨rfl,s+1,rfl,by omega,by omega⟩,by simp;omega⟩
   simp_all [cq,bne,lT]
   simp[bne,lT,d]
   right
   have c1:decide ((s:M)<af data)=I:=by simp;omega
   rw[c1]
   exact⟨_,_,by simp,by simp,⟨rfl,s,rfl,by omega,by omega⟩⟩) (x:=(j:M)) (y:=(j:M)) ⟨rfl,j,rfl,by omega,u⟩ (by simp;omega)
  grind
 have C:∀j:U,j≤data.length→∃r:U,bA (I5 data) (j:M)=J (r:M)∧bA (JA data) (j:M)=J (r:M)∧j≤r∧r≤data.length:=by
  intro j u;have:=pf (f:=I5 data) (g:=JA data) (λx y=>x=y∧∃s:U,x=(s:M)∧j≤s∧s≤data.length) (λr q=>r=q∧∃s:U,r=(s:M)∧j≤s∧s≤data.length) (λx=>data.length-x.toNat) (λx y h=>by
   obtain⟨rfl,s,rfl,h1,h2⟩:=h
   have o:=cI (i:=s) (by omega)
   unfold I5 JA gC al aB ag bL aq ay au ej cu;dsimp-proj only[ah]
   rw[o]
   rcases gW s data.length with c|c
   have c1:decide ((s:M)<af data)=W:=by simp;omega
   have f3:=asm data[s]
   unfold aN at f3
   rw[c1,ke c]
   simp only[Int.ofNat_eq_natCast,f3,aw,bne,lT,b44,qy]
   by_cases a:data[s]=34∨data[s]=44∨data[s]=10
   right
   refine⟨_,_,?_,?_,⟨rfl,s,rfl,by omega,by omega⟩⟩
   rcases a with a|a|a<;>simp[cq,c,a]
   grind [cq]
   left
   have h3:¬data[s]=34∧¬data[s]=44∧¬data[s]=10:=⟨λe=>a (.inl e),λe=>a (.inr (.inl e)),λe=>a (.inr (.inr e))⟩
   refine⟨_,_,?_,?_,⟨rfl,s+1,rfl,by omega,by omega⟩,by simp;omega⟩
   simp[cq,c,h3]
   simp[cq,c,h3]
   right
   have c1:decide ((s:M)<af data)=I:=by simp;omega
   rw[c1]
   exact⟨_,_,by simp,by simp,⟨rfl,s,rfl,by omega,by omega⟩⟩) (x:=(j:M)) (y:=(j:M)) ⟨rfl,j,rfl,by omega,u⟩ (by simp;omega)
  grind
 have E:∀r:U,r≤data.length→∃ok:ao,(∀b:ao,(if((r:M)==af data||decide (0≤(r:M))&&(bw ((r:M)).toNat data.length&&(aN (data.getD ((r:M)).toNat 0)==44||decide (0≤(r:M))&&bw ((r:M)).toNat data.length)))=W then J (if((r:M)==af data)=W then(r:M)else if(aN (data.getD ((r:M)).toNat 0)==44)=W then(r:M)else(r:M),if((r:M)==af data)=W then b else if(aN (data.getD ((r:M)).toNat 0)==44)=W then b else b,(r:M)==af data||(aN (data.getD ((r:M)).toNat 0)==44||aN (data.getD ((r:M)).toNat 0)==10))else O)=J ((r:M),b,ok))∧((r:M)==af data||(aN (data.getD ((r:M)).toNat 0)==44||aN (data.getD ((r:M)).toNat 0)==10))=ok∧(ok=W→Sv data r):=by
  intro r A;refine⟨_,λb=>?_,rfl,λh=>?_⟩;rw[ax];simp;rcases gW r data.length with h|h
  simp[cq,h];have:r=data.length:=by omega
  simp[this];unfold Sv;rcases gW r data.length with p|K
  right;rw[ke p,b44,qy]at h;rw[du p];simp at h;grind;left;omega
 unfold I6 JC aM al aB ag bL aq cu;dsimp-proj only[ah];by_cases d:k<data.length∧data[k]?=J 34;let⟨h1,h2⟩:=d;have c1:decide ((k:M)<af data)=W:=by simp;omega
 have a:aN (data.getD ((k:M)).toNat 0)=34:=by rw[ke h1];rw[du h1]at h2;rw[qG h2];rfl
 have o:=cI (i:=k) (by omega);let⟨r,v,w,h3,z⟩:=B (k+1) (by omega);simp only[c1,Lc h1,a,o,v,w,aw];rcases gW r data.length with A|A
 have m:decide ((r:M)≥af data)=I:=by simp;omega
 have t:=cI (i:=r) (by omega);let⟨ok,f1,f2,f3⟩:=E (r+1) (by omega);refine⟨r+1,W,ok,?_,?_,λh=>⟨by omega,by omega,f3 h,λ_=>by omega⟩⟩;rw[m,t];exact f1 W;rw[m,t];grind;have m:decide ((r:M)≥af data)=W:=by simp;omega
 exact⟨0,W,I,by rw[m];rfl,by rw[m];rfl,λh=>by cases h⟩;let⟨r,v,w,h3,z⟩:=C k hk;have a:(decide ((k:M)<af data)&&aN (data.getD ((k:M)).toNat 0)==34)=I:=by
  rcases gW k data.length with h1|h1
  grind [ke,lT];simp;omega
 have D:(!decide ((k:M)<af data)||decide (0≤(k:M))&&bw ((k:M)).toNat data.length)=W:=by
  rcases gW k data.length with h1|h1
  rw[Lc h1];simp;simp;omega
 let⟨ok,f1,f2,f3⟩:=E r z;simp only[a,D,v,w,aw];refine⟨r,I,ok,?_,?_,λh=>⟨h3,z,f3 h,λh=>by cases h⟩⟩;exact f1 I;grind
def aso{d:U}(h:d<10):lE [IntKind.u8.wrap (aO.wrap (48+(d:M)))]=[je (48+d)]:=by
 have:d=0∨d=1∨d=2∨d=3∨d=4∨d=5∨d=6∨d=7∨d=8∨d=9:=by omega
 rcases this with rfl|rfl|rfl|rfl|rfl|rfl|rfl|rfl|rfl|rfl<;>rfl
def asp:∀(u:U)(f:U)(acc:L ai),u<f→u≤1000000000→acc.length+u≤2000000000→dy I1 f ((u:M),acc)=J (x9 u++acc):=by
 intro u;induction u using Nat.strongRecOn with
 |_ u b=>
  intro f acc m n a;obtain⟨f,rfl⟩:∃g,f=g+1:=⟨f-1,by omega⟩;have c:(u:M).tdiv 10=((u/10:U):M):=by grind
  have e:(u:M).tmod 10=((u%10:U):M):=by grind
  have i:aO.wrap (((u/10:U):M))=((u/10:U):M):=eo (by omega);have j:(W&&decide (1+acc.length≤1152921504606846976))=W:=by grind
  have k:=aso (d:=u%10) (Nat.mod_lt _ (by decide));rw[x9];simp only[dy,I1,c,e,i,k,j,bf,ah,al,ag,aR,ay,au,cr,aY];by_cases h:u<10;grind;have l:(((u/10:U):M)==0)=I:=by grind
  rw[dif_neg h,l];simp only[bh,bC];rw[b (u/10) (by omega) f _ (by omega) (by omega) (by grind)];simp
def asq(u:U)(a:u≤1000000000):CO (u:M)=J (x9 u):=by unfold CO aM;rw[show bA I1 ((u:M),[])=J (x9 u++[])from asp u fuel [] (js a (by decide)) a (by simp;omega)];simp
def Sw(u:U)(a:u≤1000000000):wW (u:M)=J (x9 u):=by
 unfold wW fW ag aR aY;have h:decide ((u:M)<0)=I:=ia (by omega);have b:mI (u:M) 0=(u:M):=by grind [mI]
 rw[h,b,asq u a];rfl
def act(u:U)(a:u≤1000000000):strconv_Itoa (u:M)=J (x9 u):=by grind [strconv_Itoa,Lib.itoa]
abbrev cx:=ao×L ai×L ai
def Sx{data:L ai}{P:L cx}{a b c:U}(h1:a≤b)(h2:b≤c)(h3:c≤data.length)(d:P.length≤1073741824)(key:L ai):rB key (b:M) (c:M) (data,aL P,(a:M))=J (data,aL (P++[(I,[],(data.take b).drop a),(W,key,(data.take c).drop b)]),(c:M)):=by unfold rB al aj gP;simp only[bS,fF];rw[ax (by simp;omega)];cases P<;>rfl
def Sy{data:L ai}{P:L cx}{a b c:U}(h1:a≤b)(h2:b≤c)(h3:c≤data.length)(d:P.length≤1073741824)(key:L ai):xc (b:M) (c:M) key (data,(a:M),aL P)=J (data,(c:M),aL (P++[(I,[],(data.take b).drop a),(W,key,(data.take c).drop b)])):=by unfold xc al aj gP;simp only[bS,fF];rw[ax (by simp;omega)];cases P<;>rfl
abbrev PI:=M×M×M×M×M×L ai×M×Q (L cx)
abbrev RI:=M×M×M×M×L ai×Q (L cx)×M
def RR(data:L ai)(rec:U)(W0:M)(k0:U)(x:PI)(y:RI):Prop:=∃(k n a:U)(P:L cx)(b C T c d:M),k0≤k∧k≤data.length∧n≤k∧a≤k∧P.length≤2*k∧x=((k:M),(n:M),b,C,T,data,(a:M),aL P)∧y=((k:M),c,(n:M),d,data,aL P,(a:M))∧(rec=0→T=d∧0≤T∧T≤n∧(T≠0→C=c))∧(rec≠0→b=W0∧C=c)
def SR(data:L ai)(rec:U)(W0:M)(k0:U)(r:PI⊕PI)(q:(Q (L cx)×M×M)⊕RI):Prop:=(∃(a e:M)(z:M×M×M×L ai×M×Q (L cx)),e≠0∧r=.inl (a,e,z)∧q=.inl (O,a,e))∨∃(k n a:U)(P:L cx)(b C T c d:M),k0≤k∧k≤data.length∧n≤k∧a≤k∧P.length≤2*k∧r=.inr ((k:M),(n:M),b,C,T,data,(a:M),aL P)∧q=.inr ((k:M),c,((n+1:U):M),d,data,aL P,(a:M))∧(rec=0→b=((n+1:U):M)∧T=d∧0≤T∧(T≠0→C=c))∧(rec≠0→b=W0∧C=c)
def asr{data:L ai}(hl:data.length≤67108864){rec:U}(hr:rec≤67108865){W0 W1 C1 T1:M}{s:RI}(D:s.2.1=W0)(E:s.2.2.2.1=(rec:M)){k0:U}{x:PI}{y:RI}(h:RR data rec W0 k0 x y):∃r q,bA (PG (data,(),(rec:M),W1,C1,T1)) x=J r∧bA (CS data s) y=J q∧SR data rec W0 k0 r q:=by
 refine pf (RR data rec W0 k0) (SR data rec W0 k0) (λx=>data.length+1-x.1.toNat) (λx y h=>?_) h (js (uZ _ _) (bT (by omega)));obtain⟨k,n,a,P,b,C,T,C',T',hk0,hk,hn,ha,hP,rfl,rfl,hz,F⟩:=h;let⟨e,q,ok,f1,f2,f3⟩:=asn hk hl;unfold PG CS bJ al ag bL aq aR ay au cu;dsimp-proj only[ah];simp only[f1,f2,aw,D,E];cases ok with
 |false=>right;exact⟨_,_,rfl,by simp,.inl ⟨_,2,_,by decide,rfl,rfl⟩⟩|true=>
  let⟨g1,g2,g3,g4⟩:=f3 rfl;have Y:=cI (i:=n) (by omega);have Z:=cI (i:=e) (by omega);have wk:=cI (i:=k) (by omega)
  have c:∀(g:U)(d:L cx)(l m T2 o p:M),g≤e→d.length≤2*e+2→d.length≤2*k+2→(d.length≤2*k∨k+2≤e)→(rec=0→l=((n+1:U):M)∧T2=p∧0≤T2∧T2≤((n+1:U):M)∧(T2≠0→m=o))→(rec≠0→l=W0∧m=o)→(∃G y',(if((e:M)==af data||decide (0≤(e:M))&&bw ((e:M)).toNat data.length)=W then if((e:M)==af data||aN (data.getD ((e:M)).toNat 0)==10)=W then(J (kJ (kJ ((e:M),(n:M),l,m,T2,data,(g:M),aL d))):Q (PI⊕PI⊕PI))else J (mf (((e+1:U):M),((n+1:U):M),l,m,T2,data,(g:M),aL d))else O)=J (.inl G)∧(if(decide ((e:M)≥af data)||decide (0≤(e:M))&&bw ((e:M)).toNat data.length)=W then if(decide ((e:M)≥af data)||aN (data.getD ((e:M)).toNat 0)==10)=W then(J (kJ (kJ ((e:M),o,((n+1:U):M),p,data,aL d,(g:M)))):Q (RI⊕(Q (L cx)×M×M)⊕RI))else J (mf (((e+1:U):M),o,((n+1:U):M),p,data,aL d,(g:M)))else O)=J (.inl y')∧RR data rec W0 k0 G y'∧data.length+1-G.1.toNat<data.length+1-((k:M)).toNat)∨
    ∃r q,(if((e:M)==af data||decide (0≤(e:M))&&bw ((e:M)).toNat data.length)=W then
       if((e:M)==af data||aN (data.getD ((e:M)).toNat 0)==10)=W then(J (kJ (kJ ((e:M),(n:M),l,m,T2,data,(g:M),aL d))):Q (PI⊕PI⊕PI))else J (mf (((e+1:U):M),((n+1:U):M),l,m,T2,data,(g:M),aL d))else O)=J (.inr r)∧
     (if(decide ((e:M)≥af data)||decide (0≤(e:M))&&bw ((e:M)).toNat data.length)=W then
       if(decide ((e:M)≥af data)||aN (data.getD ((e:M)).toNat 0)==10)=W then(J (kJ (kJ ((e:M),o,((n+1:U):M),p,data,aL d,(g:M)))):Q (RI⊕(Q (L cx)×M×M)⊕RI))else J (mf (((e+1:U):M),o,((n+1:U):M),p,data,aL d,(g:M)))else O)=J (.inr q)∧SR data rec W0 k0 r q:=by
   intro g d l m T2 o p h1 h2 h3 h4 t h6
   by_cases u:e=data.length∨data[e]?=J 10
   right
   have c1:((e:M)==af data||aN (data.getD ((e:M)).toNat 0)==10)=W:=by
    rcases u with h|h
    simp[h];let⟨v,h⟩:=gi.1 h;rw[ke v,h];simp[aN]
   have c2:(decide ((e:M)≥af data)||aN (data.getD ((e:M)).toNat 0)==10)=W:=by grind
   refine⟨_,_,?_,?_,.inr ⟨e,n,g,d,l,m,T2,o,p,by omega,g2,by omega,h1,by omega,rfl,rfl,λh=>⟨(t h).1,(t h).2.1,(t h).2.2.1,(t h).2.2.2.2⟩,h6⟩⟩
   rw[ax,ax c1]
   rcases gW e data.length with h|h
   simp[cq,h]
   simp_all
   simp_all [cq]
   left
   have v:e<data.length:=by omega
   have H:¬data[e]=10:=λh=>u (.inr (by grind))
   have c0:((e:M)==af data)=I:=by simp;omega
   have c0':decide ((e:M)≥af data)=I:=by simp;omega
   have c1:(aN (data.getD ((e:M)).toNat 0)==10)=I:=by rw[ke v,qy];simpa using H
   refine⟨_,_,?_,?_,⟨e+1,n+1,g,d,l,m,T2,o,p,by omega,by omega,by omega,by omega,by omega,rfl,rfl,λh=>⟨(t h).2.1,(t h).2.2.1,(t h).2.2.2.1,(t h).2.2.2.2⟩,h6⟩,by simp;omega⟩
   grind [cq]
   simp_all [cq]
  rcases Nat.eq_zero_or_pos rec with A|A
  subst A;let⟨K,N,z3,z4⟩:=hz rfl;subst K;have c1:decide (0≤(k:M)∧(k:M)≤(e:M)∧(e:M)≤af data)=W:=by simp;omega
  have hH:JF (k:M) (e:M) (n:M) (data,(),((0:U):M),b,C,T) (data,(a:M),aL P)=J (((n+1:U):M),if decide (aV (k:M) (e:M) data=[116,101,120,116])=W then(n:M)else C,if decide (aV (k:M) (e:M) data=[116,101,120,116])=W then T+1 else T):=by grind [JF,wrap_i64]
  have wT:aO.wrap (T+1)=T+1:=eo (by omega);have d0:(((0:U):M)==0)=W:=rfl;have d1:decide (((0:U):M)>0)=I:=rfl;simp only[d0,d1,hH,c1,aw,jg,qF,Fw,r8,Bool.or_false,uQ,xZ,u7,bh,bf,bC,Y,Z,wT];by_cases ht:aV (k:M) (e:M) data=[116,101,120,116];simp only[iM ht,bf];exact c a P _ _ _ _ _ (by omega) (by omega) (by omega) (by omega) (λ_=>⟨rfl,rfl,by omega,by omega,λ_=>rfl⟩) (λh=>bX rfl h);simp only[ia ht,bh,bC];exact c a P _ _ _ _ _ (by omega) (by omega) (by omega) (by omega) (λ_=>⟨rfl,rfl,N,by omega,z4⟩) (λh=>bX rfl h);let⟨K,N⟩:=F (by omega);subst K;subst N;have d0:(((rec:U):M)==0)=I:=by grind
  have d1:decide (((rec:U):M)>0)=W:=by simp;omega
  unfold PF bJ ag aq aR;simp only[d0,d1,jg,qF,Fw,r8,Bool.or_false,uQ,xZ,u7,bh,bf,bC,Y,Z,wk];by_cases j:(decide ((n:M)≥b)||(n:M)==C&& !q)=W;right;simp only[j,bf,aw];exact⟨_,_,rfl,rfl,.inl ⟨_,2,_,by decide,rfl,rfl⟩⟩;simp only[Bool.not_eq_true]at j;simp only[j,bh,bC];by_cases B:(n:M)=C;have hq:q=W:=by grind
  have h2:=g4 hq;have R:aO.wrap ((e:M)-1)=((e-1:U):M):=by grind [wrap_i64]
  have c3:decide (0≤((k+1:U):M)∧((k+1:U):M)≤((e-1:U):M)∧((e-1:U):M)≤af data)=W:=by simp;omega
  have w:((n:M)==C)=W:=by simpa using B
  have z:((n:M) !=C)=I:=by simpa[bne]using B
  let⟨f,cuts,at',S,D1,D2,D3,D4,D5⟩:=acr (raw:=(data.take (e-1)).drop (k+1)) (by simp;omega);simp only[w,z,R,c3,bf,bh,bC,fF,D1,D2,aw];by_cases V:S=0;subst V;simp only[Sw rec (by omega),act rec (by omega),Sx (show a≤k+1 by omega) (show k+1≤e-1 by omega) (show e-1≤data.length by omega) (show P.length≤1073741824 by omega),Sy (show a≤k+1 by omega) (show k+1≤e-1 by omega) (show e-1≤data.length by omega) (show P.length≤1073741824 by omega),aw,qI,bh,bC];exact c (e-1) _ _ _ _ _ _ (by omega) (by simp;omega) (by simp;omega) (.inr h2) (λh=>by omega) (λ_=>⟨rfl,rfl⟩);have X:(S !=0)=W:=by simpa[bne]using V
  right;simp only[X,bf,aw];exact⟨_,_,rfl,rfl,.inl ⟨_,S,_,V,rfl,rfl⟩⟩;have w:((n:M)==C)=I:=by simpa using B
  have z:((n:M) !=C)=W:=by simpa[bne]using B
  simp only[w,z,bf,bh,bC,aw,qI];exact c a P _ _ _ _ _ (by omega) (by omega) (by omega) (by omega) (λh=>by omega) (λ_=>⟨rfl,rfl⟩)
abbrev PO:=M×L ai×M×Q (L cx)×M×M×M×M
def RO(data:L ai)(x:RI)(y:PO):Prop:=∃(k rec a:U)(P:L cx)(b C c d e:M),k≤data.length+1∧rec≤k∧a≤k∧a≤data.length∧P.length≤2*k∧(rec=0→k=0∧e=0)∧(rec≠0→b=c∧C=d)∧x=((k:M),b,C,(rec:M),data,aL P,(a:M))∧y=(((min k data.length:U):M),data,(a:M),aL P,(rec:M),c,d,e)
def SO(data:L ai)(r:(Q (L cx)×M×M)⊕L ai×Q (L cx)×M)(q:(Q (L cx)×M×M)⊕L ai×M×Q (L cx)×M×M×M×M):Prop:=(∃a e:M,e≠0∧r=.inl (O,a,e)∧q=.inl (O,a,e))∨∃(a:U)(P:L cx)(z:M×M×M×M),a≤data.length∧P.length≤2*data.length+2∧r=.inr (data,aL P,(a:M))∧q=.inr (data,(a:M),aL P,z)
def ass{data:L ai}(T:data.length≤67108864):∃r q,bA (CT data) (0,0,-1,0,data,O,0)=J r∧bA (PJ data) (0,data,0,O,0,0,0,0)=J q∧SO data r q:=by
 refine pf (RO data) (SO data) (λx=>data.length+2-x.1.toNat) (λx y h=>?_) ⟨0,0,0,[],0,-1,0,0,0,by omega,by omega,by omega,by omega,by simp,λ_=>⟨rfl,rfl⟩,λh=>bX rfl h,rfl,by simp[aL]⟩ (js (uZ _ _) (js (show data.length+2≤67108866 by omega) (by decide)));obtain⟨k,rec,a,P,c,C,u,v,w,hk,K,A,V,hP,t,g,rfl,rfl⟩:=h;unfold CT PJ aM aB ag aq ay au;dsimp-proj only[ah];by_cases d:rec=0∨k<data.length;have j:k≤data.length:=by grind
 have X:min k data.length=k:=Nat.min_eq_left j;have c1:(((rec:M)==0)||decide ((k:M)<af data))=W:=by rcases d with h|h<;>simp[h]
 have B:(decide ((k:M)<af data)||((rec:M)==0))=W:=by rcases d with h|h<;>simp[h]
 unfold PH aM ag aq;simp only[X,c1,B,bf];let⟨r,q,Y,Z,hS⟩:=asr T (rec:=rec) (by omega) (W0:=c) (W1:=u) (C1:=v) (T1:=w) (s:=((k:M),c,C,(rec:M),data,aL P,(a:M))) rfl rfl (k0:=k) (x:=((k:M),0,u,v,w,data,(a:M),aL P)) (y:=((k:M),C,0,0,data,aL P,(a:M))) ⟨k,0,a,P,u,v,w,C,0,by omega,j,by omega,A,by omega,rfl,rfl,λh=>⟨(t h).2,by rw[(t h).2];decide,by rw[(t h).2];decide,λh'=>bX (t h).2 h'⟩,λh=>⟨(g h).1.symm,(g h).2.symm⟩⟩;rw[Y,Z];rcases hS with⟨b,e,z,D,rfl,rfl⟩|⟨k',n,N,R,E,F,l,C2,T2,g1,g2,g3,g4,g5,rfl,rfl,g6,g7⟩
 right;have he':(e !=0)=W:=by simpa[bne]using D
 exact⟨_,_,rfl,by simp[D],.inl ⟨b,e,D,rfl,rfl⟩⟩;have wk:aO.wrap ((k':M)+1)=((k'+1:U):M):=by grind [wrap_i64]
 have wn:=cI (i:=n) (by omega);have wr:=cI (i:=rec) (by omega);have m:gN ((k'+1:U):M) (af data)=((min (k'+1) data.length:U):M):=by unfold gN;rw[dp];split<;>omega
 simp only[aw,o0,wk,wn,wr,m];rcases Nat.eq_zero_or_pos rec with o|o
 subst o;let⟨G,H,z3,z4⟩:=g6 rfl;subst G;subst H;have d0:(((0:U):M)==0)=W:=rfl;have d1:decide (((0:U):M)>0)=I:=rfl;have d2:decide (((n+1:U):M)<((n+1:U):M))=I:=by simp
 simp only[d0,d1,d2,Fw,r8,bh,bf,bC];by_cases f:l=0;right;subst f;exact⟨_,_,rfl,rfl,.inl ⟨0,6,by decide,rfl,rfl⟩⟩;have t0:(l==0)=I:=by simpa using f
 simp only[t0,bh,bC];by_cases p:l>1;right;simp only[iM p,bf];exact⟨_,_,rfl,rfl,.inl ⟨0,5,by decide,rfl,rfl⟩⟩;left;simp only[ia p,bh,bC,aw,qI];exact⟨_,_,rfl,rfl,⟨k'+1,0+1,N,R,_,C2,_,F,l,by omega,by omega,by omega,by omega,by omega,λh=>by omega,λ_=>⟨rfl,(z4 f).symm⟩,rfl,rfl⟩,by simp;omega⟩;let⟨G,H⟩:=g7 (by omega);subst G;subst H;have d0:(((rec:U):M)==0)=I:=by grind
 have d1:decide (((rec:U):M)>0)=W:=by simp;omega
 simp only[d0,d1,Fw,r8,bh,bf,bC];by_cases S:((n+1:U):M)<E;right;simp only[iM S,bf];exact⟨_,_,rfl,rfl,.inl ⟨k,2,by decide,rfl,rfl⟩⟩;left;simp only[ia S,bh,bC,aw,qI];exact⟨_,_,rfl,rfl,⟨k'+1,rec+1,N,R,E,F,E,F,l,by omega,by omega,by omega,by omega,by omega,λh=>by omega,λ_=>⟨rfl,rfl⟩,rfl,rfl⟩,by simp;omega⟩;right;have hr:rec≠0:=λh=>d (.inl h);have c0:(((rec:U):M)==0)=I:=by grind
 have c1:decide ((k:M)<af data)=I:=by simp;omega
 have B:decide (((min k data.length:U):M)<af data)=I:=by simp;omega
 simp only[c0,c1,B];exact⟨_,_,rfl,rfl,.inr ⟨a,P,_,V,by omega,rfl,rfl⟩⟩
def ast{data:L ai}(f:data.length≤65536):∃P at' e,zB data=J (P,at',e)∧Dv data=J (P,at',e)∧(P.getD []).length≤2*data.length+3:=by
 let⟨r,q,b,d,h⟩:=ass (data:=data) (by omega);unfold zB Dv xa aM aB;have c:decide (af data>65536)=I:=by simp;omega
 rw[b,c];simp only[bh,bC,aw,d];rcases h with⟨a,e,g,rfl,rfl⟩|⟨a,P,z,i,j,rfl,rfl⟩
 simp_all;unfold rA xb al aj aY;simp only[aw,o0,bS];rw[ax (by simp;omega),ax (by simp;omega)];simp_all
theorem Ld{α:Type}[DecidableEq α]{f:M→Q (M⊕ao⊕bu)}{a b:L α}(d:a.length=b.length)(hn:a.length<fuel) (step:∀i(h1:i<a.length)(h2:i<b.length),f (i:M)=if a[i]=b[i]then J (.inl ((i+1:U):M))else J (.inr (.inl I)))(stop:f (a.length:M)=J (.inr (.inr ()))):(ak (bA f 0) λr1=>cC r1 (λc=>J c) λ_=>J W)=J (decide (a=b)):=by have:=Ze (f:=f) (λi=>(i:M)) a.length (λi=>a[i]?=b[i]?) (.inl I) (.inr ()) (λi hi hp=>by grind) (λi hi hp=>by grind) stop hn;by_cases h:a=b;simp_all;rw[show bA f 0=J (.inl I)from this.2 λe=>h (List.ext_getElem? λi=>by grind),ia h];rfl
def acu(x y:cx):(x.1==y.1&&(decide (x.2.1=y.2.1)&&(decide (x.2.2=y.2.2)&&W)))=decide (x=y):=by grind
def asu{a b:Q (L cx)}(f:(a.getD []).length≤1073741824):I8 a b=J (decide (a.getD []=b.getD [])):=by
 unfold I8 aM ag aj;by_cases d:(a.getD []).length=(b.getD []).length;have c:(af (a.getD []) !=af (b.getD []))=I:=by simp[bne];omega
 rw[c];refine(Ld d (cb (bT (by omega))) (λi h1 h2=>?_) ?_);unfold Pr aF al aB ag aj aq ay au;rw[dq h1,getD_at h1,getD_at h2,acu,ax (by simp;omega),eo (by omega)];by_cases h:(a.getD [])[i]=(b.getD [])[i]<;>simp[h];unfold Pr aF al aB ag aj aq ay au;rw[eZ];have c:(af (a.getD []) !=af (b.getD []))=W:=by simp[bne];omega
 rw[c,ia λe=>d (bz uO e)];rfl
def asv{a b:Q (L cx)}(f:(a.getD []).length≤1073741824):JI a b=J (decide (a.getD []=b.getD [])):=by
 unfold JI aM ag aj;by_cases d:(a.getD []).length=(b.getD []).length;have c:(af (a.getD []) !=af (b.getD []))=I:=by simp[bne];omega
 rw[c];refine(Ld d (cb (bT (by omega))) (λi h1 h2=>?_) ?_);unfold PK aF al aB ag aj aq ay au;rw[dq h1,getD_at h1,getD_at h2,acu,ax (by simp;omega),eo (by omega)];by_cases h:(a.getD [])[i]=(b.getD [])[i]<;>simp[h];unfold PK aF al aB ag aj aq ay au;rw[eZ];have c:(af (a.getD []) !=af (b.getD []))=W:=by simp[bne];omega
 rw[c,ia λe=>d (bz uO e)];rfl
def dA(l:L cx):L ai:=l.flatMap λq=>q.2.2
def asw(l:L cx)(i:U):(dA (l.take i)).length≤(dA l).length:=by grind [dA,l7]
def Le{d:M×Q (L cx)}(h1:(d.2.getD []).length≤1073741824)(h2:(dA (d.2.getD [])).length≤1073741824):wV d=J (dA (d.2.getD [])):=by
 unfold wV aM;have:bA (CN d) ([],0)=J (dA (d.2.getD [])):=by
  refine ep (f:=CN d) (d.2.getD []).length (λi=>(dA ((d.2.getD []).take i),(i:M))) (λi hi=>?_) ?_ (cb (bT (by omega)));have a:dA ((d.2.getD []).take (i+1))=dA ((d.2.getD []).take i)++(d.2.getD [])[i].2.2:=by unfold dA;rw[iz hi,uW];simp
  have b:=asw (d.2.getD []) (i+1);rw[a]at b;unfold CN aF al aB aj aq ay au cr;rw[dq hi,getD_at hi,ax (by simp at b ⊢;omega),a,eo (by omega)];rfl;unfold CN aF al aB aj aq ay au cr;simp_all
 rw[this];rfl
theorem Aj{d:M×Q (L cx)}(h1:(d.2.getD []).length≤1073741824)(h2:(dA (d.2.getD [])).length≤1073741824):rE d=J (dA (d.2.getD [])):=by unfold rE;rw[ax (by rw[Bool.and_eq_true,gG,gG];exact⟨uV h1 (by decide),uV h2 (by decide)⟩)];rfl
abbrev acv:=Q (L aC)×Q (L M)×Q (L M)×M×M
def asx(a:Q (L aC))(b d:Q (L M))(e:M×M)(c off:M):zQ c off (a,b,d,e)=match qo c off (a,b,d)with|some (r,x,y,z)=>J (r,x,y,z,e)|none=>O:=by
 grind [zQ,qo,Dq,pa,aw]
def Sz(a:Q (L aC))(b d:Q (L M))(e:M×M):Dp (a,b,d,e)=match o9 (a,b,d)with|some (x,y,z)=>J (x,y,z,e)|none=>O:=by
 grind [Dp,o9]
def asy(a:Q (L aC))(b d:Q (L M))(e:M×M)(x:aC)(off:M):Dr x off (a,b,d,e)=match rG x off (a,b,d)with|some (r,x,y,z)=>J (r,x,y,z,e)|none=>O:=by
 unfold Dr rG al ag aj aY
 rw[show Dq I (a,b,d,e)=pa I (a,b,d)from rfl,Sz]
 cases pa I (a,b,d)with
 |none=>rfl|some r=>
  simp only[aw];cases r;simp only[bh,bC];cases o9 (a,b,d)with|none=>rfl|some q=>let⟨c,g,f⟩:=q;by_cases h1:(c.getD []).length≤68719476735<;>by_cases h2:(f.getD []).length≤68719476735<;>simp[h1,h2]
  rfl
theorem b9(c:ai):(aN c==9)=(c==9):=nZ rfl
theorem SA(c:ai):(aN c==32)=(c==32):=nZ rfl
def b92(c:ai):(aN c==92)=(c==92):=nZ rfl
def acx(c:ai):(aN c==123)=(c==123):=nZ rfl
def asz(c:ai):(aN c==110)=(c==110):=nZ rfl
def asA(c:ai):(aN c==116)=(c==116):=nZ rfl
def asB(c:ai):(aN c==115)=(c==115):=nZ rfl
def asC(c:ai):(aN c==114)=(c==114):=nZ rfl
def asD{raw:L ai}{k:U}(hk:k+2≤raw.length)(r:raw.length≤67108864):∃n:U,2≤n∧k+n≤raw.length∧bA (IZ (raw.drop k)) 2=J (n:M)∧bA (Ju raw) ((k+2:U):M)=J ((k+n:U):M):=by
 have hd:(raw.drop k).length=raw.length-k:=by simp
 have:=pf (f:=IZ (raw.drop k)) (g:=Ju raw) (λx y=>∃n:U,2≤n∧k+n≤raw.length∧x=(n:M)∧y=((k+n:U):M)) (λx y=>∃n:U,2≤n∧k+n≤raw.length∧x=(n:M)∧y=((k+n:U):M)) (λx=>raw.length-k-x.toNat) (λx y h=>by
  obtain⟨n,h1,h2,rfl,rfl⟩:=h
  unfold IZ Ju PA gC al aB ag bL aq ay au ej cu
  have j:=cI (i:=n) (by omega)
  have l:aO.wrap (((k+n:U):M)+1)=((k+(n+1):U):M):=by grind [wrap_i64]
  rcases gW (k+n) raw.length with hn|hn
  have a:n<(raw.drop k).length:=by omega
  have c1:decide ((n:M)<af (raw.drop k))=W:=by simp;omega
  have b:decide (((k+n:U):M)<af raw)=W:=by simp;omega
  have m:bw (k+n) raw.length=W:=(cq _ _).2 hn
  have o:bw n (raw.drop k).length=W:=(cq _ _).2 a
  have e:(raw.drop k).getD n 0=raw[k+n]:=by grind
  have p:raw.getD (k+n) 0=raw[k+n]:=by grind
  have q:eP raw[k+n].toNat=aN raw[k+n]:=rfl
  simp only[c1,b,eE,e,p,m,o,q,SA,b9,aw,j,l]
  generalize raw[k+n]=c
  by_cases h:c=32∨c=9
  left
  refine⟨_,_,?_,?_,⟨n+1,by omega,by omega,rfl,rfl⟩,by simp;omega⟩
  rcases h with h|h<;>simp[h]
  grind
  right
  have d:¬c=32∧¬c=9:=⟨λe=>h (.inl e),λe=>h (.inr e)⟩
  refine⟨_,_,?_,?_,⟨n,h1,h2,rfl,rfl⟩⟩
  simp[d]
  simp[d];omega
  right
  have c1:decide ((n:M)<af (raw.drop k))=I:=by simp;omega
  have b:decide (((k+n:U):M)<af raw)=I:=by simp;omega
  rw[c1,b]
  exact⟨_,_,by simp,by simp,⟨n,h1,h2,rfl,rfl⟩⟩) (x:=2) (y:=((k+2:U):M)) ⟨2,by omega,hk,rfl,rfl⟩ (js (uV (uZ _ _) (uZ _ _)) (cb (bT (by omega))))
 grind
def Ak(d:ai):Q ai:=if d=110 then J 10 else if d=116 then J 9 else if d=115 then J 32 else if d=114 then J 13 else if d=92 then J 92 else if d=123 then J 123 else O
def asE(d:ai):Jt (aN d)=J (match Ak d with|some b=>(aN b,W)|none=>(0,I)):=by unfold Jt Ak ag;rw[asz,asA,asB,asC,b92,acx];by_cases h1:d=110;simp[h1];rfl;by_cases h2:d=116;simp[h2];rfl;by_cases h3:d=115;simp[h3];rfl;by_cases a:d=114;simp[a];rfl;grind
def asF(d:ai)(r:L ai):bA (CL (92::d::r)) 0=J (match Ak d with|some b=>.inl (2,1,[b],0)|none=>.inr ()):=by
 unfold Ak;by_cases h1:d=110;subst h1;kernel_rfl;by_cases h2:d=116;subst h2;kernel_rfl;by_cases h3:d=115;subst h3;kernel_rfl;by_cases a:d=114;subst a;kernel_rfl;by_cases e:d=92;subst e;kernel_rfl;by_cases g:d=123;subst g;kernel_rfl;simp only[h1,h2,h3,a,e,g,bC];refine ep (f:=CL (92::d::r)) 6 (λi=>(i:M)) (λi hi=>?_) (by unfold CL bJ al aB ag bL aq ay au ej aY;dsimp-proj only[ah];rfl) (by decide);have hn:bw 1 (92::d::r).length=W:=(cq _ _).2 (by simp);have h:i=0∨i=1∨i=2∨i=3∨i=4∨i=5:=by omega
 have q:∀c:ai,d≠c→(aN d==aN c)=I:=λc j=>xC j;unfold CL bJ al aB ag bL aq ay au ej aY;dsimp-proj only[ah];simp only[hn,List.getD_cons_succ,ot];rcases h with rfl|rfl|rfl|rfl|rfl|rfl
 rw[show aN ((([[110,10],[116,9],[115,32],[114,13],[92,92],[123,123]]:L (L ai)).getD ((0:U):M).toNat []).getD 0 0)=aN 110 from rfl,q 110 h1];rfl;rw[show aN ((([[110,10],[116,9],[115,32],[114,13],[92,92],[123,123]]:L (L ai)).getD ((1:U):M).toNat []).getD 0 0)=aN 116 from rfl,q 116 h2];rfl;rw[show aN ((([[110,10],[116,9],[115,32],[114,13],[92,92],[123,123]]:L (L ai)).getD ((2:U):M).toNat []).getD 0 0)=aN 115 from rfl,q 115 h3];rfl;rw[show aN ((([[110,10],[116,9],[115,32],[114,13],[92,92],[123,123]]:L (L ai)).getD ((3:U):M).toNat []).getD 0 0)=aN 114 from rfl,q 114 a];rfl;rw[show aN ((([[110,10],[116,9],[115,32],[114,13],[92,92],[123,123]]:L (L ai)).getD ((4:U):M).toNat []).getD 0 0)=aN 92 from rfl,q 92 e];rfl;rw[show aN ((([[110,10],[116,9],[115,32],[114,13],[92,92],[123,123]]:L (L ai)).getD ((5:U):M).toNat []).getD 0 0)=aN 123 from rfl,q 123 g];rfl
def n5(s:L ai):Q (ai×U):=if[38,108,116,59].isPrefixOf s then J (60,4)else if[38,103,116,59].isPrefixOf s then J (62,4)else if[38,97,109,112,59].isPrefixOf s then J (38,5) else if[38,108,98,59].isPrefixOf s then J (123,4)else if[38,114,98,59].isPrefixOf s then J (125,4)else O
def asG(s:L ai):Jo s=J (match n5 s with|some (c,n)=>(aN c,(n:M),W)|none=>(0,0,I)):=by unfold Jo n5 ag;simp only[EG,aw];split;rfl;split;rfl;split;rfl;split;rfl;split<;>rfl
def EK(s:L ai):tT s 0=ak (lO s [38,108,116,59]) λr1=>if r1=W then J (.inr (.inl (4,1,[60],0)))else J (.inl 1):=by kernel_rfl
def EL(s:L ai):tT s 1=ak (lO s [38,103,116,59]) λr1=>if r1=W then J (.inr (.inl (4,1,[62],0)))else J (.inl 2):=by kernel_rfl
def EM(s:L ai):tT s 2=ak (lO s [38,97,109,112,59]) λr1=>if r1=W then J (.inr (.inl (5,1,[38],0)))else J (.inl 3):=by kernel_rfl
def EN(s:L ai):tT s 3=ak (lO s [38,108,98,59]) λr1=>if r1=W then J (.inr (.inl (4,1,[123],0)))else J (.inl 4):=by kernel_rfl
def EO(s:L ai):tT s 4=ak (lO s [38,114,98,59]) λr1=>if r1=W then J (.inr (.inl (4,1,[125],0)))else J (.inl 5):=by kernel_rfl
def EP(s:L ai):tT s 5=J (.inr (.inr ())):=by kernel_rfl
def asH(s:L ai):bA (tT s) 0=J (match n5 s with|some (c,n)=>.inl ((n:M),1,[c],0)|none=>.inr ()):=by have f:∃n,fuel=n+6:=⟨fuel-6,by simp_all [fuel]⟩;let⟨n,f⟩:=f;unfold bA n5;rw[f];cases a:pA [38,108,116,59] s;cases h1:pA [38,103,116,59] s;cases h2:pA [38,97,109,112,59] s;cases h3:pA [38,108,98,59] s;cases b:pA [38,114,98,59] s<;>simp only[dy,EK,EL,EM,EN,EO,EP,rO,aw,bh,bC,bf,a,h1,h2,h3,b];rfl;simp only[dy,EK,EL,EM,EN,EO,EP,rO,aw,bh,bC,bf,a,h1,h2,h3];rfl;simp only[dy,EK,EL,EM,EN,EO,EP,rO,aw,bh,bC,bf,a,h1,h2];rfl;simp only[dy,EK,EL,EM,EN,EO,EP,rO,aw,bh,bC,bf,a,h1];rfl;simp only[dy,EK,EL,EM,EN,EO,EP,rO,aw,bh,bC,bf,a];rfl
def wid(x:aC):U:=if x.1=1 then x.2.1.length else 1
def bK(f:L aC):U:=(f.map wid).sum
def asI(x:aC):wid x≤x.2.1.length+1:=by grind [wid]
theorem xD(a b:L aC):bK (a++b)=bK a+bK b:=by simp[bK]
def pi(f:L aC):bK f≤tot f:=by
 induction f with|nil=>simp[bK,tot]|cons a r b=>have:=asI a;simp[bK,tot]at b ⊢;omega
def Lf(f:L aC)(i:U):bK (f.take i)≤bK f:=by grind [xD,l7]
theorem ER{f:L aC}{i:U}(h:i<f.length):bK (f.take (i+1))=bK (f.take i)+wid f[i]:=by rw[iz h,xD];simp[bK]
def acy(x:aC):DB x=J (wid x:M):=by grind [DB,wid]
theorem ES{o:Q (L aC)}(b:tot (o.getD [])≤1073741824):tZ o=J (bK (o.getD []):M):=by
 have c:=dH (o.getD []);have h3:=pi (o.getD []);have:bA (DC o) (0,0)=J (bK (o.getD []):M):=by refine ep (f:=DC o) (o.getD []).length (λi=>((bK ((o.getD []).take i):M),(i:M))) (λi hi=>?_) ?_ (cb (bT (by omega)));have d:=Lf (o.getD []) (i+1);have a:=ER hi;unfold DC bq aF aj aq aR ay au;rw[lL hi,getD_at hi,acy,aw,wrap_i64 (by simp only[];omega) (by simp only[];omega),wrap_i64 (by simp only[];omega) (by simp only[];omega),a];rfl;unfold DC bq aF aj aq aR ay au;simp_all
 unfold tZ aM;rw[this];rfl
theorem qz{o:Q (L aC)}(b:tot (o.getD [])≤1073741824):lN o=J (bK (o.getD []):M):=by
 have c:=dH (o.getD []);have h3:=pi (o.getD []);have:bA (Cy o) (0,0)=J (bK (o.getD []):M):=by refine ep (f:=Cy o) (o.getD []).length (λi=>((bK ((o.getD []).take i):M),(i:M))) (λi hi=>?_) ?_ (cb (bT (by omega)));have d:=Lf (o.getD []) (i+1);have a:=ER hi;unfold Cy aF al aB ag aj aq aR ay au;dsimp-proj only[ah];rw[dq hi,getD_at hi,ax (by simp;omega)];unfold wid at a;by_cases h:(o.getD [])[i].1=1;rw[ax h]at a;simp only[h,beq_self_eq_true,bf];rw[wrap_i64 (by simp;omega) (by simp;omega),eo (by omega),a];simp;grind [wrap_i64];unfold Cy aF al aB ag aj aq aR ay au;dsimp-proj only[ah];simp_all
 unfold lN aM;rw[this];rfl
def uE(a b at':U)(x:aC):L aC:=if max a at'<min b (at'+wid x)then[(x.1,if x.1=1 then(x.2.1.take (min b (at'+wid x)-at')).drop (max a at'-at')else x.2.1,x.2.2)]else[]
def gF(a b:U):U→L aC→L aC|_,[]=>[]|at',x::r=>uE a b at' x++gF a b (at'+wid x) r
def acz(a b:U):∀(f g:L aC)(at':U),gF a b at' (f++g)=gF a b at' f++gF a b (at'+bK f) g|[],g,at'=>by simp[gF,bK]|x::f,g,at'=>by rw[List.cons_append,gF,gF,acz a b f g,List.append_assoc];simp[bK,Nat.add_assoc]
def SB(a b:U):∀(f:L aC)(at':U),(gF a b at' f).length≤f.length|[],at'=>by simp[gF]|x::f,at'=>by have:=SB a b f (at'+wid x);grind [gF,uE]
theorem acA(a b:U):∀(f:L aC)(at':U),tot (gF a b at' f)≤tot f|[],at'=>by simp[gF]|x::f,at'=>by have:=acA a b f (at'+wid x);grind [tot,gF,uE]
def acB{α:Type}(l:L α)(a b:U):aV (a:M) (b:M) l=(l.take b).drop a:=by unfold aV;simp
def acC(a b:U):mI (a:M) (b:M)=((max a b:U):M):=by grind [mI]
def acD(a b:U):gN (a:M) (b:M)=((min a b:U):M):=by grind [gN]
def acE{f:L aC}{i:U}(h:i<f.length)(a b:U):gF a b 0 (f.take (i+1))=gF a b 0 (f.take i)++uE a b (bK (f.take i)) f[i]:=by rw[iz h,acz];simp[gF]
def SC{α:Type}(l:L α)(x:α):J (l++[x])=aL (l++[x]):=by cases l<;>rfl
theorem asJ{o:Q (L aC)}(p:tot (o.getD [])≤1073741824){a b:U}(d:a≤b)(q:b≤bK (o.getD [])):bA (DD o (a:M) (b:M)) (O,0,0)=J (aL (gF a b 0 (o.getD []))):=by
 have r:=dH (o.getD []);have h3:=pi (o.getD []);refine ep (f:=DD o (a:M) (b:M)) (o.getD []).length (λi=>(aL (gF a b 0 ((o.getD []).take i)),(bK ((o.getD []).take i):M),(i:M))) (λi hi=>?_) ?_ (cb (bT (by omega)));have s:=Lf (o.getD []) (i+1);have e:=ER hi;have t:=SB a b ((o.getD []).take i) 0;have g:((o.getD []).take i).length≤(o.getD []).length:=by simp;omega
 rw[acE hi,e];unfold DD uE bq aF al aB ag aj aq aR ay au aY;dsimp-proj only[ah];simp only[];rw[lL hi,getD_at hi,acy,aw];generalize u:(o.getD [])[i]=x at *;generalize bK ((o.getD []).take i)=at' at *;have j:aO.wrap ((at':M)+(wid x:M))=((at'+wid x:U):M):=by grind [wrap_i64]
 have k:=cI (i:=i) (by omega);have l:aO.wrap (((max a at':U):M)-(at':M))=((max a at'-at':U):M):=by grind [wrap_i64]
 simp only[j,k,acC,acD,l,bS];by_cases m:max a at'<min b (at'+wid x);have n:aO.wrap (((min b (at'+wid x):U):M)-(at':M))=((min b (at'+wid x)-at':U):M):=by grind [wrap_i64]
 have c:x.1=1→wid x=x.2.1.length:=λh=>by unfold wid;rw[ax h]
 simp only[n,acB];rw[ax,ax m,ax (by simp;omega),SC];by_cases hk:x.1=1<;>simp[hk];by_cases hk:x.1=1;have:=c hk;simp[hk];omega;simp[hk];omega;grind;unfold DD bq aF al aB ag aj aq aR ay au aY;dsimp-proj only[ah];simp_all
theorem asK{o:Q (L aC)}(q:tot (o.getD [])≤1073741824){a b:U}(k:a≤b)(r:b≤bK (o.getD [])):bA (CA o (a:M) (b:M)) (O,0,0)=J (aL (gF a b 0 (o.getD []))):=by
 have s:=dH (o.getD []);have h3:=pi (o.getD []);refine ep (f:=CA o (a:M) (b:M)) (o.getD []).length (λi=>(aL (gF a b 0 ((o.getD []).take i)),(bK ((o.getD []).take i):M),(i:M))) (λi hi=>?_) ?_ (cb (bT (by omega)));have t:=Lf (o.getD []) (i+1);have d:=ER hi;have u:=SB a b ((o.getD []).take i) 0;have l:((o.getD []).take i).length≤(o.getD []).length:=by simp;omega
 rw[acE hi,d];unfold CA uE aF al aB ag aj aq aR ay au aY;dsimp-proj only[ah];simp only[];rw[dq hi,getD_at hi];generalize v:(o.getD [])[i]=x at *;generalize bK ((o.getD []).take i)=at' at *;have j:=cI (i:=i) (by omega);have m:aO.wrap (((max a at':U):M)-(at':M))=((max a at'-at':U):M):=by grind [wrap_i64]
 by_cases hk:x.1=1;have e:wid x=x.2.1.length:=by unfold wid;rw[ax hk]
 rw[e]at d ⊢;have g:aO.wrap ((at':M)+af x.2.1)=((at'+x.2.1.length:U):M):=by grind [dp,wrap_i64]
 have n:aO.wrap (((min b (at'+x.2.1.length):U):M)-(at':M))=((min b (at'+x.2.1.length):U):M)-(at':M):=eo (by omega);simp only[hk,g,j,acC,acD,m,n,bS,qI,bh,bC];by_cases c:max a at'<min b (at'+x.2.1.length);have p:((min b (at'+x.2.1.length):U):M)-(at':M)=((min b (at'+x.2.1.length)-at':U):M):=by omega
 simp only[p,acB];rw[ax (by simp;omega),ax (by simp;omega),ax c,SC];simp;rw[ax (by simp;omega),aK (by simp;omega),aK c,Aw];have e:wid x=1:=by unfold wid;rw[aK hk]
 rw[e]at d ⊢;have h:(x.1 !=1)=W:=by simpa[bne]using hk
 have g:aO.wrap ((at':M)+1)=((at'+1:U):M):=by grind [wrap_i64]
 simp only[h,g,j,bS,bf];by_cases c:max a at'<min b (at'+1);rw[ax (by simp;omega),ax (by simp;omega),ax c,SC,aK hk];rw[ax (by simp;omega),aK (by simp;omega),aK c,Aw];unfold CA aF al aB ag aj aq aR ay au aY;dsimp-proj only[ah];simp_all
def fL(f:L aC)(a b:M):Q (L aC)×ao:=if a<0∨b<a∨b>bK f then(O,I)else(aL (gF a.toNat b.toNat 0 f),W)
theorem Lg{o:Q (L aC)}(c:tot (o.getD [])≤1073741824)(a b:M):pb o a b=J (fL (o.getD []) a b):=by grind [pb,fL,ES,aw,asJ]
theorem mY{o:Q (L aC)}(c:tot (o.getD [])≤1073741824)(a b:M):kZ o a b=J (fL (o.getD []) a b):=by grind [kZ,fL,qz,aw,asK]
def fM(s:L ai):L ai:=match dW s 32 with|.ofNat k=>s.take k|_=>s
def asL(s:L ai):zN s [32]=J (dW s 32):=by unfold zN bJ al ag ej;by_cases h:([32]:L ai)=s;subst h;rfl;simp[h,cq];rfl
def SE{s:L ai}(c:s.length≤1073741824):rF s [32]=J (fM s,s.drop ((fM s).length+1),decide ((fM s).length<s.length)):=by
 unfold rF Jn fM al aB aR;rw[asL,aw];rcases jD s 32 with⟨e,hn⟩|⟨k,e,hk,a,hn⟩
 rw[e];simp;rw[e];have w:aO.wrap ((k:M)+af [(32:ai)])=((k+1:U):M):=by rw[wrap_i64 (by simp;omega) (by simp;omega)];simp
 have b:aV 0 (k:M) s=s.take k:=fF s 0 k;rw[ax (by simp),w,ax (by simp;omega),gE,b];grind [aw]
def asM{s:L ai}(a:s.length≤1073741824):JP s=J (fM s):=by unfold JP;rw[SE a];rfl
theorem uF{s:L ai}(l:s.length≤1073741824):o7 s=J (fM s):=by
 have run:∀(m:U)(r:L ai⊕bu),m≤s.length→(∀j:U,j<m→s[j]?≠J 32)→wR s (m:M)=J (.inr r)→bA (wR s) 0=J r:=by
  intro m r h1 h2 h3;refine ep (f:=wR s) m (λi=>(i:M)) (λi hi=>?_) h3 (cb (bT (by omega)));have d:i<s.length:=by omega
  have c:=h2 i hi;rw[du d]at c;have g:(aN s[i]==32)=I:=xC (b:=32) λe=>c (by rw[e]);unfold wR bJ al aB ag bL aq ay au cu;rw[dq d,ax (xA d),ke d,g,eo (by omega)];rfl
 unfold o7 fM aM;rcases jD s 32 with⟨e,hn⟩|⟨k,e,hk,a,hn⟩
 rw[run s.length (.inr ()) (dD _) (λj _=>hn j) (by unfold wR bJ al aB ag bL aq ay au cu;rw[eZ]),e];rfl;have g:(aN s[k]==32)=W:=by rw[du a]at hk;rw[qG hk];rfl
 have h:aV 0 (k:M) s=s.take k:=fF s 0 k;rw[run k (.inl (s.take k)) (by omega) hn (by unfold wR bJ al aB ag bL aq ay au cu;rw[dq a,ax (xA a),ke a,g,ax rfl,ax (by simp;omega),h]),e];rfl
def acF(s:L ai):(fM s).length≤s.length:=by unfold fM;split<;>simp;omega
def xE(b:ai):ao:= !(decide (aN b<32)||(decide (aN b>126)||(b==60||(b==62||(b==123||b==125)))))
def mZ(s:L ai):ao:=decide (s.length≤64)&&(s.all xE&&(gf (fM s)&&((decide ((fM s).length=s.length)||decide (s.length>(fM s).length+1))&&(s.getLastD 0 !=47))))
def acG{s:L ai}(h:s≠[]):s.getD (s.length-1) 0=s.getLastD 0:=by grind
theorem SF(c:ai):(aN c==47)=(c==47):=by rw[uX,cT,cT];exact⟨λh=>uC (b:=47) h,λe=>by rw[e];rfl⟩
theorem ET(c:ai):(aN c==60)=(c==60):=by rw[uX,cT,cT];exact⟨λh=>uC (b:=60) h,λe=>by rw[e];rfl⟩
def b62(c:ai):(aN c==62)=(c==62):=by rw[uX,cT,cT];exact⟨λh=>uC (b:=62) h,λe=>by rw[e];rfl⟩
def SG(c:ai):(aN c==123)=(c==123):=by rw[uX,cT,cT];exact⟨λh=>uC (b:=123) h,λe=>by rw[e];rfl⟩
def asO(c:ai):(aN c==125)=(c==125):=by rw[uX,cT,cT];exact⟨λh=>uC (b:=125) h,λe=>by rw[e];rfl⟩
def asP(c:ai):strings_IndexByte [60,62,123,125] (aN c)=J (if c=60 then 0 else if c=62 then 1 else if c=123 then 2 else if c=125 then 3 else-1):=by
 have h:(aN c).toNat.toUInt8=c:=by simp[aN]
 grind [strings_IndexByte,Dj,Di,aw,dW]
def SH(s:L ai):Dl s=J (mZ s):=by
 unfold Dl mZ aM al ag bL aR cu;by_cases d:s.length≤64;by_cases a:s=[];subst a;rfl;have b:0<s.length:=List.length_pos_iff.2 a;have w:aO.wrap (af s-1)=((s.length-1:U):M):=by grind [dp,wrap_i64]
 have e:=uA (f:=Dk s) s xE I 0 (λi h _=>by
  have f4:=asP s[i]
  unfold aN at f4
  have g:decide (0≤(i:M))=W:=by simp
  have hn:bw i s.length=W:=(cq _ _).2 h
  unfold Dk xE gC aB bL aq ay au ej
  rw[dq h,g,ke h,eo (by omega)]
  grind [aw]) (by unfold Dk gC aB bL aq ay au ej;rw[eZ]) s.length 0 fuel (by omega) (cb (bT (by omega))) (by omega)
 have c0:decide (af s>64)=I:=by simp;omega
 have c1:(af s==0)=I:=by simp;omega
 have j:=acF s;simp only[w,c0,c1,eE,acG a,SF];rw[ax (by simp[cq];omega)];cases k:s.getLastD 0==47;rw[aK (by simp),show bA (Dk s) 0=_ from e,aw,Fi];cases c:s.all xE;simp;rw[ax rfl,o0,SE (by omega),aw,uB,aw];have l:(s.getLastD 0 !=47)=W:=by grind
 rw[l,iM d];congr 1;cases gf (fM s);rfl;rw[uX];simp;omega;grind;grind [af]
def SI(s:L ai):CJ s=J (mZ s):=by
 unfold CJ mZ aM al aB ag bL aq aR cu;dsimp-proj only[ah];by_cases d:s.length≤64;have g:=uA (f:=CI s) s xE I 0 (λi h _=>by unfold CI xE al aB ag bL aq ay au cu;dsimp-proj only[ah];rw[dq h,ax (xA h),ke h,eo (by omega),ET,b62,SG,asO];cases(decide (aN s[i]<32)||(decide (aN s[i]>126)||(s[i]==60||(s[i]==62||(s[i]==123||s[i]==125)))))<;>rfl) (by unfold CI al aB ag bL aq ay au cu;dsimp-proj only[ah];rw[eZ]) s.length 0 fuel (by omega) (cb (bT (by omega))) (by omega);have c0:decide (af s>64)=I:=by simp;omega
 have j:=acF s;rw[c0,aK (by simp),show bA (CI s) 0=_ from g,aw,Fi];cases a:s.all xE;simp;rw[ax rfl,o0,uF (by omega),aw,Ai,aw,iM d];cases k:gf (fM s);simp;have b:s≠[]:=by intro e;subst e;revert k;decide
 have c:0<s.length:=List.length_pos_iff.2 b;have w:aO.wrap (af s-1)=((s.length-1:U):M):=by grind [dp,wrap_i64]
 have l:aO.wrap (af (fM s)+1)=((fM s).length:M)+1:=by rw[dp,eo (by omega)]
 simp only[w,l,eE,acG b,bne,SF];rw[ax (by grind [cq])];congr 1;grind [af];grind [af]
def pj(s:L ai):ao:=decide (s=[112])||(decide (s=[104])||(decide (s=[108,105])||(decide (s=[116,100])||decide (s=[116,105,116,108,101]))))
theorem SJ(s:L ai):zw s=J (pj s):=rfl
theorem SL(s:L ai):zM s=J (pj s):=by grind [zM,pj]
def acH{s:L ai}{j:U}(h:j<s.length):aV (j:M) ((j+1:U):M) s=[s[j]]:=by rw[fF,iz h,List.drop_append_of_le_length (by simp;omega)];simp
def asQ{s:L ai}{c:ai}(b:s[0]?≠J c)(p:s.length≤1073741824):ry s [c] 1=J (dW s c):=by
 have step:∀j,j<s.length→lb s [c] (j:M)=if s[j]?=J c then J (.inr (.inl (j:M)))else J (.inl ((j+1:U):M)):=λj a=>by
  unfold lb bJ aB aq aR ay au;have w:aO.wrap ((j:M)+af [c])=((j+1:U):M):=by rw[wrap_i64 (by simp;omega) (by simp;omega)];simp
  have d:aO.wrap ((j:M)+1)=((j+1:U):M):=by simp_all
  rw[w,ax (by simp;omega),ax (by simp;omega),acH a,d,du a];simp
 have stop:∀j,s.length≤j→j≤s.length+1→lb s [c] (j:M)=J (.inr (.inr ())):=λj a g=>by grind [lb,af,wrap_i64]
 have run:∀(m:U)(r:M⊕bu),1≤m→m≤s.length+1→(∀j,1≤j→j<m→j<s.length∧s[j]?≠J c)→lb s [c] (m:M)=J (.inr r)→bA (lb s [c]) 1=J r:=by intro m r h1 h2 l q;refine ep (f:=lb s [c]) (m-1) (λi=>((i+1:U):M)) (λi hi=>?_) (by grind) (js (show m-1≤1073741824 by omega) (by decide));let⟨t,u⟩:=l (i+1) (by omega) (by omega);grind
 unfold ry aM;rcases jD s c with⟨e,hn⟩|⟨k,e,hk,n,hn⟩
 rcases gW s.length 1 with h|h
 rw[run 1 (.inr ()) (by omega) (by omega) (λj _ _=>by omega) (stop 1 (by omega) (by omega)),e];rfl;rw[run s.length (.inr ()) h (by omega) (λj _ h=>⟨h,hn j⟩) (stop _ (by omega) (by omega)),e];rfl;have o:k≠0:=λh=>by subst h;exact b hk
 rw[run k (.inl (k:M)) (by omega) (by omega) (λj _ h=>⟨by omega,hn j h⟩) (by grind),e];rfl
def asR{s:L ai}(c:s.length≤1073741824):Jp s [47]=J (decide (af s>0)&&aN (s.getD (aO.wrap (af s-1)).toNat 0)==47):=by
 unfold Jp Pz al aR;cases b:s with
 |nil=>rfl|cons d r=>
  rw[←b];have hp:0<s.length:=by rw[b];simp
  have w:aO.wrap (af s-af [(47:ai)])=((s.length-1:U):M):=by grind [dp,wrap_i64]
  have e:aO.wrap (af s-1)=((s.length-1:U):M):=by simp_all
  have a:s.length-1<s.length:=by omega
  have f:aV ((s.length-1:U):M) (af s) s=[s[s.length-1]]:=by have:=acH a;simp_all
  have g:s.getD (s.length-1) 0=s[s.length-1]:=by grind
  grind [eE,SF,Decidable.decide,af,aw]
def qA(b:L ai):ao:=decide (af b>0)&&aN (b.getD (aO.wrap (af b-1)).toNat 0)==47
def fN(b:L ai):M×L ai:=if[47].isPrefixOf b then(3,b.drop 1)else if qA b then(4,b.take (b.length-1))else(2,b)
def pk(b:L ai):ao:=if[47].isPrefixOf b then gf (b.drop 1)else mZ (fN b).2
def acI{b:L ai}(h:qA b=W):0<b.length:=by grind [qA,dp]
def asT{b:L ai}(h:[47].isPrefixOf b=W):0<b.length:=by grind
def acJ{s:L ai}(f:s.length≤67108864):Dm s=J (if dW s 62<1 then((0,[],0),0,I)else(((fN (aV 1 (dW s 62) s)).1,(fN (aV 1 (dW s 62) s)).2,0),dW s 62+1,pk (aV 1 (dW s 62) s))):=by
 unfold Dm bJ al aB ag aq aR;dsimp-proj only[ah];rw[show strings_IndexByte s 62=J (dW s 62)from rfl,aw];rcases jD s 62 with⟨e,hn⟩|⟨k,e,hk,d,hn⟩
 rw[e];rfl;rw[e];by_cases c:(k:M)<1;grind;rw[ia c,aK (by decide),aK c,ax (by simp;omega),EG,aw];have g:(aV 1 (k:M) s).length≤67108864:=by rw[show(1:M)=((1:U):M)from rfl,fF];simp;omega
 generalize aV 1 (k:M) s=b at *;have w:aO.wrap ((k:M)+1)=(k:M)+1:=by grind [wrap_i64]
 have t1:aV 1 (af b) b=b.drop 1:=gE b 1;unfold pk fN;cases hp:[47].isPrefixOf b with
 |true=>have:=asT hp;rw[ax rfl,ax (by simp;omega),t1,uB,aw,w];rfl|false=>
  rw[aK (by decide),asR (by omega),aw];show(if(!qA b||_)=W then _ else O)=_;cases a:qA b with|true=>have:=acI a;have h:aO.wrap (af b-1)=((b.length-1:U):M):=(by grind [dp,wrap_i64]);simp_all [aV,qA,SH]|false=>unfold qA at a;simp only[a,qF,u7,bf,bh,bC,SH,aw,w]
def acK{s:L ai}(n:s.length≤67108864)(f:s[0]?≠J 62):CK s=J (if dW s 62<1 then((0,[],0),0)else if pk (aV 1 (dW s 62) s)=W then(((fN (aV 1 (dW s 62) s)).1,(fN (aV 1 (dW s 62) s)).2,0),dW s 62+1)else((0,[],0),0)):=by
 unfold CK bJ al aB ag bL aq aR cu;dsimp-proj only[ah];rw[asQ f (by omega),aw];rcases jD s 62 with⟨e,hn⟩|⟨k,e,hk,i,hn⟩
 rw[e];rfl;rw[e];have j:k≠0:=λh=>by subst h;exact f hk
 rw[aK (by simp),aK (show ¬(k:M)<1 by omega),ax (by simp;omega),rO,aw];have o:(aV 1 (k:M) s).length≤67108864:=by rw[show(1:M)=((1:U):M)from rfl,fF];simp;omega
 generalize aV 1 (k:M) s=b at *;have w:aO.wrap ((k:M)+1)=(k:M)+1:=by grind [wrap_i64]
 have t1:aV 1 (af b) b=b.drop 1:=gE b 1;unfold pk fN;cases hp:[47].isPrefixOf b with
 |true=>grind [af,Ai,aw]|false=>
  cases a:qA b with
  |true=>have:=acI a;have d:aO.wrap (af b-1)=((b.length-1:U):M):=(by grind [dp,wrap_i64]);have t2:aV 0 ((b.length-1:U):M) b=b.take (b.length-1):=fF b 0 (b.length-1);unfold qA at a;simp only[d]at a;have n1:bw (b.length-1) b.length=W:=(by rw[cq];omega);have l:decide ((0:M)≤((b.length-1:U):M))=W:=(by simp);have m:decide ((0:M)≤0∧(0:M)≤((b.length-1:U):M)∧((b.length-1:U):M)≤af b)=W:=(by simp);have d3:((4:M)==3)=I:=rfl;have c:((4:M) !=3)=W:=rfl;rw[eE]at a;simp only[d,eE,a,n1,l,m,t2,d3,c,bf,bh,bC,SI,aw,w,pv,xZ,jg,uQ];cases mZ (b.take (b.length-1))<;>rfl
  |false=>
   unfold qA at a;have d3:((2:M)==3)=I:=rfl;have c:((2:M) !=3)=W:=rfl;have g:(!decide (af b>0)||decide ((0:M)≤aO.wrap (af b-1))&&bw (aO.wrap (af b-1)).toNat b.length)=W:=by
    rcases Nat.eq_zero_or_pos b.length with h|h
    simp_all;have d:aO.wrap (af b-1)=((b.length-1:U):M):=(by grind [dp,wrap_i64]);grind [cq,eE]
   simp only[g,a,d3,c,bf,bh,bC,SI,aw,w,pv,r8,xZ,qF,u7];cases mZ b<;>rfl
def b38(c:ai):(aN c==38)=(c==38):=nZ rfl
def rQ(s:L ai):Q (aC×M):=if dW s 62<1 then O else if pk (aV 1 (dW s 62) s)=W∧pj (fM (fN (aV 1 (dW s 62) s)).2)=I then J (((fN (aV 1 (dW s 62) s)).1,(fN (aV 1 (dW s 62) s)).2,0),dW s 62+1)else O
def pl:L ai→aC×M
 |[]=>((0,[],0),0)|c::r=>if c=60 then(rQ (c::r)).getD ((0,[],0),0)else if c=38 then match n5 (c::r)with|some (d,n)=>((1,[d],0),(n:M))|none=>((0,[],0),0)
  else if c=123 then((iJ (c::r)).1,((iJ (c::r)).2:M))else((1,[c],0),1)
def Al(b:L ai):(fN b).2.length≤b.length:=by grind [fN]
theorem acM(k:M)(s:L ai):(aV 1 k s).length≤s.length:=by unfold aV;simp;omega
def acN{s:L ai}(h:s≠[])(i:s.length≤67108864):IY s=J (pl s):=by
 cases s with
 |nil=>exact bX rfl h|cons c r=>
  unfold IY pl aM al ag ej;dsimp-proj only[ah];have j:bw 0 (c::r).length=W:=by simp[cq]
  have k:eP c.toNat=aN c:=rfl;simp only[j,pv,bf,ot,k,ET,b38,SG];by_cases a:c=60;subst a;have t:=acK (s:=60::r) i (by simp);rw[ax (by rfl),ax rfl,t];unfold rQ;have hk:=Lib.indexByte_ge (60::r) 62;by_cases h1:dW (60::r) 62<1;simp_all;rw[aK h1,aK h1];have l:=Al (aV 1 (dW (60::r) 62) (60::r));have g:=acM (dW (60::r) 62) (60::r);grind [uF,aw,SJ];have e:(c==60)=I:=by simpa using a
  rw[e,aK (by decide),aK a];by_cases b:c=38;subst b;rw[ax (by rfl),ax rfl,asH,aw];cases n5 (38::r)<;>rfl;have f:(c==38)=I:=by simpa using b
  rw[f,aK (by decide),aK b];by_cases d:c=123;subst d;rw[ax (by rfl),ax rfl,Sm (by simp) (by simp) (by omega)];rfl;simp_all [mR,Sn]
def asU(a:Q (L aC))(b d:Q (L M))(e:Q (L aC)×M)(c off:M):tX c off (a,b,d,e)=match qo c off (a,b,d)with|some (r,x,y,z)=>J (r,x,y,z,e)|none=>O:=by
 grind [tX,qo,Dh,pa,aw]
def acO(a:Q (L aC))(b d:Q (L M))(e:Q (L aC)×M):Dg (a,b,d,e)=match o9 (a,b,d)with|some (x,y,z)=>J (x,y,z,e)|none=>O:=by
 grind [Dg,o9]
def SM(a:Q (L aC))(b d:Q (L M))(e:Q (L aC)×M)(x:aC)(off:M):qm x off (a,b,d,e)=match rG x off (a,b,d)with|some (r,x,y,z)=>J (r,x,y,z,e)|none=>O:=by
 unfold qm rG al ag aj aY
 rw[show Dh I (a,b,d,e)=pa I (a,b,d)from rfl,acO]
 cases pa I (a,b,d)with
 |none=>rfl|some r=>
  simp only[aw];cases r;simp only[bh,bC];cases o9 (a,b,d)with|none=>rfl|some q=>let⟨c,g,f⟩:=q;by_cases h1:(c.getD []).length≤68719476735<;>by_cases h2:(f.getD []).length≤68719476735<;>simp[h1,h2]
  rfl
theorem Lh{s:L ai}(a:s.length≤1073741824):tY s=J (fM s):=by unfold tY;rw[SE a];rfl
def asV{kind:M}(hk:kind=2∨kind=4)(c:L ai)(off:M)(a:Q (L aC))(b d:Q (L M))(o:Q (L aC))(n:U)(f:(o.getD []).length≤1073741824)(hn:n≤1073741824):qn (kind,c,0) off (a,b,d,o,(n:M))=ak (qm (kind,c,((n+1:U):M)) off (a,b,d,if kind=2 then J (o.getD []++[(2,c,((n+1:U):M))])else o,((n+1:U):M))) λr=>ak (ld r.1) λe=>J (e,r.2):=by grind [qn,wrap_i64]
def asW(c:L ai)(off:M)(a:Q (L aC))(b d:Q (L M))(o:Q (L aC))(n:M)(e:o.getD []=[]):qn (3,c,0) off (a,b,d,o,n)=J (7,a,b,d,o,n):=by unfold qn bY al ag aj aq aR aY;dsimp-proj only[ah];simp[e]
def asX(c:L ai)(off:M)(a:Q (L aC))(b d:Q (L M))(o:L aC)(t:aC)(n:M)(m:o.length≤1073741824)(f:t.2.1.length≤1073741824):qn (3,c,0) off (a,b,d,J (o++[t]),n)=if fM t.2.1=c then ak (qm (3,c,t.2.2) off (a,b,d,J o,n)) λr=>ak (ld r.1) λe=>J (e,r.2)else J (7,a,b,d,J (o++[t]),n):=by
 unfold qn bY al ag aj aq aR aY;dsimp-proj only[ah];have w:aO.wrap (af (o++[t])-1)=((o.length:U):M):=by grind [dp,wrap_i64]
 have d3:((3:M)==3)=W:=rfl;have d2:((3:M)==2)=I:=rfl;have g:(af (o++[t])==0)=I:=by rw[beq_eq_false_iff_ne,dp];simp;omega
 have h:decide ((0:M)≤(o.length:M)∧(o.length:M)<af (o++[t]))=W:=by simp;omega
 have i:bw (0+o.length) (o++[t]).length=W:=by rw[cq];simp
 have j:decide ((0:M)≤0∧(0:M)≤(o.length:M)∧(o.length:M)≤af (o++[t]))=W:=by simp;omega
 have k:(o++[t]).getD (0+o.length) (0,[],0)=t:=by simp
 have l:aV 0 (o.length:M) (o++[t])=o:=by grind [fF]
 simp only[eB,w,d3,d2,g,h,i,j,k,l,eE,Lh f,aw,bf,bh,bC,lu,Option.isSome_some,pv,qF,u7,beq_self_eq_true];grind
abbrev BM:=Q (L aC)×Q (L M)×Q (L M)×Q (L aC)×M
def asY{raw r:L ai}{k:U}(hk:k<raw.length)(e:raw.length≤67108864)(b:raw.drop k=60::r)(q:BM):
  lP raw (k:M) q=match rQ (60::r)with|none=>J (0,2,q)|some (x,n)=>ak (qn x (k:M) q) λc=>J (n,c):=by
 have a:(60::r).length≤67108864:=by grind
 unfold lP bJ al aB ag aq;dsimp-proj only[ah]
 rw[gE,b,ax (by simp;omega),ax (by simp[cq]),ot,ax (by rfl),acJ a,aw]
 unfold rQ
 by_cases h1:dW (60::r) 62<1
 grind
 rw[aK h1,aK h1]
 have d:=Al (aV 1 (dW (60::r) 62) (60::r))
 grind [acM,Lh,aw,SL]
def asZ{raw r:L ai}{k:U}(hk:k<raw.length)(b:raw.drop k=38::r)(q:BM):
  lP raw (k:M) q=match n5 (38::r)with|none=>J (0,2,q)|some (d,n)=>ak (tX (aN d) (k:M) q) λa=>ak (ld a.1) λe=>J ((n:M),e,a.2):=by
 unfold lP bJ al aB ag aq;dsimp-proj only[ah]
 rw[gE,b,ax (by simp;omega),ax (by simp[cq]),ot,aK (by decide),ax (by rfl),asG,aw]
 grind
theorem as0{raw r:L ai}{c:ai}{k:U}(hk:k<raw.length)(b:raw.drop k=c::r)(h1:c≠60)(h2:c≠38)(h3:c≠123)(q:BM):lP raw (k:M) q=ak (tX (aN c) (k:M) q) λa=>ak (ld a.1) λe=>J (1,e,a.2):=by unfold lP bJ al aB ag aq;dsimp-proj only[ah];rw[gE,b,ax (by simp;omega),ax (by simp[cq]),ot,ET,b38,SG,aK (by simpa using h1),aK (by simpa using h2),aK (by simpa using h3),ax (by simp[cq])]
theorem as1{raw r:L ai}{k:U}(hk:k<raw.length)(l:raw.length≤67108864)(d:raw.drop k=123::r)(q:BM):lP raw (k:M) q=if(iJ (123::r)).2=0 then J (0,2,q)else ak (qm (iJ (123::r)).1 (k:M) q) λb=>ak (ld b.1) λe=>J (((iJ (123::r)).2:M),e,b.2):=by
 have c:(123::r).length≤67108864:=by grind
 unfold lP iJ bJ al aB ag aq;dsimp-proj only[ah];rw[gE,d,ax (by simp;omega),ax (by simp[cq]),ot,aK (by decide),aK (by decide),ax (by rfl),Ss,aw];rcases jD (123::r) 125 with⟨e,hn⟩|⟨j,e,f,a,hn⟩
 rw[e];rfl;rw[e];have m:j≠0:=λh=>by subst h;simp at f
 have n:aV 1 (j:M) (123::r)=((123::r).take j).drop 1:=fF _ 1 j;have w:=cI (i:=j) (by omega);have g:decide ((0:M)≤1∧(1:M)≤(j:M)∧(j:M)≤af (123::r))=W:=by simp at a ⊢;omega
 have o:decide ((j:M)<0)=I:=by simp
 grind [uB,ak]
def as2(c:ai)(r:L ai):pl (c::r)=if c=60 then(rQ (c::r)).getD ((0,[],0),0)else if c=38 then match n5 (c::r)with|some (d,n)=>((1,[d],0),(n:M))|none=>((0,[],0),0) else if c=123 then((iJ (c::r)).1,((iJ (c::r)).2:M))else((1,[c],0),1):=rfl
def as3{s:L ai}{d:ai}{n:U}(h:n5 s=J (d,n)):1≤n∧n≤s.length:=by grind [n5]
theorem as4(s:L ai):iJ s=((0,[],0),0)∨∃nm,iJ s=((5,nm,0),nm.length+2)∧nm.length+2≤s.length:=by
 unfold iJ;rcases jD s 125 with⟨e,hn⟩|⟨j,e,b,a,hn⟩
 rw[e];exact .inl rfl;rw[e];grind [gf]
def as5{raw:L ai}{k:U}(hk:k<raw.length)(o:raw.length≤67108864)(q:BM):(pl (raw.drop k)=((0,[],0),0)∧lP raw (k:M) q=J (0,2,q))∨(∃(t:ai)(n:U),1≤n∧k+n≤raw.length∧pl (raw.drop k)=((1,[t],0),(n:M))∧lP raw (k:M) q=ak (tX (aN t) (k:M) q) λf=>ak (ld f.1) λe=>J ((n:M),e,f.2))∨(∃(nm:L ai)(n:U),nm.length+2=n∧k+n≤raw.length∧pl (raw.drop k)=((5,nm,0),(n:M))∧lP raw (k:M) q=ak (qm (5,nm,0) (k:M) q) λf=>ak (ld f.1) λe=>J ((n:M),e,f.2))∨(∃(kd:M)(c:L ai)(n:U),(kd=2∨kd=3∨kd=4)∧c.length+2≤n∧k+n≤raw.length∧pl (raw.drop k)=((kd,c,0),(n:M))∧lP raw (k:M) q=ak (qn (kd,c,0) (k:M) q) λp=>J ((n:M),p)):=by
 have a:(raw.drop k).length=raw.length-k:=by simp
 cases l:raw.drop k with
 |nil=>grind|cons c r=>
  rw[l]at a;simp only[jr]at a;rw[as2];by_cases g:c=60;subst g;rw[asY hk o l];simp only[ax rfl];cases b:rQ (60::r)with
  |none=>grind|some x=>
   right;right;right;unfold rQ at b;split at b;cases b;rename_i h1;split at b;cases b;rcases jD (60::r) 62 with⟨e,hn⟩|⟨j,e,v,m,hn⟩
   grind;simp only[jr]at m;have h2:=Al (aV 1 (dW (60::r) 62) (60::r));have s:aV 1 (j:M) (60::r)=((60::r).take j).drop 1:=fF _ 1 j;have u:(((60::r).take j).drop 1).length=j-1:=(by simp;omega);rw[e]at h1 h2 ⊢;rw[s]at h2 ⊢;refine⟨(fN (((60::r).take j).drop 1)).1,(fN (((60::r).take j).drop 1)).2,j+1,?_,by omega,by omega,rfl,rfl⟩;grind [fN];cases b
  rw[aK g];by_cases h:c=38;subst h;rw[asZ hk l];simp only[ax rfl];cases b:n5 (38::r)with|none=>grind|some x=>let⟨d,n⟩:=x;right;left;have hn:1≤n∧n≤(38::r).length:=as3 b;exact⟨d,n,hn.1,by simp at hn;omega,rfl,rfl⟩
  rw[aK h];by_cases i:c=123;subst i;grind [as1,as4];grind [as0]
abbrev as6:=Q (L aC)×Q (L aC)×Q (L M)×M×M×M
def RMk(raw:L ai)(x:M×BM)(y:as6):Prop:=∃(k a:U)(items:L aC)(text:L ai)(b:Q (L M))(cs:L M)(o:Q (L aC)),k≤raw.length∧x=((k:M),aL items,b,aL cs,o,(a:M))∧b.getD []=ey text∧y=(aL (cK items text),o,aL cs,(k:M),(k:M),(a:M))∧pg items∧tot items+(text.length+1)≤2*k+1∧cs.length≤k∧a≤k∧(o.getD []).length≤k∧∀t∈o.getD [],t.2.1.length≤raw.length
def SMk(raw:L ai)(r:(bu×M×M)⊕BM)(q:(Q (L aC)×Q (L M)×M×M)⊕(Q (L aC)×Q (L aC)×Q (L M)×M)):Prop:=(∃(k:U)(e:M),k≤raw.length∧e≠0∧r=.inl ((),(k:M),e)∧q=.inl (O,O,(k:M),e))∨∃(b:U)(items:L aC)(text:L ai)(a:Q (L M))(cs:L M)(o:Q (L aC)),r=.inr (aL items,a,aL cs,o,(b:M))∧a.getD []=ey text∧q=.inr (aL (cK items text),o,aL cs,(raw.length:M))∧pg items∧tot items+(text.length+1)≤2*raw.length+1∧cs.length≤raw.length
def EU(b:ao):ld b=J (if b=W then 0 else 3):=by grind [ld]
def as8{raw:L ai}(Y:raw.length≤67108864):∃r q,bA (Jq raw) (0,O,O,O,O,0)=J r∧bA (nT 1 raw) (O,O,O,0,0,0)=J q∧SMk raw r q:=by
 refine pf (RMk raw) (SMk raw) (λx=>raw.length-x.1.toNat) (λx y h=>?_) ⟨0,0,[],[],O,[],O,by omega,rfl,rfl,rfl,⟨rfl,by simp⟩,by simp[tot],by simp,by omega,by simp,by simp⟩ (cb (bT (by simp;omega)))
 obtain⟨k,f,items,text,T,cs,o,hk,rfl,D,rfl,v,E,P,Z,V,j⟩:=h
 rcases gW k raw.length with R|hge
 ·have hti:=dH items
  have hfl:=uD items text
  have hll:=dH (cK items text)
  have d:∀x:aC,tot [x]=x.2.1.length+1:=λx=>by simp[tot]
  have c1:decide ((k:M)<af raw)=W:=by simp;omega
  have c2:decide (0≤(k:M)∧(k:M)≤af raw∧af raw≤af raw)=W:=by simp;omega
  have hE:ql 1 (raw.drop k)=J (pl (raw.drop k)):=by
   rw[←acN (λh=>by have:=bz uO h;simp at this;omega) (by simp;omega)]
   unfold ql ag;exact Zc _
  unfold Jq nT bY bJ al aB ag aj aq aR ay au aY;dsimp-proj only[ah]
  simp only[c1,c2,bf,gE,hE,aw]
  rcases as5 R Y (aL items,T,aL cs,o,(f:M))with⟨A,B⟩|⟨t,n,hn,F,A,B⟩|⟨N,n,hn,F,A,B⟩|⟨kd,c,n,MO,hn,F,A,B⟩
  ·right
   rw[B,A]
   exact⟨_,_,rfl,rfl,.inl ⟨k,2,hk,by omega,rfl,rfl⟩⟩
  ·rw[B,A,asU,Sq D (by omega) (by omega) (by omega)]
   have C:(((n:M)==0)=I):=by grind
   have w:aO.wrap ((k:M)+(n:M))=((k+n:U):M):=by grind [wrap_i64]
   have m:=lh (a:=aL (cK items text)) (b:=J [(1,[t],0)]) (by simp[d];omega)
   rw[bS,eB,ph,rP v,Sp v]at m
   have G:(cK items (text++[t])).length=items.length+1:=by rw[La];simp
   simp only[C,w,m,bS,G,aw,dp,EU]
   by_cases p:items.length+1>512∨cs.length≥1024
   ·right
    simp only[ax p]
    refine⟨_,_,rfl,?_,.inl ⟨k,3,hk,by omega,rfl,rfl⟩⟩
    simp
    omega
   ·left
    simp only[aK p]
    refine⟨_,_,rfl,?_,⟨k+n,f,items,text++[t],J (ey (text++[t])),cs++[(k:M)],o,by omega,rfl,rfl,rfl,v,by simp;omega,by simp;omega,by omega,by omega,j⟩,by simp;omega⟩
    grind [iq]
  ·rw[B,A,SM]
   obtain⟨s,u,H⟩:=EJ (items:=items) D (by omega) (show cs.length≤1073741824 by omega) (5,N,0) (k:M)
   rw[H]
   have C:(((n:M)==0)=I):=by grind
   have w:aO.wrap ((k:M)+(n:M))=((k+n:U):M):=by grind [wrap_i64]
   have m:=lh (a:=aL (cK items text)) (b:=J [(5,N,0)]) (by simp[d];omega)
   obtain⟨f1,f2⟩:=EH v text (x:=(5,N,0)) (show(5:M)≠1 by decide)
   rw[bS,eB,ph,rP v,f1]at m
   simp only[C,w,m,bS,aw,dp,lr,jr,AB,EU]
   by_cases p:(cK items text).length+1>512∨cs.length≥1024
   ·right
    simp only[ax p]
    refine⟨_,_,rfl,?_,.inl ⟨k,3,hk,by omega,rfl,rfl⟩⟩
    simp
    omega
   ·left
    simp only[aK p]
    refine⟨_,_,rfl,?_,⟨k+n,f,cK items text++[(5,N,0)],[],s,cs++[(k:M)],o,by omega,rfl,u,rfl,f2,by grind [gR],by simp;omega,by omega,by omega,j⟩,by simp;omega⟩
    grind [iq,cK]
  ·have C:(((n:M)==0)=I):=by grind
   have w:aO.wrap ((k:M)+(n:M))=((k+n:U):M):=by grind [wrap_i64]
   have wc:=cI (i:=f) (by omega)
   rw[B,A]
   rcases(show kd=3∨kd=2∨kd=4 by omega)with rfl|g
   ·
    rcases List.eq_nil_or_concat (o.getD [])with X|⟨l,t,e⟩
    ·rw[asW c (k:M) _ _ _ o (f:M) X]
     right
     simp only[aw,C,X]
     exact⟨_,_,rfl,rfl,.inl ⟨k,7,hk,by omega,rfl,rfl⟩⟩
    ·have e:o.getD []=l++[t]:=by simpa using e
     obtain rfl:o=J (l++[t]):=by
      cases o with
      |none=>simp at e
      |some z=>simp at e;rw[e]
     simp only[eB]at V j
     have htl:=j t (by simp)
     rw[lr,List.length_singleton]at V
     have wl:aO.wrap (af (l++[t])-1)=((l.length:U):M):=by grind [dp,wrap_i64]
     have g1:decide ((0:M)≤(l.length:M)∧(l.length:M)<af (l++[t]))=W:=by simp;omega
     have g2:bw (0+l.length) (l++[t]).length=W:=by rw[cq];simp
     have g3:decide ((0:M)≤0∧(0:M)≤(l.length:M)∧(l.length:M)≤af (l++[t]))=W:=by simp;omega
     have g4:decide ((l.length:M)<0)=I:=by simp
     have e2:(l++[t]).getD (0+l.length) (0,[],0)=t:=by simp
     have e3:aV 0 (l.length:M) (l++[t])=l:=by grind [fF]
     have S:o7 t.2.1=J (fM t.2.1):=uF (by omega)
     have m:=lh (a:=aL (cK items text)) (b:=J [(3,c,t.2.2)]) (by simp[d];omega)
     obtain⟨f1,f2⟩:=EH v text (x:=(3,c,t.2.2)) (show(3:M)≠1 by decide)
     rw[bS,eB,ph,rP v,f1]at m
     rw[asX c (k:M) _ _ _ l t (f:M) (by omega) (by omega)]
     have q0:(((3:M)==0)=I):=rfl
     have q2:(((3:M)==2)=I):=rfl
     have q3:(((3:M)==3)=W):=rfl
     have q4:(((3:M)==4)=I):=rfl
     simp only[C,wl,g1,g2,g3,g4,e2,e3,S,m,w,q0,q2,q3,q4,aw,eB,lu,eE,bf,bC,bh,pv]
     by_cases K:fM t.2.1=c
     ·obtain⟨s,u,H⟩:=EJ (items:=items) D (by omega) (show cs.length≤1073741824 by omega) (3,c,t.2.2) (k:M)
      rw[ax K,SM,H]
      by_cases p:(cK items text).length+1>512∨cs.length≥1024
      ·right
       simp only[ax p,K,EU,aw,w]
       refine⟨_,_,rfl,?_,.inl ⟨k,3,hk,by omega,rfl,rfl⟩⟩
       simp
       omega
      ·left
       simp only[aK p,K,EU,aw,w]
       refine⟨_,_,rfl,?_,⟨k+n,f,cK items text++[(3,c,t.2.2)],[],s,cs++[(k:M)],J l,by omega,rfl,u,rfl,f2,by grind [gR],by simp;omega,by omega,by simp;omega,λz hz=>j z (by grind)⟩,by simp;omega⟩
       simp[iq]
       rw[aK (by omega),ax (by omega)]
       simp[cK]
       cases l<;>rfl
     ·right
      rw[aK K]
      simp only[aw]
      refine⟨_,_,rfl,?_,.inl ⟨k,7,hk,by omega,rfl,rfl⟩⟩
      simp[K]
   ·
    have k3:(kd==3)=I:=by rcases g with rfl|rfl<;>rfl
    have k0:(kd==0)=I:=by rcases g with rfl|rfl<;>rfl
    have kk:(if(kd==2)=W then kd==2 else kd==4)=W:=by rcases g with rfl|rfl<;>rfl
    have m:=lh (a:=aL (cK items text)) (b:=J [(kd,c,((f+1:U):M))]) (by simp[d];omega)
    obtain⟨f1,f2⟩:=EH v text (x:=(kd,c,((f+1:U):M))) (show kd≠1 by omega)
    rw[bS,eB,ph,rP v,f1]at m
    obtain⟨s,u,H⟩:=EJ (items:=items) D (by omega) (show cs.length≤1073741824 by omega) (kd,c,((f+1:U):M)) (k:M)
    rw[asV g c (k:M) _ _ _ o f (by omega) (by omega),SM,H]
    simp only[C,k0,kk,wc,m,w,aw,bS,dp,lr,jr,AB,EU,bf,bh,bC]
    by_cases p:(cK items text).length+1>512∨cs.length≥1024
    ·right
     simp only[ax p]
     refine⟨_,_,rfl,?_,.inl ⟨k,3,hk,by omega,rfl,rfl⟩⟩
     simp
     omega
    ·left
     simp only[aK p]
     refine⟨_,_,rfl,?_,⟨k+n,f+1,cK items text++[(kd,c,((f+1:U):M))],[],s,cs++[(k:M)],if kd=2 then J (o.getD []++[(2,c,((f+1:U):M))])else o,by omega,rfl,u,rfl,f2,by grind [gR],by simp;omega,by omega,by split<;>(try simp)<;>omega,λz hz=>?_⟩,by simp;omega⟩
     ·grind [iq,cK]
     grind
 ·right
  have:k=raw.length:=by omega
  subst this
  have c1:decide (((raw.length:U):M)<af raw)=I:=by simp
  unfold Jq nT bY bJ al aB ag aj aq aR ay au aY;dsimp-proj only[ah]
  simp only[c1]
  exact⟨_,_,rfl,rfl,.inr ⟨f,items,text,T,cs,o,rfl,D,rfl,v,E,P⟩⟩
theorem Li{raw:L ai}(j:raw.length≤67108864):∃f a at' e,hO 1 raw=J (f,a,at',e)∧zO raw=J (f,at',e)∧DE raw=J (a,e)∧0≤at'∧at'≤raw.length∧tot (f.getD [])≤2*raw.length+2:=by
 let⟨r,q,l,m,h⟩:=as8 j;unfold hO zO DE Jr aM al aB ag aj aY;rw[l,m];rcases h with⟨k,e,hk,g,rfl,rfl⟩|⟨n,items,text,p,cs,o,rfl,s,rfl,w,i,t⟩
 refine⟨O,O,k,e,rfl,?_,?_,by omega,by omega,by simp[tot]⟩;simp[g];simp[g];have u:=dH items;have v:=uD items text;by_cases c:(o.getD []).length>0;refine⟨O,O,(raw.length:U),7,?_,?_,?_,by omega,by omega,by simp[tot]⟩;simp[c];simp[c];simp[c];have d:∃b,Jl (aL items,p,aL cs,o,(n:M))=J (aL (cK items text),b):=by unfold Jl al;rw[acO,EI s (by omega)];simp_all
 let⟨b,d⟩:=d;refine⟨aL (cK items text),J (cs++[(raw.length:M)]),0,0,?_,?_,?_,by omega,by omega,by rw[bS];omega⟩;simp[c];omega;simp[c,d];unfold PQ al aj aY;simp[c];rw[ax (by omega)];rfl
def as9{s t:L ai}{j:U}(h:j+t.length≤s.length):decide (aV (j:M) ((j+t.length:U):M) s=t)=ya s t j:=by rw[fF];grind [ya,List.prefix_iff_eq_take]
def acQ{s t:L ai}{k:U}(hk:k≤s.length)(g:t≠[])(u:s.length≤67108864)(l:t.length≤67108864):ry s t (k:M)=J (if uR (s.drop k) t<0 then-1 else(k:M)+uR (s.drop k) t):=by
 have n:0<t.length:=List.length_pos_iff.2 g;have step:∀j,j+t.length≤s.length→lb s t (j:M)=if ya s t j=W then J (.inr (.inl (j:M)))else J (.inl ((j+1:U):M)):=λj c=>by
  unfold lb bJ aB aq aR ay au;have w:aO.wrap ((j:M)+af t)=((j+t.length:U):M):=by grind [dp,wrap_i64]
  have o:=cI (i:=j) (by omega);rw[w,ax (by simp;omega),ax (by simp;omega),as9 c,o]
 have stop:∀j,s.length<j+t.length→j≤s.length+1→lb s t (j:M)=J (.inr (.inr ())):=λj c p=>by unfold lb bJ aB aq aR ay au;grind [dp,wrap_i64]
 have run:∀(m:U)(r:M⊕bu),k≤m→m≤s.length+1→(∀j,k≤j→j<m→j+t.length≤s.length∧ya s t j=I)→lb s t (m:M)=J (.inr r)→bA (lb s t) (k:M)=J r:=by intro m r h1 h2 q v;refine ep (f:=lb s t) (m-k) (λi=>((k+i:U):M)) (λi hi=>?_) (by grind) (js (show m-k≤1073741824 by omega) (by decide));let⟨x,y⟩:=q (k+i) (by omega) (by omega);grind
 have d:∀j,ya (s.drop k) t j=ya s t (k+j):=λj=>by unfold ya;rw[List.drop_drop]
 unfold ry aM;rcases Lib.index_spec (s.drop k) t with⟨e,hn⟩|⟨i,e,hi,z,hn⟩
 rw[e];have b:∀j,k≤j→j≤s.length→ya s t j=I:=λj h1 h2=>by grind [Nat.add_sub_cancel']
 rcases gW s.length (k+t.length)with h|h
 rw[run k (.inr ()) (dD _) (by omega) (λj _ _=>by omega) (stop k h (by omega))];rfl;rw[run (s.length+1-t.length) (.inr ()) (by omega) (by omega) (λj h1 h2=>⟨by omega,b j h1 (by omega)⟩) (stop _ (by omega) (by omega))];rfl;have a:=aeV (s.drop k) t (by rw[e];omega);rw[e]at a ⊢;simp only[Fb]at a;rw[aK (by omega),run (k+i) (.inl ((k+i:U):M)) (by omega) (by omega) (λj h1 h2=>⟨by omega,by have:=hn (j-k) (by omega);grind⟩) (by grind)];simp
def qB:L ai→Q (U×L ai)
 |[]=>O|c::r=>if c≠60 then J (1,[])else if[60,33,45,45].isPrefixOf (c::r)=W then match uR ((c::r).drop 4) [45,45,62]with|.ofNat i=>J (i+7,[])|_=>O
  else match dW (c::r) 62 with|.ofNat j=>if j<1 then O else if pk (((c::r).take j).drop 1)=W then(if pj (fM (fN (((c::r).take j).drop 1)).2)=W then(if(fN (((c::r).take j).drop 1)).1=2 then J (j+1,fM (fN (((c::r).take j).drop 1)).2)else O)else J (j+1,[]))else O|_=>O
def Lj(data:L ai)(q:M)(nm:L ai)(s:M×L ai×Q (L cx)×M):Q ((M×M×L ai×Q (L cx)×M)⊕(Q (L cx)×M×M)⊕(L ai×Q (L cx)×M)):=
    if decide (nat_lit 2+nm.length≤nat_lit 1152921504606846976)=W then
     if
       decide
         (([(60:ai),(47:ai)]++nm).length+nat_lit 1≤
           nat_lit 1152921504606846976)=
        W then
      ak
       (ry data ([(60:ai),(47:ai)]++nm++[(62:ai)])
         (q))
       λa=>
       if
         decide
           ((0:M)≤q∧
             q≤af data∧af data≤af data)=
          W then
        if
          (!decide (a≥(0:M))||
             decide
              ((0:M)≤q∧
                q≤a∧a≤af data))=
            W then
         ak
          (hO (1:M)
            (if decide (a≥(0:M))=W then
              aV (q) a data
            else aV (q) (af data) data))
          λb=>
          if(b.snd.snd.snd !=(0:M))=W then
           J
            (kJ
              (mf
                (O,
                  aO.wrap
                   (q+b.snd.snd.fst),
                  b.snd.snd.snd)))
          else
           if decide (a<(0:M))=W then
            J (kJ (mf (O,af data,(2:M))))
           else
            ak (wW (aO.wrap (s.1+(1:M))))
             λc=>
             ak
              (rB c (q) a
                s.2)
              λd=>
              J
               (mf
                 (aO.wrap (aO.wrap (a+af nm)+(3:M)),
                   aO.wrap (s.1+(1:M)),d))
        else O
       else O
     else O
    else O
def Lk(data:L ai)(q:M)(nm:L ai)(s:M×L ai×M×Q (L cx)):Q ((M×M×L ai×M×Q (L cx))⊕(Q (L cx)×M×M)⊕(L ai×M×Q (L cx))):=
    if
      decide
        ((0:M)≤q∧
          q≤af data∧af data≤af data)=
       W then
     if decide (nat_lit 2+nm.length≤nat_lit 1152921504606846976)=W then
      if
        decide
          (([(60:ai),(47:ai)]++nm).length+nat_lit 1≤
            nat_lit 1152921504606846976)=
         W then
       ak
        (Fd.strings_Index (aV (q) (af data) data)
          ((60:ai)::
            (47:ai)::
              (((nm))++[(62:ai)])))
        λa=>
        if
          decide
            ((0:M)≤q∧
              (q≤
                 if decide (a<(0:M))=W then af data
                 else aO.wrap (q+a))∧
                (if decide (a<(0:M))=W then af data
                  else aO.wrap (q+a))≤
                  af data)=
           W then
         ak
          (zO
            (aV (q)
              (if decide (a<(0:M))=W then af data
              else aO.wrap (q+a))
              data))
          λb=>
          if(b.snd.snd !=(0:M))=W then
           J
            (kJ
              (mf
                (O,aO.wrap (q+b.snd.fst),
                  b.snd.snd)))
          else
           if decide (a<(0:M))=W then J (kJ (mf (O,af data,(2:M))))
           else
            ak (Fd.strconv_Itoa (aO.wrap (s.1+(1:M)))) λc=>
             ak
              (xc (q)
                (if decide (a<(0:M))=W then af data
                else aO.wrap (q+a))
                c s.2)
              λd=>
              if
                (decide (nat_lit 2+nm.length≤nat_lit 1152921504606846976)&&
                   decide
                    (([(60:ai),(47:ai)]++nm).length+nat_lit 1≤
                      nat_lit 1152921504606846976))=
                  W then
               J
                (mf
                  (aO.wrap
                     ((if decide (a<(0:M))=W then af data
                       else aO.wrap (q+a))+
                       af ([(60:ai),(47:ai)]++nm++[(62:ai)])),
                    aO.wrap (s.1+(1:M)),d))
              else O
        else O
      else O
     else O
    else O
def ata{data nm:L ai}{k b a:U}{P:L cx}(E:data.length≤65536)(hk:k≤data.length)(hn:nm.length≤5)(F:b≤65536)(j:a≤k)(l:P.length≤1073741824):(∃at' e:M,e≠0∧Lj data (k:M) nm ((b:M),data,aL P,(a:M))=J (.inr (.inl (O,at',e)))∧Lk data (k:M) nm ((b:M),data,(a:M),aL P)=J (.inr (.inl (O,at',e))))∨∃(k2 g:U)(h:L cx),k<k2∧k2≤data.length∧g≤k2∧h.length=P.length+2∧Lj data (k:M) nm ((b:M),data,aL P,(a:M))=J (.inl ((k2:M),((b+1:U):M),data,aL h,(g:M)))∧Lk data (k:M) nm ((b:M),data,(a:M),aL P)=J (.inl ((k2:M),((b+1:U):M),data,(g:M),aL h)):=by
 have c1:decide (nat_lit 2+nm.length≤nat_lit 1152921504606846976)=W:=by grind
 have q:decide (([(60:ai),(47:ai)]++nm).length+nat_lit 1≤nat_lit 1152921504606846976)=W:=by grind
 have r:decide ((0:M)≤(k:M)∧(k:M)≤af data∧af data≤af data)=W:=by simp;omega
 have m:([(60:ai),(47:ai)]++nm++[(62:ai)]).length=nm.length+3:=by simp
 have u:=acQ (s:=data) (t:=[(60:ai),(47:ai)]++nm++[(62:ai)]) hk (by simp) (by omega) (by rw[m];omega);have v:Fd.strings_Index (data.drop k) ((60:ai)::(47:ai)::(nm++[(62:ai)]))=J (uR (data.drop k) ([(60:ai),(47:ai)]++nm++[(62:ai)])):=by grind [strings_Index]
 have w:=cI (i:=b) (by omega);unfold Lj Lk;rw[u];simp only[c1,q,r,gE,v,aw,bf,Bool.and_self];rcases Lib.index_spec (data.drop k) ([(60:ai),(47:ai)]++nm++[(62:ai)])with⟨e,_⟩|⟨i,e,hi,G,_⟩
 rw[e];let⟨f,d,at',n,o,p,_,x,h1,_⟩:=Li (raw:=data.drop k) (by simp;omega);grind [gE,aw];have c:=aeV (data.drop k) ([(60:ai),(47:ai)]++nm++[(62:ai)]) (by rw[e];omega);rw[e,m,Fb]at c;rw[e];let⟨f,d,at',n,o,p,_,x,h1,_⟩:=Li (raw:=aV (k:M) ((k+i:U):M) data) (by rw[fF];simp;omega);have d0:¬((i:M)<0):=by omega
 have y:(k:M)+(i:M)=((k+i:U):M):=by omega
 have z:aO.wrap ((k+i:U):M)=((k+i:U):M):=by grind [wrap_i64]
 have d1:decide (((k+i:U):M)≥0)=W:=by simp;omega
 have d2:decide ((i:M)<0)=I:=by simp
 have d3:decide ((0:M)≤(k:M)∧(k:M)≤((k+i:U):M)∧((k+i:U):M)≤af data)=W:=by simp;omega
 have d4:decide (((k+i:U):M)<0)=I:=by simp;omega
 simp only[aK d0,y,z,d1,d2,d3,d4,jg,uQ,bh,bf,bC,o,p,aw];by_cases A:n=0;right;subst A;have B:aO.wrap (((k+i:U):M)+af ([(60:ai),(47:ai)]++nm++[(62:ai)]))=((k+i+nm.length+3:U):M):=by grind [dp,wrap_i64]
 have C:aO.wrap (((k+i:U):M)+af nm)=((k+i+nm.length:U):M):=by grind [dp,wrap_i64]
 have D:aO.wrap (((k+i+nm.length:U):M)+3)=((k+i+nm.length+3:U):M):=by grind [wrap_i64]
 simp only[qI,bh,bC,w,Sw (b+1) (by omega),act (b+1) (by omega),aw,Sx j (Nat.le_add_right k i) (show k+i≤data.length by omega) l,Sy j (Nat.le_add_right k i) (show k+i≤data.length by omega) l,B,C,D];exact⟨k+i+nm.length+3,k+i,_,by omega,by omega,by omega,by simp,rfl,rfl⟩;grind
def acR{s:L ai}{n:U}{nm:L ai}(h:qB s=J (n,nm)):1≤n∧n≤s.length∧(nm=[]∨pj nm=W):=by
 unfold qB at h;cases s with
 |nil=>cases h
 |cons c r=>simp only at h;split at h;cases h;simp;split at h;rename_i hp;have a:=(L1.1 hp).length_le;split at h;rename_i i hi;cases h;have:=aeV ((c::r).drop 4) [45,45,62] (by grind);grind;cases h;split at h;grind [jD];cases h
def acS{nm:L ai}(h:pj nm=W):nm.length≤5∧nm≠[]:=by unfold pj at h;simp only[Bool.or_eq_true,decide_eq_true_eq]at h;rcases h with rfl|rfl|rfl|rfl|rfl<;>simp
def acT(l:L ai):gf (33::l)=I:=by
 unfold gf;have:nY 33=I:=by decide
 simp[this]
def acU(r:L ai):mZ (33::r)=I:=by
 have h:gf (fM (33::r))=I:=by
  unfold fM;split;rename_i k _;cases k with|zero=>rfl|succ k=>exact acT _
  exact acT _
 unfold mZ;rw[h];simp
def atb{s:L ai}(m:s≠[])(A:s.length≤65536):∃(a:M)(b:L ai),Js s=J (match qB s with|none=>(a,b,I)|some (n,nm)=>((n:M),nm,W)):=by
 cases s with
 |nil=>exact bX rfl m|cons c r=>
  unfold Js qB bJ al ag aR;rw[ax (by simp[cq]),ot];by_cases o:c=60;subst o;have f:(aN 60 !=60)=I:=rfl;simp only[f,bh,bC,EG,aw,ne_eq,not_true_eq_false];by_cases hp:[60,33,45,45].isPrefixOf (60::r)=W;have h:=(L1.1 hp).length_le;have p:aV (4:M) (af (60::r)) (60::r)=(60::r).drop 4:=gE _ 4;have g:decide ((0:M)≤4∧(4:M)≤af (60::r)∧af (60::r)≤af (60::r))=W:=by simp at h ⊢;omega
  have q:Fd.strings_Index ((60::r).drop 4) [45,45,62]=J (uR ((60::r).drop 4) [45,45,62]):=by grind [strings_Index]
  simp only[ax hp,g,bf,p,q,aw];have t:=Lib.index_ge ((60::r).drop 4) [45,45,62];have d:=Lib.index_le ((60::r).drop 4) [45,45,62];rw[Fb]at d;cases hi:uR ((60::r).drop 4) [45,45,62]with|ofNat i=>rw[hi]at d;have d:(i:M)≤(60::r).length:=(by grind);have w:aO.wrap (eP i+7)=((i+7:U):M):=(by grind [wrap_i64]);simp_all|negSucc i=>simp_all
  have k:[60,33,45,45].isPrefixOf (60::r)=I:=Bool.not_eq_true _|>.mp hp;rw[k,acJ (by omega)];simp only[bh,bC,aw];rcases jD (60::r) 62 with⟨e,_⟩|⟨j,e,B,u,_⟩
  simp_all;rw[e];have v:aV 1 (j:M) (60::r)=((60::r).take j).drop 1:=fF _ 1 j;by_cases l:j<1;grind;have d:=Al (((60::r).take j).drop 1);have x:=Lh (s:=(fN (((60::r).take j).drop 1)).2) (by grind);have y:((j:U):M)+1=((j+1:U):M):=by omega
  have z:¬((j:M)<1):=by omega
  simp only[Int.ofNat_eq_natCast,aK l,aK z,v];cases hT:pk (((60::r).take j).drop 1);exact⟨_,_,rfl⟩;simp only[jg,bh,bC,bf,x,aw,SL];cases C:pj (fM (fN (((60::r).take j).drop 1)).2);exact⟨0,[],rfl⟩;simp only[jg,bh,bC,bf];by_cases h2:(fN (((60::r).take j).drop 1)).1=2;simp_all;simp_all;have f:(aN c !=60)=W:=by have:=ET c;grind
  simp_all
def atc{data:L ai}{k:U}(hk:k<data.length)(g:data.length≤65536)(s:M×L ai×M×Q (L cx)):
  Dn data ((k:M),s)=match qB (data.drop k)with|none=>J (.inr (.inl (O,(k:M),2)))|some (n,c)=>if c=[]then J (.inl (((k+n:U):M),s))else Lk data ((k+n:U):M) c s:=by
 have c1:decide ((k:M)<af data)=W:=by simp;omega
 have d:decide ((0:M)≤(k:M)∧(k:M)≤af data∧af data≤af data)=W:=by simp;omega
 let⟨a,b,e⟩:=atb (s:=data.drop k) (λh=>by have:=bz uO h;simp at this;omega) (by simp;omega)
 unfold Dn fW bJ al aB ag aq aR ay au cr aY gP;dsimp-proj only[ah]
 simp only[c1,d,bf,gE,e,aw]
 cases f:qB (data.drop k)with
 |none=>rfl|some x=>
  let⟨n,c⟩:=x;let⟨h1,h2,h3⟩:=acR f;rw[Fb]at h2;have w:aO.wrap ((k:M)+(n:M))=((k+n:U):M):=by grind [wrap_i64]
  simp only[jg,bh,bC,w];by_cases hn:c=[];grind;rw[aK hn,aK (by simpa using hn)];rfl
def atd{data:L ai}{k:U}(hk:k<data.length)(Y:data.length≤65536)(s:M×L ai×Q (L cx)×M):
  wX data ((k:M),s)=match qB (data.drop k)with|none=>J (.inr (.inl (O,(k:M),2)))|some (n,z)=>if z=[]then J (.inl (((k+n:U):M),s))else Lj data ((k+n:U):M) z s:=by
 have c1:decide ((k:M)<af data)=W:=by simp;omega
 have D:decide ((0:M)≤(k:M)∧(k:M)≤af data∧af data≤af data)=W:=by simp;omega
 have E:(decide ((0:M)≤(k:M))&&bw (Int.toNat (k:M)) data.length)=W:=by simp[cq];omega
 have a:(data.drop k).length=data.length-k:=by simp
 cases f:data.drop k with
 |nil=>grind|cons c r=>
  have F:data.getD (Int.toNat (k:M)) 0=c:=by have h1:(data.drop k)[0]?=J c:=(by rw[f];rfl);grind
  rw[f]at a;have g:r.length+1=data.length-k:=a;unfold wX fW bJ al aB ag bL aq aR ay au cu aY gP;dsimp-proj only[ah];simp only[c1,D,E,bf,F,gE,f,rO,aw];by_cases G:c=60;subst G;have l:(aN 60 !=60)=I:=rfl;simp only[l,bh,bC];have b:=acK (s:=60::r) (by omega) (by simp);have fin:∀(hp:[60,33,45,45].isPrefixOf (60::r)=W),(if dW (60::r) 62<1 then(((0,[],0),0):aC×M)else if pk (aV 1 (dW (60::r) 62) (60::r))=W then(((fN (aV 1 (dW (60::r) 62) (60::r))).1,(fN (aV 1 (dW (60::r) 62) (60::r))).2,0),dW (60::r) 62+1)else((0,[],0),0))=((0,[],0),0):=by
   intro hp;rcases jD (60::r) 62 with⟨e,_⟩|⟨j,e,A,m,_⟩
   rw[e];rfl;rw[e];have o:aV 1 (j:M) (60::r)=((60::r).take j).drop 1:=fF _ 1 j;let⟨t,H⟩:=L1.1 hp;obtain rfl:r=33::45::45::t:=(by simpa using H.symm);have K:4≤j:=by
    match j,A with|0,h=>simp at h|1,h=>simp at h|2,h=>simp at h|3,h=>simp at h|j+4,_=>omega
   obtain⟨j',rfl⟩:∃j',j=j'+4:=⟨j-4,by omega⟩;have N:((60::33::45::45::t).take (j'+4)).drop 1=33::45::45::t.take j':=(by simp);have p:pk (33::45::45::t.take j')=I:=(by unfold pk fN;rw[aK (by simp),aK (by simp)];split;simpa using acU _;exact acU _);rw[o,N,p];simp
  unfold qB;simp only[ne_eq,not_true_eq_false,bC];by_cases hp:[60,33,45,45].isPrefixOf (60::r)=W;have q:=(L1.1 hp).length_le;have P:aO.wrap ((k:M)+4)=((k+4:U):M):=by grind [wrap_i64]
  have d:4≤(60::r).length:=q;have B:=acQ (s:=data) (t:=[45,45,62]) (k:=k+4) (by simp at d;omega) (by simp) (by omega) (by simp);have hd:data.drop (k+4)=(60::r).drop 4:=by rw[←f,List.drop_drop]
  rw[hd]at B;simp only[ax hp,P,B,aw];have R:=Lib.index_ge ((60::r).drop 4) [45,45,62];have u:=Lib.index_le ((60::r).drop 4) [45,45,62];cases hi:uR ((60::r).drop 4) [45,45,62]with|ofNat i=>grind [wrap_i64]|negSucc i=>grind [aw,uF]
  have v:[60,33,45,45].isPrefixOf (60::r)=I:=Bool.not_eq_true _|>.mp hp;simp only[v,bh,bC,b,aw];rcases jD (60::r) 62 with⟨e,_⟩|⟨j,e,A,m,_⟩
  simp_all [uF];rw[e];have o:aV 1 (j:M) (60::r)=((60::r).take j).drop 1:=fF _ 1 j;by_cases x:j<1;grind;have u:=Al (((60::r).take j).drop 1);have C:(((60::r).take j).drop 1).length≤(60::r).length:=by simp;omega
  have S:¬((j:M)<1):=by omega
  simp only[Int.ofNat_eq_natCast,aK x,aK S,o];cases hT:pk (((60::r).take j).drop 1);rfl;have T:=uF (s:=(fN (((60::r).take j).drop 1)).2) (by omega);have V:(((j:M)+1==0)=I):=by grind
  have w:aO.wrap ((k:M)+((j:M)+1))=((k+(j+1):U):M):=by grind [wrap_i64]
  simp only[bf,T,V,aw,SJ,bh,bC,w];cases X:pj (fM (fN (((60::r).take j).drop 1)).2);simp;have y:=(acS X).2;by_cases h2:(fN (((60::r).take j).drop 1)).1=2;simp only[h2,qI,Bool.and_false,bh,bC,jg,bf,aK y];rfl;grind;grind [ET,wrap_i64,qB]
def ate{data:L ai}(d:data.length≤65536):∃r q,bA (Dn data) (0,0,data,0,O)=J r∧bA (wX data) (0,0,data,O,0)=J q∧((∃a e:M,e≠0∧r=.inl (O,a,e)∧q=.inl (O,a,e))∨∃(a:U)(P:L cx),a≤data.length∧P.length≤2*data.length∧r=.inr (data,(a:M),aL P)∧q=.inr (data,aL P,(a:M))):=by
 refine pf (λx y=>∃(k b a:U)(P:L cx),k≤data.length∧b≤k∧a≤k∧P.length≤2*k∧x=((k:M),(b:M),data,(a:M),aL P)∧y=((k:M),(b:M),data,aL P,(a:M))) _ (λx=>data.length-x.1.toNat) (λx y h=>?_) ⟨0,0,0,[],by omega,by omega,by omega,by simp,rfl,rfl⟩ (cb (bT (by simp;omega)));obtain⟨k,b,a,P,hk,p,s,t,rfl,rfl⟩:=h;rcases gW k data.length with c|i
 rw[atc c d,atd c d];cases j:qB (data.drop k)with
 |none=>simp_all|some x=>
  let⟨n,nm⟩:=x;let⟨h1,h2,h3⟩:=acR j;rw[Fb]at h2;by_cases hn:nm=[];left;simp only[ax hn];exact⟨_,_,rfl,rfl,⟨k+n,b,a,P,by omega,by omega,by omega,by omega,rfl,rfl⟩,by simp;omega⟩;have l:=acS (h3.resolve_left hn);simp only[aK hn];rcases ata (data:=data) (nm:=nm) (k:=k+n) (b:=b) (a:=a) (P:=P) d (by omega) l.1 (by omega) (by omega) (by omega)with⟨at',e,u,f,g⟩|⟨k2,m,o,v,w,z,A,f,g⟩
  grind;left;rw[f,g];exact⟨_,_,rfl,rfl,⟨k2,b+1,m,o,by omega,by omega,by omega,by omega,rfl,rfl⟩,by simp;omega⟩
 right;have c1:decide ((k:M)<af data)=I:=by simp;omega
 unfold Dn wX fW bJ al aB ag bL aq aR ay au cr cu aY gP;dsimp-proj only[ah];simp only[c1,bh,bC];exact⟨_,_,rfl,rfl,.inr ⟨a,P,by omega,by omega,rfl,rfl⟩⟩
def atf{data:L ai}(b:data.length≤65536):∃P at' e,zy data=J (P,at',e)∧Do data=J (P,at',e)∧(P.getD []).length≤2*data.length+1:=by
 let⟨r,q,d,f,h⟩:=ate b;unfold zy Do xa aM aB;have c:decide (af data>65536)=I:=by simp;omega
 rw[f,c];simp only[bh,bC,aw,d];rcases h with⟨a,e,g,rfl,rfl⟩|⟨a,P,i,j,rfl,rfl⟩
 simp_all;unfold rA xb al aj aY;simp only[aw,o0,bS];rw[ax (by simp;omega),ax (by simp;omega)];simp_all
def acV{raw:L ai}{k:U}(hk:k<raw.length)(F:raw.length≤67108864)(a:Q (L aC))(b d:Q (L M))(m la:M):(tU (raw.drop k)=J ((0,[],0),0)∧xe raw (k:M) (a,b,d,m,la)=J ((k:M),2,a,b,d,m,la))∨(∃n:U,2≤n∧k+n≤raw.length∧tU (raw.drop k)=J ((0,[],0),(n:M))∧xe raw (k:M) (a,b,d,m,la)=J (((k+n:U):M),0,a,b,d,m,la))∨(∃(t:ai)(n:U),1≤n∧k+n≤raw.length∧tU (raw.drop k)=J ((1,[t],0),(n:M))∧xe raw (k:M) (a,b,d,m,la)=ak (zQ (aN t) m (a,b,d,m,la)) λr=>if(!r.fst)=W then J ((k:M),3,r.snd)else J (((k+n:U):M),0,r.snd.fst,r.snd.snd.fst,r.snd.snd.snd.fst,((k+n:U):M),((k+n:U):M)))∨(∃(nm:L ai)(n:U),nm.length+2=n∧k+n≤raw.length∧tU (raw.drop k)=J ((5,nm,0),(n:M))∧xe raw (k:M) (a,b,d,m,la)=ak (Dr (5,nm,0) m (a,b,d,m,la)) λr=>if(!r.fst)=W then J ((k:M),3,r.snd)else J (((k+n:U):M),0,r.snd.fst,r.snd.snd.fst,r.snd.snd.snd.fst,((k+n:U):M),((k+n:U):M))):=by
 have f:(raw.drop k).length=raw.length-k:=by simp
 have G:aO.wrap ((k:M)+2)=((k+2:U):M):=by grind [wrap_i64]
 have H:=cI (i:=k) (by omega);have u:=λh=>asD (raw:=raw) (k:=k) h F;unfold xe aM bJ al aB ag aq aR ej aY;dsimp-proj only[ah];rw[ax (by simp;omega),gE,Ss,H,G];cases K:raw.drop k with
 |nil=>grind|cons c r=>
  rw[K]at f u;simp only[jr]at f;have N:bw 0 (c::r).length=W:=by simp[cq]
  unfold tU aM al aB ag ej aY;dsimp-proj only[ah];simp only[N,ot,r8,bf,qy,b92,acx];by_cases z:c=10;grind;have w:(c==10)=I:=by simpa using z
  by_cases p:c=123;subst p;have A:=Sm (s:=123::r) (by simp) (by simp) (by simp;omega);have o:((123:ai)==92)=I:=rfl;have l:((123:ai)==123)=W:=rfl;simp only[w,o,l,A,aw,bh,bC,bf,qF,u7,pv,Fw];unfold iJ;rcases jD (123::r) 125 with⟨e,hn⟩|⟨j,e,P,B,hn⟩
  grind;have R:j≠0:=λh=>by subst h;simp at P
  simp only[jr]at B;have S:aV 1 (j:M) (123::r)=((123::r).take j).drop 1:=fF (123::r) 1 j;have T:(((123::r).take j).drop 1).length=j-1:=by simp;omega
  have g:decide ((0:M)≤1∧1≤(j:M)∧(j:M)≤af (123::r))=W:=by simp;omega
  have V:aO.wrap (aO.wrap ((k:M)+(j:M))+1)=((k+(j+1):U):M):=by grind [wrap_i64]
  rw[e,aK (by simp),g,S,uB,V];simp only[Int.ofNat_eq_natCast,aw,bf];cases X:gf (((123::r).take j).drop 1);grind;right;right;grind;have l:(c==123)=I:=by simpa using p
  by_cases x:c=92;subst x;have o:((92:ai)==92)=W:=rfl;cases r with
  |nil=>simp|cons t r=>
   have C:bw 1 (92::t::r).length=W:=(by simp[cq]);have D:decide (af (92::t::r)>1)=W:=(by simp;omega);have E:decide (af (92::t::r)<2)=I:=(by simp;omega);have hi:eP t.toNat=aN t:=rfl;simp only[w,o,l,C,D,E,List.getD_cons_succ,ot,qy,hi,asF,asE,aw,bh,bC,bf,jg,qF,u7,uQ,xZ,pv,r8,Fw];by_cases t10:t=10;right;left;subst t10;let⟨n,Y,Z,q3,q4⟩:=u (by simp at f;omega);refine⟨n,Y,Z,?_,?_⟩;simp only[Ak];simp_all;simp_all;have q:(t==10)=I:=(by simpa using t10);have y:(aN t !=10)=W:=(by unfold bne;rw[qy,q];rfl);rw[q,y];cases hE:Ak t with|none=>simp_all|some v=>right;right;left;exact⟨v,2,by omega,by simp at f;omega,rfl,by simp⟩
  have o:(c==92)=I:=by simpa using x
  right;right;left;refine⟨c,1,by omega,by omega,?_,?_⟩;have:=Sn c;simp_all [aN,mR];grind
def RX(raw:L ai)(x:M×acv)(y:Q (L aC)×Q (L aC)×Q (L M)×M×M×M):Prop:=∃(k a:U)(items:L aC)(text:L ai)(b:Q (L M))(cs:L M),k≤raw.length∧a≤k∧x=((k:M),aL items,b,aL cs,(a:M),(a:M))∧b.getD []=ey text∧y=(aL (cK items text),O,aL cs,(k:M),(a:M),0)∧pg items∧tot items+(text.length+1)≤2*k+1∧cs.length≤k
def SX(raw:L ai)(r:(bu×M×M)⊕acv)(q:(Q (L aC)×Q (L M)×M×M)⊕(Q (L aC)×Q (L aC)×Q (L M)×M)):Prop:=(∃(k:U)(e:M),k≤raw.length∧e≠0∧r=.inl ((),(k:M),e)∧q=.inl (O,O,(k:M),e))∨∃(a:U)(items:L aC)(text:L ai)(b:Q (L M))(cs:L M),a≤raw.length∧r=.inr (aL items,b,aL cs,(a:M),(a:M))∧b.getD []=ey text∧q=.inr (aL (cK items text),O,aL cs,(a:M))∧pg items∧tot items+(text.length+1)≤2*raw.length+1∧cs.length≤raw.length
def acW{raw:L ai}(F:raw.length≤67108864):∃r q,bA (Jv raw) (0,O,O,O,0,0)=J r∧bA (nT 2 raw) (O,O,O,0,0,0)=J q∧SX raw r q:=by
 refine pf (RX raw) (SX raw) (λx=>raw.length-x.1.toNat) (λx y h=>?_) ⟨0,0,[],[],O,[],by omega,by omega,rfl,rfl,rfl,⟨rfl,by simp⟩,by simp[tot],by simp⟩ (cb (bT (by simp;omega)));obtain⟨k,d,items,text,z,cs,hk,A,rfl,u,rfl,e,i,B⟩:=h;rcases gW k raw.length with C|G
 have H:=dH items;have K:=uD items text;have N:=dH (cK items text);have c:∀x:aC,tot [x]=x.2.1.length+1:=λx=>by simp[tot]
 have c1:decide ((k:M)<af raw)=W:=by simp;omega
 have P:decide (0≤(k:M)∧(k:M)≤af raw∧af raw≤af raw)=W:=by simp;omega
 have R:∀s,ql 2 s=tU s:=λs=>by unfold ql ag;exact Zc _
 unfold Jv nT bY bJ al aB ag aj aq aR ay au aY;dsimp-proj only[ah];simp only[c1,P,bf,gE,R,aw];rcases acV C F (aL items) z (aL cs) (d:M) (d:M)with⟨f,g⟩|⟨n,hn,j,f,g⟩|⟨t,n,hn,j,f,g⟩|⟨v,n,hn,j,f,g⟩
 right;rw[g,f];exact⟨_,_,rfl,rfl,.inl ⟨k,2,hk,by omega,rfl,rfl⟩⟩;left;rw[g,f];have l:(((n:M)==0)=I):=by grind
 have w:aO.wrap ((k:M)+(n:M))=((k+n:U):M):=by grind [wrap_i64]
 simp only[aw,l,w];exact⟨_,_,rfl,rfl,⟨k+n,d,items,text,z,cs,by omega,by omega,rfl,u,rfl,e,by omega,by omega⟩,by simp;omega⟩;rw[g,f,asx,Sq u (by omega) (by omega) (by omega)];have l:(((n:M)==0)=I):=by grind
 have w:aO.wrap ((k:M)+(n:M))=((k+n:U):M):=by grind [wrap_i64]
 have m:=lh (a:=aL (cK items text)) (b:=J [(1,[t],0)]) (by simp[c];omega);rw[bS,eB,ph,rP e,Sp e]at m;have o:(cK items (text++[t])).length=items.length+1:=by rw[La];simp
 simp only[l,w,m,bS,o,aw,dp];by_cases p:items.length+1>512∨cs.length≥1024;right;simp only[ax p];refine⟨_,_,rfl,?_,.inl ⟨k,3,hk,by omega,rfl,rfl⟩⟩;simp;omega;left;simp only[aK p];refine⟨_,_,rfl,?_,⟨k+n,k+n,items,text++[t],J (ey (text++[t])),cs++[(d:M)],by omega,by omega,rfl,rfl,rfl,e,by simp;omega,by simp;omega⟩,by simp;omega⟩;grind [iq];rw[g,f,asy];let⟨D,E,S⟩:=EJ (items:=items) u (by omega) (show cs.length≤1073741824 by omega) (5,v,0) (d:M);rw[S];have l:(((n:M)==0)=I):=by grind
 have w:aO.wrap ((k:M)+(n:M))=((k+n:U):M):=by grind [wrap_i64]
 have m:=lh (a:=aL (cK items text)) (b:=J [(5,v,0)]) (by simp[c];omega);let⟨f1,f2⟩:=EH e text (x:=(5,v,0)) (show(5:M)≠1 by decide);rw[bS,eB,ph,rP e,f1]at m;simp only[l,w,m,bS,aw,dp,lr,jr,AB];by_cases p:(cK items text).length+1>512∨cs.length≥1024;right;simp only[ax p];refine⟨_,_,rfl,?_,.inl ⟨k,3,hk,by omega,rfl,rfl⟩⟩;simp;omega;left;simp only[aK p];refine⟨_,_,rfl,?_,⟨k+n,k+n,cK items text++[(5,v,0)],[],D,cs++[(d:M)],by omega,by omega,rfl,E,rfl,f2,by grind [gR],by simp;omega⟩,by simp;omega⟩;grind [iq,cK];right;have:k=raw.length:=by omega
 subst this;have c1:decide (((raw.length:U):M)<af raw)=I:=by simp
 unfold Jv nT bY bJ al aB ag aj aq aR ay au aY;dsimp-proj only[ah];simp only[c1];exact⟨_,_,rfl,rfl,.inr ⟨d,items,text,z,cs,A,rfl,u,rfl,e,i,B⟩⟩
theorem acX{raw:L ai}(i:raw.length≤67108864):∃f a at' e,hO 2 raw=J (f,a,at',e)∧xf raw=J (f,at',e)∧0≤at'∧at'≤raw.length∧tot (f.getD [])≤2*raw.length+2:=by
 let⟨r,q,j,l,h⟩:=acW i;unfold hO xf Ds aM al aB ag aj aY;rw[j,l];rcases h with⟨k,e,hk,m,rfl,rfl⟩|⟨c,items,text,n,cs,o,rfl,p,rfl,v,g,s⟩
 refine⟨O,O,k,e,rfl,?_,by omega,by omega,by simp[tot]⟩;simp[m];have t:=dH items;have u:=uD items text;have d:∃b,zP (aL items,n,aL cs,(c:M),(c:M))=J (aL (cK items text),b):=by unfold zP al;rw[Sz,EI p (by omega)];simp_all
 let⟨b,d⟩:=d;refine⟨aL (cK items text),J (cs++[(c:M)]),0,0,?_,?_,by omega,by omega,by rw[bS];omega⟩;simp;omega;simp[d]
def atg{data:L ai}(a:data.length≤67108864)(p:ao){k:U}(hk:k≤data.length):∃n:U,k≤n∧n≤data.length∧rC data (k:M) p=J (n:M):=by
 obtain⟨r,e,n,h1,h2,rfl⟩:=eY (f:=wY data p) (λx=>∃n:U,k≤n∧n≤data.length+1∧x=(n:M)) (λx=>data.length+2-x.toNat) (λr=>∃n:U,k≤n∧n≤data.length+1∧r=(n:M)) (λx h=>by
  obtain⟨n,h1,h2,rfl⟩:=h
  unfold wY al ag bL aq ay au cu
  have b:=cI (i:=n) (by omega)
  have c:aO.wrap (((n+1:U):M)+1)=((n+2:U):M):=by grind [wrap_i64]
  by_cases hn:n<data.length
  have c1:decide ((n:M)<af data)=W:=by simp;omega
  have d:bw n data.length=W:=(cq _ _).2 hn
  grind
  grind [af]) (k:M) ⟨k,by omega,by omega,rfl⟩ (js (uZ _ _) (js (show data.length+2≤67108866 by omega) (by decide)))
 grind [rC,aw,gN,dp]
def ath(data:L ai)(at':M):PB data at'=rC data at' W:=by rfl
def jn(c:ai):ao:=(decide (aN c≥97)&&decide (aN c≤122))||(decide (aN c≥48)&&decide (aN c≤57))||aN c==46||aN c==95||aN c==45
theorem acY(c:ai):I3 (aN c)=J (jn c):=by grind [I3,jn]
theorem acZ(c:ai):(if decide (aN c≥(97:M))=W then !decide (aN c≤(122:M))&& if decide (aN c≥(48:M))=W then !decide (aN c≤(57:M))&& (!aN c==(46:M)&& (!aN c==(95:M)&& !aN c==(45:M))) else !aN c==(46:M)&& (!aN c==(95:M)&& !aN c==(45:M))
  else
   if decide (aN c≥(48:M))=W then
    !decide (aN c≤(57:M))&&
     (!aN c==(46:M)&&
       (!aN c==(95:M)&&
         !aN c==(45:M)))
   else
    !aN c==(46:M)&&
     (!aN c==(95:M)&&
       !aN c==(45:M)))= !jn c:=by
 grind [jn]
def rR{α:Type}(p:α→ao):∀s:L α,(s.takeWhile p).length≤s.length∧(∀i,i<(s.takeWhile p).length→∀h:i<s.length,p s[i]=W)∧∀h:(s.takeWhile p).length<s.length,p s[(s.takeWhile p).length]=I|[]=>by simp|c::s=>by let⟨h1,h2,h3⟩:=rR p s;grind [Fy]
def ati{s:L ai}(d:s.length≤67108864):Jx s=J ((min 65 (s.takeWhile jn).length:U):M):=by
 let⟨h1,h2,h3⟩:=rR jn s;have:=ep (f:=Jw s) (min 65 (s.takeWhile jn).length) (λi=>(i:M)) (r:=((min 65 (s.takeWhile jn).length:U):M)) (λi hi=>by
  have a:i<s.length:=by omega
  have hk:=h2 i (by omega) a
  unfold Jw al aB ag bL aq ay au cu;dsimp-proj only[ah]
  have e:s.getD i 0=s[i]:=by grind
  grind [wrap_i64,af,cq,acZ]) (by
  unfold Jw al aB ag bL aq ay au cu;dsimp-proj only[ah]
  by_cases b:(s.takeWhile jn).length<65
  have c:min 65 (s.takeWhile jn).length=(s.takeWhile jn).length:=by omega
  simp only[c]
  by_cases a:(s.takeWhile jn).length<s.length
  grind [cq,acZ]
  grind [af]
  grind) (js (show min 65 (s.takeWhile jn).length≤65 by omega) (by decide))
 grind [Jx,aw]
def atj{data:L ai}(g:data.length≤67108864){k:U}(hk:k≤data.length)(z:L ai×Q (L (ao×L ai×L ai))×M):bA (CQ data ((k:M),z)) (k:M)=J ((k+min 64 ((data.drop k).takeWhile jn).length:U):M):=by
 let⟨h1,h2,h3⟩:=rR jn (data.drop k);generalize hn:((data.drop k).takeWhile jn).length=n at h1 h2 h3;have hd:(data.drop k).length=data.length-k:=by simp
 have w0:aO.wrap ((k:M)+64)=((k+64:U):M):=by grind [wrap_i64]
 have:=ep (f:=CQ data ((k:M),z)) (min 64 n) (λi=>((k+i:U):M)) (r:=((k+min 64 n:U):M)) (λi hi=>by
  have a:k+i<data.length:=by omega
  have hk:=h2 i (by omega) (by omega)
  rw[AG]at hk
  unfold CQ gC aB ag bL aq aR ay au ej
  have b:data.getD (k+i) 0=data[k+i]:=by grind
  have c:eP data[k+i].toNat=aN data[k+i]:=rfl
  grind [wrap_i64,af,cq,acY,aw]) (by
  unfold CQ gC aB ag bL aq aR ay au ej
  simp only[w0]
  by_cases d:n<64
  have e:min 64 n=n:=by omega
  simp only[e]
  by_cases a:k+n<data.length
  have hk:=h3 (by omega)
  rw[AG]at hk
  have b:data.getD (k+n) 0=data[k+n]:=by grind
  have c:eP data[k+n].toNat=aN data[k+n]:=rfl
  grind [cq,acY,aw]
  grind [af]
  grind) (js (show min 64 n≤64 by omega) (by decide))
 exact this
theorem Ll{V:Type}(x:L ai)(r:L ai×V)(l:L (L ai×V)):cF .str x (r::l)=if x=r.1 then J r.2 else cF .str x l:=by grind [ij,cF]
def atk{V:Type}(x:L ai)(y:V)(r:L ai×V)(l:L (L ai×V)):eI .str x y (r::l)=if x=r.1 then(x,y)::l else r::eI .str x y l:=by grind [ij,eI]
def atl{V:Type}(x:L ai)(y:V):eI .str x y []=[(x,y)]:=rfl
theorem ac0{V:Type}(z x:L ai)(y:V):∀l:L (L ai×V),cF .str z (eI .str x y l)=if z=x then J y else cF .str z l|[]=>by rw[atl,Ll]|r::l=>by rw[atk];by_cases h:x=r.1;grind [Ll];rw[aK h,Ll,Ll,ac0 z x y l];grind
def EV(P:L cx)(key:L ai):ao:=P.any λp=>p.1&&decide (p.2.1=key)
def KM(m:L (L ai×ao))(P:L cx):Prop:=∀key,(cF .str key m).getD I=EV P key
def atm:KM [] []:=λ_=>rfl
def atn{m:L (L ai×ao)}{P:L cx}(h:KM m P)(key x y:L ai):KM (eI .str key W m) (P++[(I,[],x),(W,key,y)]):=λz=>by have:=h z;grind [EV,ac0]
def ato{P:L cx}(a:P.length≤67108864)(key:L ai):I2 (aL P) key=J (EV P key):=by
 have:=uA (f:=CP (aL P) key) P (λp=> !(p.1&&decide (p.2.1=key))) W 0 (λi h _=>by
  unfold CP al aB ag aj aq ay au;dsimp-proj only[ah]
  have b:P.getD i (I,[],[])=P[i]:=by grind
  grind [wrap_i64,af,cq,bS]) (by
  grind [CP,af,bS]) P.length 0 fuel (by omega) (js a (by decide)) (by omega)
 unfold I2 aM;have e:bA (CP (aL P) key) 0=J (if(P.drop 0).all (λp=> !(p.1&&decide (p.2.1=key)))then .inr ()else .inl W):=this;rw[e,aw,Fi];unfold EV;have h2:(P.all λp=> !(p.1&&decide (p.2.1=key)))= !(P.any λp=>p.1&&decide (p.2.1=key)):=by grind
 rw[h2];cases(P.any λp=>p.1&&decide (p.2.1=key))<;>rfl
def fG(c:ai):ao:= !(c==10)
def fg(c:ai):ao:=c==32||c==9
def EW{α:Type}{p:α→ao}:∀{s:L α}{k:U},(∀i,i<k→∀h:i<s.length,p s[i]=W)→(k=s.length∨∃h:k<s.length,p s[k]=I)→(s.takeWhile p)=s.take k|[],k,_,_=>by simp|c::s,0,_,h=>by simp_all|c::s,k+1,h1,h2=>by have a:p c=W:=h1 0 (by omega) (by simp);simp only[Fy,a,bf,List.take_succ_cons];congr 1;refine EW (λi hi h=>h1 (i+1) (by omega) (by simpa using h)) ?_;grind
def atp(s:L ai):zN s [10]=J (dW s 10):=by unfold zN bJ al ag ej;by_cases h:([10]:L ai)=s;subst h;rfl;simp[h,cq];rfl
def atq{s:L ai}(d:s.length≤1073741824):∃b,rF s [10]=J (s.takeWhile fG,b):=by
 unfold rF Jn al aB aR;rw[atp,aw];rcases jD s 10 with⟨e,hn⟩|⟨k,e,hk,a,hn⟩
 rw[e];have:s.takeWhile fG=s:=by rw[EW (k:=s.length) (λi _ h=>by have:=hn i;simp_all [fG]) (.inl rfl),xS]
 simp_all;rw[e];have w:aO.wrap ((k:M)+af [(10:ai)])=((k+1:U):M):=by rw[wrap_i64 (by simp;omega) (by simp;omega)];simp
 have c:aV 0 (k:M) s=s.take k:=fF s 0 k;rw[ax (by simp),w,ax (by simp;omega),gE,c];have:s.takeWhile fG=s.take k:=EW (λi hi h=>by grind [fG]) (.inr ⟨a,by grind [fG]⟩);simp_all
def atr{data:L ai}(g:data.length≤67108864){k:U}(hk:k≤data.length):rC data (k:M) I=J ((k+((data.drop k).takeWhile fG).length:U):M):=by
 let⟨h1,h2,h3⟩:=rR fG (data.drop k);generalize hn:((data.drop k).takeWhile fG).length=n at h1 h2 h3;have hd:(data.drop k).length=data.length-k:=by simp
 have:bA (wY data I) (((k+0:U):M))=J ((k+n:U):M):=ep (f:=wY data I) n (λi=>((k+i:U):M)) (r:=((k+n:U):M)) (λi hi=>by
  have a:k+i<data.length:=by omega
  have hk:=h2 i hi (by omega)
  rw[AG]at hk
  unfold wY al ag bL aq ay au cu
  have b:data.getD (k+i) 0=data[k+i]:=by grind
  have h:aO.wrap (((k+i:U):M)+1)=((k+(i+1):U):M):=by grind [wrap_i64]
  have c1:decide (((k+i:U):M)<af data)=W:=by simp;omega
  have c:bw (k+i) data.length=W:=(cq _ _).2 a
  have d:decide ((0:M)≤((k+i:U):M))=W:=by simp;omega
  have e:(aN data[k+i] !=10)=W:=by unfold bne;rw[qy];exact hk
  grind) (by
  unfold wY al ag bL aq ay au cu
  by_cases a:k+n<data.length
  have hk:=h3 (by omega)
  rw[AG]at hk
  have b:data.getD (k+n) 0=data[k+n]:=by grind
  have c1:decide (((k+n:U):M)<af data)=W:=by simp;omega
  have c:bw (k+n) data.length=W:=(cq _ _).2 a
  have d:decide ((0:M)≤((k+n:U):M))=W:=by simp;omega
  have e:(aN data[k+n] !=10)=I:=by unfold bne;rw[qy];exact hk
  grind
  grind [af]) (js (show n≤67108864 by omega) (by decide))
 grind [rC,aw,gN,dp]
def ats{data:L ai}(c:data.length≤67108864){k:U}(hk:k≤data.length):bA (wZ data) (k:M)=J ((k+((data.drop k).takeWhile fg).length:U):M):=by
 let⟨h1,h2,h3⟩:=rR fg (data.drop k);generalize hn:((data.drop k).takeWhile fg).length=n at h1 h2 h3;have hd:(data.drop k).length=data.length-k:=by simp
 have:bA (wZ data) (((k+0:U):M))=J ((k+n:U):M):=ep (f:=wZ data) n (λi=>((k+i:U):M)) (r:=((k+n:U):M)) (λi hi=>by
  have a:k+i<data.length:=by omega
  have hk:=h2 i hi (by omega)
  rw[AG]at hk
  unfold fg at hk
  unfold wZ al ag bL aq ay au cu
  have b:data.getD (k+i) 0=data[k+i]:=by grind
  grind [wrap_i64,af,cq,SA,b9]) (by
  unfold wZ al ag bL aq ay au cu
  by_cases a:k+n<data.length
  have hk:=h3 (by omega)
  rw[AG]at hk
  unfold fg at hk
  have b:data.getD (k+n) 0=data[k+n]:=by grind
  grind [cq,SA,b9]
  grind [af]) (js (show n≤67108864 by omega) (by decide))
 exact this
def att{α:Type}(p:α→ao){s:L α}{m:U}(h:m≤(s.takeWhile p).length):((s.drop m).takeWhile p).length=(s.takeWhile p).length-m:=by
 let⟨h1,h2,h3⟩:=rR p s;have hd:(s.drop m).length=s.length-m:=by simp
 rw[EW (k:=(s.takeWhile p).length-m) (λi hi a=>by grind) (by grind)];simp;omega
def ac1{α:Type}(p:α→ao):∀s:L α,s.dropWhile p=s.drop (s.takeWhile p).length|[]=>rfl|c::s=>by by_cases h:p c=W;simp[List.dropWhile_cons,Fy,h,ac1 p s];simp_all
theorem atu(c:ai)(h1:fG c=I)(h2:fg c=W):False:=by simp_all [fG,fg]
theorem SN{α:Type}(p:α→ao){s:L α}{i:U}(h:i<(s.takeWhile p).length)(a:i<s.length):(s.takeWhile p)[i]=s[i]:=(List.takeWhile_prefix p).getElem h
def atv(hT:∀s:L ai,s.length≤67108864→nX s [32,9]=J (s.dropWhile fg)){data:L ai}(j:data.length≤67108864){k:U}(hk:k≤data.length):
  ∃(m a:U)(b:ao),k+m≤data.length∧k+a≤data.length∧m≤a∧Jy data (k:M)=J (((min (k+a+1) data.length:U):M),b)∧bA (wZ data) (k:M)=J ((k+m:U):M)∧
   (decide (((k+m:U):M)≥af data)||(aN (data.getD (k+m) 0)==10||aN (data.getD (k+m) 0)==35))=b∧rC data ((k+m:U):M) I=J ((k+a:U):M):=by
 have hd:(data.drop k).length=data.length-k:=by simp
 have o:=ats j hk
 let⟨D,p,l⟩:=rR fg (data.drop k)
 let⟨E,F,q⟩:=rR fG (data.drop k)
 have c:((data.drop k).takeWhile fg).length≤((data.drop k).takeWhile fG).length:=by grind [atu]
 have n:=atr j (k:=k+((data.drop k).takeWhile fg).length) (by omega)
 have f:(data.drop (k+((data.drop k).takeWhile fg).length))=(data.drop k).drop ((data.drop k).takeWhile fg).length:=by rw[List.drop_drop]
 rw[f,att fG c]at n
 let⟨z,r⟩:=atq (s:=data.drop k) (by omega)
 have g:(((data.drop k).takeWhile fG).takeWhile fg).length=((data.drop k).takeWhile fg).length:=by
  rw[EW (s:=(data.drop k).takeWhile fG) (k:=((data.drop k).takeWhile fg).length) (λi hi h=>by
   have:=p i hi (by omega)
   have e:((data.drop k).takeWhile fG)[i]=(data.drop k)[i]:=SN fG h _
   rw[e];exact this) (by
   rcases gW ((data.drop k).takeWhile fg).length ((data.drop k).takeWhile fG).length with h|h
   right
   refine⟨h,?_⟩
   have:=l (by omega)
   have e:((data.drop k).takeWhile fG)[((data.drop k).takeWhile fg).length]=(data.drop k)[((data.drop k).takeWhile fg).length]:=SN fG h _
   rw[e];exact this
   left;omega)]
  simp;omega
 have t:((data.drop k).takeWhile fG).dropWhile fg=((data.drop k).takeWhile fG).drop ((data.drop k).takeWhile fg).length:=by rw[ac1,g]
 have u:((data.drop k).takeWhile fg).length<((data.drop k).takeWhile fG).length→∀v:k+((data.drop k).takeWhile fg).length<data.length,(((data.drop k).takeWhile fG).drop ((data.drop k).takeWhile fg).length).getD 0 0=data[k+((data.drop k).takeWhile fg).length]:=λh v=>by grind [SN]
 have w:=q
 have x:=l
 generalize G:((data.drop k).takeWhile fg).length=m at *
 generalize H:((data.drop k).takeWhile fG).length=a at *
 refine⟨m,a,_,by omega,by omega,c,?_,o,rfl,by rw[n];congr 2;omega⟩
 unfold Jy bJ al aB aq aR
 rw[ax (by simp;omega),gE,r,aw]
 simp only[]
 rw[hT _ (by omega),aw,t]
 have y:aO.wrap ((k:M)+af ((data.drop k).takeWhile fG))=((k+a:U):M):=by grind [dp,wrap_i64]
 have A:aO.wrap (((k+a:U):M)+1)=((k+a+1:U):M):=by grind [wrap_i64]
 have d:gN ((k+a+1:U):M) (af data)=((min (k+a+1) data.length:U):M):=by unfold gN;rw[dp];split<;>omega
 simp only[y,A,d,ite_self]
 by_cases h:m<a
 have B:k+m<data.length:=by omega
 have K:=u h B
 have C:((data.drop k).takeWhile fG).drop m≠[]:=by grind
 grind [fG,cq,qy,af]
 grind [fG,qy,af]
def RZ(data:L ai)(x:M×L ai×Q (L cx)×M)(y:M×L (L ai×ao)×L ai×M×Q (L cx)):Prop:=∃(k a:U)(P:L cx)(m:L (L ai×ao)),k≤data.length+1∧a≤k∧a≤data.length∧P.length≤2*k∧KM m P∧x=((k:M),data,aL P,(a:M))∧y=(((min k data.length:U):M),m,data,(a:M),aL P)
def SZ(data:L ai)(r:(Q (L cx)×M×M)⊕L ai×Q (L cx)×M)(q:(Q (L cx)×M×M)⊕L ai×M×Q (L cx)):Prop:=(∃a e:M,e≠0∧r=.inl (O,a,e)∧q=.inl (O,a,e))∨∃(a:U)(P:L cx),a≤data.length∧P.length≤2*data.length+2∧r=.inr (data,aL P,(a:M))∧q=.inr (data,(a:M),aL P)
def atw(hT:∀s:L ai,s.length≤67108864→nX s [32,9]=J (s.dropWhile fg)){data:L ai}(hl:data.length≤16777216):∃r q,bA (CR data) (0,data,O,0)=J r∧bA (PD data) (0,[],data,0,O)=J q∧SZ data r q:=by
 refine pf (RZ data) (SZ data) (λx=>data.length+2-x.1.toNat) (λx y h=>?_) ⟨0,0,[],[],by omega,by omega,by omega,by simp,atm,rfl,by simp[aL]⟩ (js (uZ _ _) (js (show data.length+2≤67108866 by omega) (by decide)));obtain⟨k,a,P,m,hk,K,F,hP,t,rfl,rfl⟩:=h;unfold CR PD aM bJ al aB ag bL aq aR ay au cu;dsimp-proj only[ah];rcases gW k data.length with u|u
 have N:min k data.length=k:=Nat.min_eq_left (by omega);have c1:decide ((k:M)<af data)=W:=by simp;omega
 let⟨g,c,b,R,hL,S,T,V,X,Y⟩:=atv hT (data:=data) (by omega) (k:=k) (by omega);simp only[N,c1,bf,T,V,aw];have Z:(decide (((k+g:U):M)≥af data)||decide ((0:M)≤((k+g:U):M))&&(bw (k+g) data.length&&(aN (data.getD (k+g) 0)==10||decide ((0:M)≤((k+g:U):M))&&bw (k+g) data.length)))=W:=by grind [cq,Decidable.decide,af]
 simp only[eE,Z,X,bf];have wL:aO.wrap (((k+c:U):M)+1)=((k+c+1:U):M):=by grind [wrap_i64]
 cases b with
 |true=>left;simp only[bf,Y,aw,wL];exact⟨_,_,rfl,rfl,⟨k+c+1,a,P,m,by omega,by omega,F,by omega,t,rfl,rfl⟩,by simp;omega⟩|false=>
  have hd:(data.drop k).length=data.length-k:=by simp
  let⟨t1,t2,t3⟩:=rR jn (data.drop k);have v:=atj (data:=data) (by omega) (k:=k) (by omega) (data,aL P,(a:M));have w:=ati (s:=data.drop k) (by omega);generalize ((data.drop k).takeWhile jn).length=n at *;have cg:decide ((0:M)≤(k:M)∧(k:M)≤af data∧af data≤af data)=W:=by simp;omega
  simp only[bh,bC,v,aw,cg,bf,gE,w];by_cases hn:n=0;right;subst hn;refine⟨_,_,?_,?_,.inl ⟨(k:M),2,by decide,rfl,rfl⟩⟩;simp;simp;by_cases h64:n≤64;have z:min 64 n=n:=by omega
  have m2:min 65 n=n:=by omega
  have w1:aO.wrap ((k:M)+(n:M))=((k+n:U):M):=by grind [wrap_i64]
  have w2:aO.wrap (((k+n:U):M)+1)=((k+n+1:U):M):=by grind [wrap_i64]
  have z1:(((k+n:U):M)==(k:M))=I:=by grind
  have z2:decide ((n:M)<1)=I:=by simp;omega
  have A:decide ((n:M)>64)=I:=by simp;omega
  simp only[z,m2,w1,w2,z1,z2,A,uQ,eE];rcases gW (k+n) data.length with p|p
  have j:decide (((k+n:U):M)≥af data)=I:=by simp;omega
  have B:bw (k+n) data.length=W:=(cq _ _).2 p;have C:decide ((0:M)≤((k+n:U):M))=W:=by simp;omega
  have c5:decide ((0:M)≤(k:M)∧(k:M)≤((k+n:U):M)∧((k+n:U):M)≤af data)=W:=by simp;omega
  simp only[j,B,C,c5,uQ,pv,bf,beq_self_eq_true];cases h61:(aN (data.getD (k+n) 0) !=61)with
  |true=>right;exact⟨_,_,rfl,rfl,.inl ⟨(k:M),2,by decide,rfl,rfl⟩⟩|false=>
   have l:=t (aV (k:M) ((k+n:U):M) data);rw[ato (by omega),l];simp only[bh,bC,aw];cases hK:EV P (aV (k:M) ((k+n:U):M) data)with|true=>right;exact⟨_,_,rfl,rfl,.inl ⟨(k:M),5,by decide,rfl,rfl⟩⟩|false=>let⟨e,he1,oG,D⟩:=atg (data:=data) (by omega) W (k:=k+n+1) (by omega);have c6:decide ((0:M)≤((k+n+1:U):M)∧((k+n+1:U):M)≤(e:M)∧(e:M)≤af data)=W:=(by simp;omega);let⟨f,G,at',H,d1,d2,d3,d4,_⟩:=acX (raw:=aV ((k+n+1:U):M) (e:M) data) (by rw[fF];simp;omega);have we:=cI (i:=e) (by omega);have o:gN ((e+1:U):M) (af data)=((min (e+1) data.length:U):M):=(by unfold gN;rw[dp];split<;>omega);simp only[bh,bC,ath,D,aw,c6,bf,d1,d2];by_cases d:(H !=0)=W;right;simp only[d,bf];exact⟨_,_,rfl,rfl,.inl ⟨_,H,by simpa[bne]using d,rfl,rfl⟩⟩;left;rw[aK d,aK d,Sx (by omega) (by omega) (by omega) (by omega),Sy (by omega) (by omega) (by omega) (by omega)];simp only[aw,we,o];exact⟨_,_,rfl,rfl,⟨e+1,e,_,_,by omega,by omega,by omega,by simp;omega,atn t _ _ _,rfl,rfl⟩,by simp;omega⟩
  have j:decide (((k+n:U):M)≥af data)=W:=by simp;omega
  right;simp only[j,u7,bf];exact⟨_,_,rfl,rfl,.inl ⟨(k:M),2,by decide,rfl,rfl⟩⟩;right;have z:min 64 n=64:=by omega
  have m2:min 65 n=65:=by omega
  have p:k+64<data.length:=by omega
  have hb:=t2 64 (by omega) (by omega);rw[AG]at hb;have e':data.getD (k+64) 0=data[k+64]:=by grind
  have E:(aN data[k+64] !=61)=W:=by grind [jn]
  have B:bw (k+64) data.length=W:=(cq _ _).2 p;have C:decide ((0:M)≤((k+64:U):M))=W:=by simp;omega
  have A:decide (((65:U):M)>64)=W:=by decide
  simp only[z,m2,eE,e',E,B,C,A,u7,xZ,pv,bf];exact⟨_,_,rfl,rfl,.inl ⟨(k:M),2,by decide,rfl,rfl⟩⟩
 right;have c1:decide ((k:M)<af data)=I:=by simp;omega
 have j:decide (((min k data.length:U):M)<af data)=I:=by simp;omega
 simp only[c1,j];exact⟨_,_,rfl,rfl,.inr ⟨a,P,F,by omega,rfl,rfl⟩⟩
def atx(hT:∀s:L ai,s.length≤67108864→nX s [32,9]=J (s.dropWhile fg)){data:L ai}(f:data.length≤65536):∃P at' e,zA data=J (P,at',e)∧Dt data=J (P,at',e)∧(P.getD []).length≤2*data.length+3:=by
 let⟨r,q,b,d,h⟩:=atw hT (data:=data) (by omega);unfold zA Dt xa aM aB;have c:decide (af data>65536)=I:=by simp;omega
 rw[b,c];simp only[bh,bC,aw,d];rcases h with⟨a,e,g,rfl,rfl⟩|⟨a,P,i,j,rfl,rfl⟩
 simp_all;unfold rA xb al aj aY;simp only[aw,o0,bS];rw[ax (by simp;omega),ax (by simp;omega)];simp_all
def aty(s:L ai):nX s [32,9]=J (s.dropWhile fg):=by
 unfold nX;rw[ax (by decide)];have:(λc=>List.contains [32,9] c)=fg:=funext λc=>by grind [fg]
 rw[this]
def bo{α:Type}(Q:α→Prop)(o:Option α):Prop:=∀y,o=J y→Q y
def bo.nil{α:Type}{Q:α→Prop}:bo Q O:=λy h=>by cases h
theorem bo.ret{α:Type}{Q:α→Prop}{x:α}(h:Q x):bo Q (J x):=λy e=>by cases e;exact h
def bo.ite{α:Type}{Q:α→Prop}{c:Prop}[Decidable c]{a b:Option α}(h1:c→bo Q a)(h2:¬c→bo Q b):bo Q (if c then a else b):=by grind
theorem bo.call{α β:Type}{Q:β→Prop}{o:Option α}{f:α→Option β}(h:∀x,o=J x→bo Q (f x)):bo Q (ak o f):=by
 cases o with|none=>exact bo.nil|some x=>exact h x rfl
def bo.sum{ρ σ α:Type}{Q:α→Prop}{s:ρ⊕σ}{f:ρ→Option α}{g:σ→Option α}(h1:∀x,s=.inl x→bo Q (f x))(h2:∀x,s=.inr x→bo Q (g x)):bo Q (cC s f g):=by
 cases s with|inl x=>exact h1 x rfl|inr x=>exact h2 x rfl
def xF{σ ρ:Type}(I:σ→Prop)(Q:ρ→Prop):σ⊕ρ→Prop|.inl y=>I y|.inr z=>Q z
def bo.iter{σ ρ:Type}{f:σ→Option (σ⊕ρ)}{I:σ→Prop}{Q:ρ→Prop}(step:∀x,I x→bo (xF I Q) (f x)):∀(n:U)(x:σ),I x→bo Q (dy f n x)|0,x,_=>bo.nil|n+1,x,a=>by unfold dy;have:=step x a;split;rename_i y e;exact bo.iter step n y (this _ e);rename_i r e;exact bo.ret (this _ e);exact bo.nil
def bo.loop{σ ρ:Type}{f:σ→Option (σ⊕ρ)}{I:σ→Prop}{Q:ρ→Prop}(step:∀x,I x→bo (xF I Q) (f x)){x:σ}(hx:I x):bo Q (bA f x):=bo.iter step fuel x hx
def JB(data:L ai)(b:L ai×Q (L cx)×M):Prop:=b.1=data∧0≤b.2.2∧dA (b.2.1.getD [])=data.take b.2.2.toNat
def atz{data:L ai}{a b:M}(c:0≤a)(h1:a≤b):data.take a.toNat++aV a b data=data.take b.toNat:=by
 obtain⟨a,rfl⟩:=oq c;obtain⟨b,rfl⟩:=oq (show 0≤b by omega);have h1:a≤b:=by omega
 show data.take a++aV (a:M) (b:M) data=data.take b;grind [fF,l7]
def atA(P:L cx)(x y:cx):dA (P++[x,y])=dA P++x.2.2++y.2.2:=by simp[dA]
def JB.unit{data:L ai}{b:L ai×Q (L cx)×M}(h:JB data b)(key:L ai)(a c:M):bo (JB data) (rB key a c b):=by let⟨h1,h2,h3⟩:=h;unfold rB al aj gP;refine bo.ite (λd=>bo.ret ⟨h1,?_,?_⟩) λ_=>bo.nil;grind;simp_all [atA,atz]
def JB.fin{data:L ai}{b:L ai×Q (L cx)×M}(h:JB data b):bo (λr=>dA (r.1.getD [])=data) (rA b):=by let⟨h1,h2,h3⟩:=h;simp_all [rA,bo.ite,bo.ret,bo.nil,dA,aV,al,aj,aY]
def Lm(z:Q (L cx)×M×M):Prop:=z.2.2≠0
def SP(data:L ai)(z:Q (L cx)×M×M):Prop:=z.2.2=0→dA (z.1.getD [])=data
def JB.start(data:L ai):JB data (data,O,0):=⟨rfl,Int.le_refl _,rfl⟩
def atB(data:L ai):bo (SP data) (zy data):=by
 unfold zy aM;refine bo.call λr c=>bo.sum (λx a=>bo.ret λh=>?_) λx a=>bo.call λy hy=>bo.ret λ_=>?_
 all_goals
  have:=bo.loop (f:=wX data) (I:=λs=>JB data s.2.2) (Q:=xF Lm (JB data)) (λs b=>by
   unfold wX fW bJ al aB ag bL aq aR ay au cu aY gP;dsimp-proj only[ah]
   repeat' first
    |exact bo.nil|refine bo.ite (λ_=>?_) (λ_=>?_)|refine bo.call (λ_ _=>?_)
   all_goals refine bo.ret ?_
   all_goals first
    |exact b|exact JB.unit b _ _ _ _ (by assumption)|(show(2:M)≠0;decide)|(rename_i h;exact bne_iff_ne.1 h)) (JB.start data) r c
 subst a;exact bX h this;subst a;exact JB.fin this y hy
def atC(data:L ai):bo (SP data) (zA data):=by
 unfold zA aM;refine bo.call λr c=>bo.sum (λx a=>bo.ret λh=>?_) λx a=>bo.call λy hy=>bo.ret λ_=>?_
 all_goals
  have:=bo.loop (f:=CR data) (I:=λs=>JB data s.2) (Q:=xF Lm (JB data)) (λs b=>by
   unfold CR aM bJ al aB ag bL aq aR ay au cu
   repeat' first
    |exact bo.nil|refine bo.ite (λ_=>?_) (λ_=>?_)|refine bo.call (λ_ _=>?_)
   all_goals refine bo.ret ?_
   all_goals first
    |exact b|exact JB.unit b _ _ _ _ (by assumption)|(show(2:M)≠0;decide)|(show(5:M)≠0;decide)|(rename_i h;exact bne_iff_ne.1 h)) (JB.start data) r c
 subst a;exact bX h this;subst a;exact JB.fin this y hy
def atD(data:L ai):bo (SP data) (zB data):=by
 unfold zB aM;refine bo.call λr e=>bo.sum (λx a=>bo.ret λh=>?_) λx a=>bo.call λy hy=>bo.ret λ_=>?_
 all_goals
  have:=bo.loop (f:=CT data) (I:=λs=>JB data s.2.2.2.2) (Q:=xF Lm (JB data)) (λs d=>by
   unfold CT aM aB ag aq ay au;dsimp-proj only[ah]
   refine bo.ite (λ_=>bo.call λg h1=>?_) λ_=>bo.ret d
   have c:=bo.loop (f:=CS data s) (I:=λs=>JB data s.2.2.2.2) (Q:=xF Lm (λs=>JB data s.2.2.2.2)) (λi b=>by
    unfold CS bJ al ag bL aq aR ay au cu;dsimp-proj only[ah]
    repeat' first
     |exact bo.nil|refine bo.ite (λ_=>?_) (λ_=>?_)|refine bo.call (λ_ _=>?_)
    all_goals refine bo.ret ?_
    all_goals first
     |exact b|exact JB.unit b _ _ _ _ (by assumption)|(show(2:M)≠0;decide)|(rename_i h;exact bne_iff_ne.1 h)) (x:=(s.1,s.2.2.1,0,0,s.2.2.2.2)) d g h1
   refine bo.sum (λx a=>bo.ret ?_) λx a=>?_
   subst a;exact c
   ·subst a;have c:JB data x.2.2.2.2:=c;(repeat' refine bo.ite (λ_=>?_) (λ_=>?_));all_goals refine bo.ret ?_
    all_goals first
     |exact c|(show(2:M)≠0;decide)|(show(5:M)≠0;decide)|(show(6:M)≠0;decide)) (JB.start data) r e
 subst a;exact bX h this;subst a;exact JB.fin this y hy
def uG(out:L aC)(t:L ai):L aC:=if t=[]then out else out++[(1,t,0)]
def SQ(out:L aC):Prop:=∀y,out.getLast?=J y→y.1≠1
def atE{out:L aC}(h:SQ out)(t:L ai){x:aC}(hx:x.1=1):gs (uG out t) x=uG out (t++x.2.1):=by
 unfold uG;by_cases a:x.2.1=[];unfold gs;simp[hx,a];rw[aK (show ¬t++x.2.1=[] by simp[a])];by_cases b:t=[];subst b;unfold gs;simp only[hx,a,qI,bh,bC,bf,List.nil_append];cases c:out.getLast? with|none=>rfl|some y=>simp[h y c]
 simp_all [gs]
def ac2{f:L aC}{i:U}(h:i<f.length):nrm (f.take (i+1))=gs (nrm (f.take i)) f[i]:=by rw[iz h,ph]
theorem qC:∀(f out:L aC),tot (f.foldl gs out)≤tot out+tot f|[],out=>by simp[tot]|x::f,out=>by have h1:=qC f (gs out x);grind [aci,tot]
theorem xG(f:L aC)(i:U):tot (f.take i)≤tot f:=by grind [gR,l7]
def atF(f:L aC)(i:U):tot (nrm (f.take i))≤tot f:=by grind [qC,xG,tot,nrm]
def atG{o:Q (L aC)}(l:tot (o.getD [])≤536870912){i:U}(hi:i≤(o.getD []).length)(d:SQ (nrm ((o.getD []).take i))):∃r,bA (JU o) ((i:M),O)=J r∧∃(j:U)(t:L ai),r.1=(j:M)∧r.2.getD []=ey t∧i≤j∧j≤(o.getD []).length∧nrm ((o.getD []).take j)=uG (nrm ((o.getD []).take i)) t∧(∀h:j<(o.getD []).length,(o.getD [])[j].1≠1):=by
 have m:=dH (o.getD []);refine eY (f:=JU o) (λs=>∃(j:U)(t:L ai),s.1=(j:M)∧s.2.getD []=ey t∧i≤j∧j≤(o.getD []).length∧nrm ((o.getD []).take j)=uG (nrm ((o.getD []).take i)) t∧t.length≤tot ((o.getD []).take j)) (λs=>(o.getD []).length-s.1.toNat) (λr=>∃(j:U)(t:L ai),r.1=(j:M)∧r.2.getD []=ey t∧i≤j∧j≤(o.getD []).length∧nrm ((o.getD []).take j)=uG (nrm ((o.getD []).take i)) t∧(∀h:j<(o.getD []).length,(o.getD [])[j].1≠1)) (λs h=>?_) _ ⟨i,[],rfl,rfl,dD _,hi,by simp[uG],by simp⟩ (js (uZ _ _) (cb (bT (by omega))));let⟨n,a⟩:=s;obtain⟨j,t,rfl,c,h1,h2,h3,p⟩:=h;simp only[]at c;unfold JU aF al ag aj aq ay au;dsimp-proj only[ah];simp only[];rcases gW j (o.getD []).length with b|b
 have c1:decide ((j:M)<af (o.getD []))=W:=by simp;omega
 have e:decide (0≤(j:M)∧(j:M)<af (o.getD []))=W:=by simp;omega
 simp only[c1,e,getD_at b,c];by_cases hk:(o.getD [])[j].1=1;have g:=ac2 b;rw[h3,atE d t hk]at g;have q:tot ((o.getD []).take (j+1))=tot ((o.getD []).take j)+((o.getD [])[j].2.1.length+1):=by rw[iz b,gR];simp[tot]
 have u:=xG (o.getD []) (j+1);have k:(iF a (ey (o.getD [])[j].2.1)).getD []=ey (t++(o.getD [])[j].2.1):=by
  have:(iF a (ey (o.getD [])[j].2.1)).getD []=a.getD []++ey (o.getD [])[j].2.1:=by cases a<;>cases ey (o.getD [])[j].2.1<;>simp[iF,dj]
  rw[this,c];simp[ey]
 rw[ax (by simp),ax (by simp[hk]),ax (by simp[Lb];omega)];grind [wrap_i64];grind;grind
theorem ac3{o:Q (L aC)}(k:tot (o.getD [])≤536870912):DQ o=J (aL (nrm (o.getD []))):=by
 have v:=dH (o.getD []);have key:∃r,bA (JV o) (O,0)=J r∧r=aL (nrm (o.getD [])):=by
  refine eY (f:=JV o) (λs=>∃i:U,s=(aL (nrm ((o.getD []).take i)),(i:M))∧i≤(o.getD []).length∧(∀h:i<(o.getD []).length,(o.getD [])[i].1=1→SQ (nrm ((o.getD []).take i)))) (λs=>(o.getD []).length-s.2.toNat) (λr=>r=aL (nrm (o.getD []))) (λs h=>?_) _ ⟨0,rfl,by omega,λ_ _ y hy=>by simp[nrm]at hy⟩ (js (uZ _ _) (cb (bT (by omega))));obtain⟨i,rfl,h1,h2⟩:=h;unfold JV bq aM aF al aB ag aj aq ay au aY;dsimp-proj only[ah];simp only[];rcases gW i (o.getD []).length with hi|hi
  rw[lL hi,getD_at hi];have hn:=atF (o.getD []) i;have l:=dH (nrm ((o.getD []).take i));by_cases hk:(o.getD [])[i].1=1;have a:((o.getD [])[i].1 !=1)=I:=by simp[hk]
  let⟨r,e,j,t,d,g,w,m,n,p⟩:=atG k h1 (h2 hi hk);let⟨x,z⟩:=r;simp only[]at d g;subst d;have q:i<j:=by grind
  rw[a,aK (by simp),e,aw];simp only[g,bS,ofBytes,Lb,dp];rw[ax (by simp;omega)];have b:(if decide ((t.length:M)>0)=W then J (nrm ((o.getD []).take i)++[(1,t,0)])else aL (nrm ((o.getD []).take i)))=aL (nrm ((o.getD []).take j)):=by
   rw[n];unfold uG;cases t with|nil=>simp|cons c t=>simp[iq]
  refine⟨⟨j,by rw[b],m,λh u=>bX u (p h)⟩,by simp only[];omega⟩;have a:((o.getD [])[i].1 !=1)=W:=by simp[bne,hk]
  have A:=ac2 hi;have B:gs (nrm ((o.getD []).take i)) (o.getD [])[i]=nrm ((o.getD []).take i)++[(o.getD [])[i]]:=by grind [gs]
  rw[a,ax rfl,ax (by simp;omega)];refine⟨⟨i+1,?_,hi,λh _ y hy=>?_⟩,?_⟩;grind [bS,iq,wrap_i64];grind;grind [wrap_i64];rw[show i=(o.getD []).length by omega,eZ,xS]
 simp_all [DQ,aM,al]
def atH(n:U)(hn:n≤1073741824):∃o,JW (n:M)=J o∧o.getD []=[]:=by
 have w:aO.wrap ((n:M)-0)=(n:M):=by grind [wrap_i64]
 have a:∀l:L aC,aV 0 0 l=[]:=λl=>rfl;unfold JW;simp only[w];rw[ax (by simp)];have b:∀q:Q (L aC),(eQ (aV 0 0) q).isSome=q.isSome:=λq=>by cases q<;>rfl
 rw[ax (by simp only[b];simp;omega),ax (beq_self_eq_true _),ax (beq_self_eq_true _)];refine⟨_,rfl,?_⟩;split;cases dj (dk ((n:M)).toNat ((0:M),([]:L ai),(0:M)))<;>simp[a];rfl
theorem atI{a b:Q (L aC)}(c:(a.getD []).length≤268435456)(d:(b.getD []).length≤268435456):∃o,JX (J [a,b])=J o∧o.getD []=a.getD []++b.getD []:=by
 have e:aO.wrap ((0:M)+1)=1:=rfl;have g:aO.wrap ((1:M)+1)=2:=rfl;have h:af [a,b]=2:=rfl;have j:([a,b]:L (Q (L aC))).getD ((0:M)).toNat O=a:=rfl;have k:([a,b]:L (Q (L aC))).getD ((1:M)).toNat O=b:=rfl;have v1:aO.wrap (0+((a.getD []).length:M))=((a.getD []).length:M):=by grind [wrap_i64]
 have m:aO.wrap (((a.getD []).length:M)+((b.getD []).length:M))=(((a.getD []).length+(b.getD []).length:U):M):=by grind [wrap_i64]
 have n:bA (DR (J [a,b])) (0,0)=J (((a.getD []).length+(b.getD []).length:U):M):=by
  refine ep (f:=DR (J [a,b])) 2 (λi=>match i with|0=>(0,0)|1=>(((a.getD []).length:M),1)|_=>((((a.getD []).length+(b.getD []).length:U):M),2)) (λi hi=>?_) ?_ (by decide)
  match i,hi with|0,_=>simp_all [DR,aF,al,aB,aj,aq,aR,ay,au]|1,_=>grind [DR,dp]
  rfl
 let⟨o,q,r⟩:=atH ((a.getD []).length+(b.getD []).length) (by omega);have s:∀(p:Q (L aC))(l:L aC),(iF p l).getD []=p.getD []++l:=λp l=>by cases p<;>cases l<;>simp[iF,dj]
 have t:bA (DS (J [a,b])) (o,0)=J (iF (iF o (a.getD [])) (b.getD [])):=by
  refine ep (f:=DS (J [a,b])) 2 (λi=>match i with|0=>(o,0)|1=>(iF o (a.getD []),1)|_=>(iF (iF o (a.getD [])) (b.getD []),2)) (λi hi=>?_) ?_ (by decide)
  match i,hi with|0,_=>grind [DS]|1,_=>grind [DS]
  rfl
 grind [JX,aw]
theorem ac4{a b:Q (L aC)}(c:tot (a.getD [])+tot (b.getD [])≤268435456):zT a b=J (aL (nrm (a.getD []++b.getD []))):=by grind [dH,atI,zT,aw,ac3,gR]
def EF(s:L ai)(x:aC)(n:M):Prop:=n=0∨(0<n∧n≤s.length∧(x.1=0∨(x.2.1.length:M)≤n∧(x.1=1→x.2.1.length=1)))
theorem ac5(s:L ai):EF s (iJ s).1 ((iJ s).2:M):=by
 unfold iJ;rcases jD s 125 with⟨h,_⟩|⟨k,h,_,hk,_⟩
 rw[h];exact .inl rfl;rw[h];show EF s (match eP k with|.ofNat k=>if gf ((s.take k).drop 1)=W then((5,(s.take k).drop 1,0),k+1)else((0,[],0),0)|_=>((0,[],0),0):aC×U).1 _
 simp only[];split;refine .inr ⟨by simp only[];omega,by simp only[];omega,.inr ⟨?_,λh=>by cases h⟩⟩;simp;omega;exact .inl rfl
def atJ{t s:L ai}(h:t.isPrefixOf s=W):t.length≤s.length:=(L1.1 h).length_le
def atK{s:L ai}(e:s≠[]):EF s (pl s).1 (pl s).2:=by
 obtain⟨c,r,rfl⟩:∃c r,s=c::r:=by cases s with|nil=>exact bX rfl e|cons c r=>exact⟨c,r,rfl⟩
 simp only[pl]
 split
 ·cases a:rQ (c::r)with
  |none=>exact .inl rfl
  |some z=>
   unfold rQ at a
   split at a
   ·cases a
   ·split at a
    ·cases a
     rename_i h1 h2
     rcases jD (c::r) 62 with⟨h,_⟩|⟨k,h,_,hk,_⟩
     ·rw[h]at h1;omega
     ·rw[h]
      simp only[eB]
      have f:=Al (aV 1 (k:M) (c::r))
      have g:(aV 1 (k:M) (c::r)).length≤k:=by unfold aV;simp;omega
      have b:(fN (aV 1 (k:M) (c::r))).1≠1:=by
       grind [fN]
      exact .inr ⟨by omega,by simp at hk ⊢;omega,.inr ⟨by grind,λh=>bX h b⟩⟩
    ·cases a
 ·split
  ·split
   ·rename_i d n hd
    unfold n5 at hd
    repeat' split at hd
    all_goals first
     |cases hd
     |skip
    all_goals
     rename_i h
     have:=atJ h
     exact .inr ⟨by decide,by simp at this ⊢;omega,.inr ⟨by simp,λ_=>rfl⟩⟩
   ·exact .inl rfl
  ·split
   ·exact ac5 _
   ·exact .inr ⟨by simp,by simp;omega,.inr ⟨by simp,λ_=>rfl⟩⟩
def atL{s:L ai}(a:s≠[]):EF s (kf s).1 ((kf s).2:M):=by
 obtain⟨c,r,rfl⟩:∃c r,s=c::r:=by cases s with|nil=>exact bX rfl a|cons c r=>exact⟨c,r,rfl⟩
 simp only[kf];have h2:∀b:ai,r.head?=J b→EF (c::r) (1,[b],0) 2:=λb h=>by
  cases r with
  |nil=>cases h
  |cons d r=>exact .inr ⟨by decide,by simp;omega,.inr ⟨by simp,λ_=>rfl⟩⟩
 split;split;grind;exact .inl rfl;split;grind [ac5];exact .inr ⟨by simp,by simp;omega,.inr ⟨by simp,λ_=>rfl⟩⟩
def eO(n:M):Prop:=n=1∨n=2∨n=3
theorem atM{fmt:M}(d:eO fmt){raw:L ai}{k:U}(hk:k<raw.length)(e:raw.length≤67108864):∃x n,ql fmt (raw.drop k)=J (x,n)∧EF (raw.drop k) x n:=by
 have a:raw.drop k≠[]:=by simp_all
 have b:(raw.drop k).length≤67108864:=by simp;omega
 have c:(raw.drop k).length=raw.length-k:=by simp
 unfold ql ag;rcases d with rfl|rfl|rfl
 rw[ax (by decide),acN a b];exact⟨_,_,rfl,atK a⟩;rw[aK (by decide),ax (by decide)];rcases acV hk e O O O 0 0 with⟨h,_⟩|⟨n,h1,h2,h,_⟩|⟨t,n,h1,h2,h,_⟩|⟨f,n,h1,h2,h,_⟩
 rw[h];exact⟨_,_,rfl,.inl rfl⟩;rw[h];exact⟨_,_,rfl,.inr ⟨by omega,by omega,.inl rfl⟩⟩;rw[h];exact⟨_,_,rfl,.inr ⟨by omega,by omega,.inr ⟨by simp;omega,λ_=>rfl⟩⟩⟩;rw[h];exact⟨_,_,rfl,.inr ⟨by omega,by omega,.inr ⟨by simp only[];omega,λh=>by cases h⟩⟩⟩;rw[aK (by decide),aK (by decide),ack a (by omega)];exact⟨_,_,rfl,atL a⟩
theorem atN(out:L aC)(x:aC):bK (gs out x)=bK out+wid x:=by
 have a:∀y:aC,bK [y]=wid y:=λy=>by simp[bK]
 unfold gs;split;rw[xD,a];rename_i b;have b:x.1=1:=by simpa using b
 split;grind [wid];split;rename_i y hy;split;rename_i h1;have h1:y.1=1:=by simpa using h1
 have e:bK out=bK out.dropLast+wid y:=by
  conv=>lhs;rw[ach hy]
  rw[xD,a]
 grind [xD,wid];rw[xD,a];simp[wid,b];rw[xD,a];simp[wid,b]
theorem atO(f:L aC):bK (nrm f)=bK f:=by
 have:∀(f out:L aC),bK (f.foldl gs out)=bK out+bK f:=by
  intro f;induction f with
  |nil=>intro out;simp[bK]
  |cons x f a=>grind [atN,bK]
 unfold nrm;rw[this f []];simp[bK]
def EX(m:U)(f:L aC)(a:L M):Prop:=∃cs:L U,a=cs.map eP∧cs.length=bK f∧cs.Pairwise (·≤ ·)∧∀c∈cs,c≤m
def EX.snoc{m m':U}{f g:L aC}{a:L M}(h:EX m f a)(hm:m≤m')(b:bK g=bK f+1):EX m' g (a++[(m:M)]):=by let⟨cs,h1,h2,h3,d⟩:=h;refine⟨cs++[m],by rw[h1];simp,by simp[h2,b],?_,λc e=>?_⟩;grind;grind
abbrev RSt:=Q (L aC)×Q (L aC)×Q (L M)×M×M×M
def ID(raw:L ai)(s:RSt):Prop:=∃at' a:U,s.2.2.2.1=(at':M)∧s.2.2.2.2.1=(a:M)∧a≤at'∧at'≤raw.length∧tot (s.1.getD [])≤2*at'∧EX a (s.1.getD []) (s.2.2.1.getD [])
def ID.step{raw:L ai}(p:raw.length≤67108864){s:RSt}(h:ID raw s){x:aC}{n:M}(hx:EF (raw.drop s.2.2.2.1.toNat) x n)(hn:n≠0)(hk:x.1≠0){y:aC}(e:y.1=x.1)(f:y.2.1=x.2.1){r:Q (L aC)}(b:kc s.1 (J [y])=J r)(o:Q (L aC))(l:M):ID raw (r,o,J (s.2.2.1.getD []++[s.2.2.2.2.1]),aO.wrap (s.2.2.2.1+n),aO.wrap (s.2.2.2.1+n),l):=by
 let⟨at',g,c,i,h1,h2,h3,j⟩:=h;rw[c]at hx;rcases hx with hx|⟨q,d,a⟩
 exact bX hx hn;rcases a with a|⟨a,t⟩
 exact bX a hk;obtain⟨n,rfl⟩:=oq (show 0≤n by omega);have d:n≤raw.length-at':=by simpa using d
 have a:x.2.1.length≤n:=by exact Int.ofNat_le.1 a
 have u:tot [y]=y.2.1.length+1:=by simp[tot]
 rw[lh (by grind)]at b;cases b;have k:aO.wrap ((at':M)+(n:M))=((at'+n:U):M):=by grind [wrap_i64]
 rw[c,i,k];refine⟨at'+n,at'+n,rfl,rfl,dD _,by omega,?_,?_⟩;grind [bS,qC,gR,nrm];refine j.snoc (m:=g) (m':=at'+n) (by omega) ?_;grind [bS,atO,bK,wid]
def SS(raw:L ai)(r:Q (L aC)×Q (L M)×M×M):Prop:=r.2.2.2=0→tot (r.1.getD [])≤2*raw.length∧∃cs:L U,r.2.1.getD []=cs.map eP∧cs.length=bK (r.1.getD [])+1∧cs.Pairwise (·≤ ·)∧∀c∈cs,c≤raw.length
set_option maxHeartbeats 1000000 in
def atP{fmt:M}(C:eO fmt){raw:L ai}(t:raw.length≤67108864):bo (SS raw) (hO fmt raw):=by
 unfold hO aM al aB aj aY;refine bo.call λr u=>?_;have:=bo.loop (f:=nT fmt raw) (I:=ID raw) (Q:=xF (λz:Option (L aC)×Option (L M)×M×M=>z.2.2.2≠0) λz:Option (L aC)×Option (L aC)×Option (L M)×M=>∃a:U,z.2.2.2=(a:M)∧a≤raw.length∧tot (z.1.getD [])≤2*raw.length∧EX a (z.1.getD []) (z.2.2.1.getD [])) (λs i=>by
  unfold nT bY bJ al aB ag aj aq aR ay au aY;dsimp-proj only[ah]
  refine bo.ite (λb=>bo.ite (λ_=>bo.call λd h1=>?_) λ_=>bo.nil) λ_=>bo.ret ?_
  ·let⟨at',a,e,j,h2,h3,k,l⟩:=id i;have g:EF (raw.drop s.2.2.2.1.toNat) d.1 d.2:=(by rw[e]at h1 b;have b:at'<raw.length:=(by simpa using b);grind [atM,gE]);refine bo.ite (λ_=>bo.ret (show(2:M)≠0 by decide)) λhn=>?_;have hn:d.2≠0:=(by simpa using hn);refine bo.ite (λD=>bo.ret ?_) λhk=>?_;rcases g with g|⟨E,p,F⟩
   exact bX g hn;rw[e]at p;let⟨n,m⟩:=oq (show 0≤d.2 by omega);have p:n≤raw.length-at':=(by grind);have v:aO.wrap ((at':M)+(n:M))=((at'+n:U):M):=(by grind [wrap_i64]);exact⟨at'+n,a,by rw[e,m,v],j,by omega,by omega,uV k (by omega),l⟩
   ·have hk:d.1.1≠0:=by simpa using hk
    repeat' first
     |exact bo.nil|refine bo.ite (λ_=>?_) (λ_=>?_)|refine bo.call (λ_ _=>?_)
    all_goals refine bo.ret ?_
    all_goals first
     |(show(7:M)≠0;decide)|(show(3:M)≠0;decide)|(refine ID.step t i g hn hk ?_ ?_ (by assumption) _ _<;>rfl)
  let⟨at',a,e,j,h2,h3,k,l⟩:=i
  exact⟨a,j,by omega,uV k (by omega),l⟩) ⟨0,0,rfl,rfl,dD _,fm _,dD _,[],rfl,rfl,awy,λc q=>by cases q⟩ r u
 refine bo.sum (λx o=>bo.ret λh=>?_) λx o=>bo.ite (λ_=>bo.ret λh=>?_) λ_=>bo.ite (λ_=>bo.ret λ_=>?_) λ_=>bo.nil;subst o;exact bX h this;cases h;subst o;let⟨a,w,G,y,cs,A,B,H,K⟩:=this;refine⟨y,cs++[a],?_,by simp[B],?_,λc q=>?_⟩;rw[w,A];simp;grind;grind
def atQ{raw:L ai}(d:raw.length≤67108864):∃f a at' e,hO 3 raw=J (f,a,at',e)∧xg raw=J (f,at',e)∧DG raw=J (a,e):=by
 let⟨r,q,g,i,h⟩:=acq d;unfold hO xg DG Du aM al aB ag aj aY;rw[g,i];rcases h with⟨k,e,hk,j,rfl,rfl⟩|⟨items,text,s,cs,rfl,l,rfl,t,c,m⟩
 refine⟨O,O,k,e,rfl,?_,?_⟩<;>simp[j];have n:=dH items;have o:=uD items text;let⟨b,p⟩:=acp (cs:=aL cs) l (by omega:items.length≤1073741824);refine⟨aL (cK items text),J (cs++[(raw.length:M)]),0,0,?_,?_,?_⟩;simp;omega;simp[p];unfold PT al aj aY;simp;rw[ax (by omega)];rfl
def atR{raw:L ai}(i:raw.length≤67108864):∃f a at' e,hO 2 raw=J (f,a,at',e)∧xf raw=J (f,at',e)∧DF raw=J (a,e):=by
 let⟨r,q,j,l,h⟩:=acW i;unfold hO xf DF Ds aM al aB ag aj aY;rw[j,l];rcases h with⟨k,e,hk,m,rfl,rfl⟩|⟨c,items,text,n,cs,o,rfl,p,rfl,v,g,s⟩
 refine⟨O,O,k,e,rfl,?_,?_⟩<;>simp[m];have t:=dH items;have u:=uD items text;have d:∃b,zP (aL items,n,aL cs,(c:M),(c:M))=J (aL (cK items text),b):=by unfold zP al;rw[Sz,EI p (by omega)];simp_all
 let⟨b,d⟩:=d;refine⟨aL (cK items text),J (cs++[(c:M)]),0,0,?_,?_,?_⟩;simp;omega;simp[d];unfold PR al aj aY;simp;rw[ax (by omega)];rfl
theorem ac7{fmt:M}(d:eO fmt){raw:L ai}(b:raw.length≤67108864):∃f a at' e,hO fmt raw=J (f,a,at',e)∧Dw fmt raw=J (f,e)∧DH fmt raw=J (a,e)∧SS raw (f,a,at',e):=by
 have c:=atP d b;unfold Dw DH ag;rcases d with rfl|rfl|rfl
 let⟨f,a,at',e,h1,h2,h3,_⟩:=Li b;refine⟨f,a,at',e,h1,?_,?_,c _ h1⟩;simp_all;simp_all;let⟨f,a,at',e,h1,h2,h3⟩:=atR b;refine⟨f,a,at',e,h1,?_,?_,c _ h1⟩;simp_all;simp_all;let⟨f,a,at',e,h1,h2,h3⟩:=atQ b;refine⟨f,a,at',e,h1,?_,?_,c _ h1⟩;simp_all;simp_all
def atT{fmt:M}(c:eO fmt)(data:L ai):∃P at' e,I7 fmt data=J (P,at',e)∧JG fmt data=J (P,at',e)∧(e=0→dA (P.getD [])=data∧(P.getD []).length≤131075∧data.length≤65536):=by
 unfold I7 JG aB ag;by_cases a:data.length≤65536;rw[aK (by simp;omega)];rcases c with rfl|rfl|rfl
 let⟨P,at',e,h1,h2,h3⟩:=atf a;rw[ax (by decide),ax (by decide),h1,h2];exact⟨P,at',e,rfl,rfl,λb=>⟨atB data _ h1 b,by omega,a⟩⟩;let⟨P,at',e,h1,h2,h3⟩:=atx (λs _=>aty s) a;rw[aK (by decide),ax (by decide),aK (by decide),ax (by decide),h1,h2];exact⟨P,at',e,rfl,rfl,λb=>⟨atC data _ h1 b,by omega,a⟩⟩;let⟨P,at',e,h1,h2,h3⟩:=ast a;rw[aK (by decide),aK (by decide),aK (by decide),aK (by decide),h1,h2];exact⟨P,at',e,rfl,rfl,λb=>⟨atD data _ h1 b,by omega,a⟩⟩;rw[ax (by simp;omega)];refine⟨O,0,3,rfl,?_,λh=>by cases h⟩;rcases c with rfl|rfl|rfl
 rw[ax (by decide)];unfold Do aM aB;rw[ax (by simp;omega)];rfl;rw[aK (by decide),ax (by decide)];unfold Dt aM aB;rw[ax (by simp;omega)];rfl;rw[aK (by decide),aK (by decide)];unfold Dv aM aB;rw[ax (by simp;omega)];rfl
abbrev Dc:=M×Q (L cx)
theorem uH(n:M):(n==(1:M)||(n==(2:M)||n==(3:M)))=W↔eO n:=by simp[eO]
def atU(data:L ai)(d:Dc):Prop:=dA (d.2.getD [])=data∧(d.2.getD []).length≤131075∧data.length≤65536
def ac8(fmt:M)(data:L ai):∃d at' e,o8 fmt data=J (d,at',e)∧JH fmt data=J (d,at',e)∧(e=0→d.1=fmt∧eO fmt∧atU data d):=by
 unfold o8 JH rz w9 ag;by_cases a:eO fmt;let⟨P,at',e,h1,h2,h3⟩:=atT a data;rw[(uH fmt).2 a];simp only[aw,jg,bh,bC,h1,h2];by_cases b:e=0;subst b;exact⟨(fmt,P),0,0,rfl,rfl,λ_=>⟨rfl,a,h3 rfl⟩⟩;rw[ax (by simpa using b)];grind;have:(fmt==(1:M)||(fmt==(2:M)||fmt==(3:M)))=I:=by grind [uH]
 rw[this];exact⟨(0,O),0,1,rfl,rfl,λh=>by cases h⟩
def ac9{d:Dc}(h1:(d.2.getD []).length≤1073741824)(h2:(dA (d.2.getD [])).length≤1073741824):∃e,rD d=J e∧xh d=J e∧(e=0→eO d.1∧(d.2.getD []).length≤131075∧(dA (d.2.getD [])).length≤65536):=by
 unfold rD xh rz w9 ag;by_cases a:eO d.1;rw[(uH d.1).2 a];let⟨x,at',e,b,c,f⟩:=ac8 d.1 (dA (d.2.getD []));simp only[aw,jg,bh,bC,Le h1 h2,Aj h1 h2,b,c];by_cases g:e=0;subst g;let⟨h,_,i,j,k⟩:=f rfl;rw[aK (by decide),aK (by decide)];unfold Ps ag;rw[asv (by omega),asu (by omega)];by_cases l:x.2.getD []=d.2.getD [];simp_all;simp_all;simp_all;have:(d.1==(1:M)||(d.1==(2:M)||d.1==(3:M)))=I:=by grind [uH]
 simp_all
def jE(P:L cx)(k:U):L U:=(hY k).filter λi=>(P.getD i (I,[],[])).1
def atV(P:L cx)(k:U):jE P (k+1)=jE P k++if(P.getD k (I,[],[])).1=W then[k]else[]:=by unfold jE;rw[aaN,List.filter_append];simp[List.filter_cons]
def EY(P:L cx)(k:U):(jE P k).length≤k:=by grind [jE]
theorem EZ{d:Dc}(h:(d.2.getD []).length≤1073741824):lQ d=J (aL ((jE (d.2.getD []) (d.2.getD []).length).map eP)):=by
 unfold lQ aM al;have:bA (Dx d) (O,0)=J (aL ((jE (d.2.getD []) (d.2.getD []).length).map eP)):=by refine ep (f:=Dx d) (d.2.getD []).length (λi=>(aL ((jE (d.2.getD []) i).map eP),(i:M))) (λi hi=>?_) ?_ (cb (bT (by omega)));unfold Dx aF al aB ag aj aq ay au aY;have a:=cI (i:=i) (by omega);have b:=EY (d.2.getD []) i;rw[dq hi,getD_at hi,ax (by simp;omega),a,atV,iy,du hi];grind [bS,iq];unfold Dx aF al aB ag aj aq ay au aY;rw[eZ]
 rw[this];simp
def SU(d:Dc):CM d=lQ d:=rfl
def Ln{P:L cx}{q:cx}(h:q∈P):q.2.2.length≤(dA P).length:=by obtain⟨a,b,rfl⟩:=List.append_of_mem h;simp[dA];omega
def E1{d:Dc}(h:∀q∈d.2.getD [],q.2.2.length≤67108864)(part:M):∃f e,lc d part=J (f,e)∧xi d part=J (f,e)∧(e=0→eO d.1∧∃k:U,part=(k:M)∧∃q,(d.2.getD [])[k]?=J q∧q.1=W∧∃a at',hO d.1 q.2.2=J (f,a,at',0)∧DH d.1 q.2.2=J (a,0)∧SS q.2.2 (f,a,at',0)):=by
 unfold lc xi rz w9 bY aF al ag aj;by_cases b:eO d.1;rw[(uH d.1).2 b];simp only[aw,jg,bh,bC];by_cases hp:part<0∨part≥(d.2.getD []).length;rw[ax (by simp;omega),ax (by simp;omega),ax (by simp;omega),ax (by simp;omega)];grind;obtain⟨k,rfl⟩:=oq (show 0≤part by omega);have hk:k<(d.2.getD []).length:=by omega
 have c1:decide ((k:M)<0)=I:=by simp
 have c:decide ((k:M)≥af (d.2.getD []))=I:=by simp;omega
 have g:decide ((0:M)≤(k:M)∧(k:M)<af (d.2.getD []))=W:=by simp;omega
 have i:=h _ (fk hk);grind [ac7,aw];have:(d.1==(1:M)||(d.1==(2:M)||d.1==(3:M)))=I:=by grind [uH]
 rw[this];exact⟨O,1,rfl,rfl,λh=>by cases h⟩
def dU(x:aC):ao:=x.1==2||(x.1==3||x.1==4)
def m6(x y:aC):ao:= !(dU y&&(y.2.2==x.2.2))||(x.1==3&&(y.1==2&&decide (fM y.2.1=x.2.1)))
def li(a:L aC)(x:aC):M:=if x.1=1 then(if x.2.1=[]∨x.2.2≠0∨a.getLast?.map (·.1)=J 1 then 1 else 0) else if x.1=5 then(if gf x.2.1=W∧x.2.2=0 then 0 else 1) else if x.1=2∨x.1=4 then(if mZ x.2.1=W∧1≤x.2.2∧x.2.2≤999 then(if a.all (m6 x)then 0 else 7)else 1) else if x.1=3 then(if gf x.2.1=W∧1≤x.2.2∧x.2.2≤999 then(if a.all (m6 x)then 0 else 7)else 1) else 1
theorem cS{α:Type}{xs:L α}{k:U}(h:k<xs.length):decide (0≤(k:M)∧(k:M)<af xs)=W:=by simp;omega
def uI{f:L aC}{i:U}(h:i<f.length):f[i].2.1.length+1≤tot f:=by
 have e:tot f=tot (f.take i)+tot (f[i]::f.drop (i+1)):=by rw[←gR,←uY h,l7]
 grind [tot]
def atW{o:Q (L aC)}(c:tot (o.getD [])≤1073741824)(x:aC):JQ o x=J ((o.getD []).all (m6 x)):=by
 have d:=dH (o.getD []);have a:∀i(h:i<(o.getD []).length),(o.getD [])[i].2.1.length≤1073741824:=λi h=>by have:=uI h;omega
 have b:=uA (f:=DI o x) (o.getD []) (m6 x) I 0 (λi h _=>by have hn:=asM (a i h);unfold DI m6 pc bq aF ag aj aq ay au;dsimp-proj only[ah];rw[lL h,getD_at h,eo (by omega),hn];grind [ak,dU]) (by unfold DI bq aF ag aj aq ay au;dsimp-proj only[ah];rw[eZ]) (o.getD []).length 0 fuel (by omega) (cb (bT (by omega))) (by omega);unfold JQ aM;rw[show bA (DI o x) 0=_ from b,aw,Fi];cases(o.getD []).all (m6 x)<;>rfl
def atX{o:Q (L aC)}(c:tot (o.getD [])≤1073741824)(x:aC):bA (w8 o x) 0=J (if(o.getD []).all (m6 x)then .inr ()else .inl 7):=by
 have d:=dH (o.getD []);have a:∀i(h:i<(o.getD []).length),(o.getD [])[i].2.1.length≤1073741824:=λi h=>by have:=uI h;omega
 have b:=uA (f:=w8 o x) (o.getD []) (m6 x) 7 0 (λi h _=>by have hn:=uF (a i h);unfold w8 m6 nU bq aF ag aj aq ay au;dsimp-proj only[ah];rw[lL h,getD_at h,eo (by omega),hn];grind [ak,dU]) (by unfold w8 bq aF ag aj aq ay au;dsimp-proj only[ah];rw[eZ]) (o.getD []).length 0 fuel (by omega) (cb (bT (by omega))) (by omega);rw[show bA (w8 o x) 0=_ from b,Fi]
def atY{o:Q (L aC)}(j:tot (o.getD [])≤1073741824)(x:aC):Jf o x=J (li (o.getD []) x):=by
 have k:=atX j x;have l:=dH (o.getD []);unfold Jf li aM aF al ag aj aR;dsimp-proj only[ah];by_cases k1:x.1=1;rw[ax (by simpa using k1),ax k1];cases d:(o.getD []).getLast? with
 |none=>
  have m:o.getD []=[]:=by simpa using d
  rw[m];by_cases a:x.2.1=[]<;>by_cases b:x.2.2=0<;>simp[a,b]
 |some y=>
  let⟨q,n⟩:=aeU.1 d;have g:=j;rw[n]at l g ⊢;have w:aO.wrap (af (q++[y])-1)=(q.length:M):=by simp at l ⊢;grind [wrap_i64]
  have hd:(q++[y]).getD q.length (0,[],0)=y:=by simp
  simp only[w,eE,hd];rw[ax (by simp;grind)];by_cases a:x.2.1=[]<;>by_cases b:x.2.2=0<;>by_cases c:y.1=1<;>simp[a,b,c]
 rw[aK (by simpa using k1),aK k1];by_cases k5:x.1=5;rw[ax (by simpa using k5),ax k5,Ai];cases gf x.2.1<;>by_cases b:x.2.2=0<;>simp[b];rw[aK (by simpa using k5),aK k5];by_cases qh:x.1=2∨x.1=4;rw[ax (by rcases qh with h|h<;>simp[h]),ax qh,SI,k]
 cases mZ x.2.1;simp;by_cases e:x.2.2<1;have:¬1≤x.2.2:=by omega
 simp[e,this];by_cases f:x.2.2>999;have:¬x.2.2≤999:=by omega
 simp[e,f,this];have c1:1≤x.2.2:=by omega
 have i:x.2.2≤999:=by omega
 cases(o.getD []).all (m6 x)<;>simp[e,f,c1,i];rw[aK (by simp;omega),aK qh];by_cases k3:x.1=3;rw[ax (by simpa using k3),ax k3,Ai,show Zv=w8 from rfl,k];cases gf x.2.1;simp;by_cases e:x.2.2<1;have:¬1≤x.2.2:=by omega
 simp[e,this];by_cases f:x.2.2>999;have:¬x.2.2≤999:=by omega
 simp[e,f,this];have c1:1≤x.2.2:=by omega
 have i:x.2.2≤999:=by omega
 cases(o.getD []).all (m6 x)<;>simp[e,f,c1,i];grind
theorem Lp(o:Q (L aC))(i:U):(eQ (aV 0 (i:M)) o).getD []=(o.getD []).take i:=by have:∀l:L aC,aV 0 (i:M) l=l.take i:=λl=>fF l 0 i;cases o<;>simp[this]
theorem ada(f:L aC)(i:U):tot (f.take i)≤tot f:=by grind [gR,l7]
def iu(f:L aC):M:=if f.length>512∨bK f>1024 then 3 else
 match scan (λi=>match f[i]? with|some x=>(if li (f.take i) x=0 then O else J (li (f.take i) x))|none=>O) 0 f.length with|some e=>e|none=>0
def SW{o:Q (L aC)}(a:tot (o.getD [])≤1073741824):zE o=J (iu (o.getD [])):=by
 have b:=dH (o.getD []);unfold zE iu aM aB aj;rw[qz a];by_cases c1:(o.getD []).length>512;rw[ax (by simp;omega),ax (.inl c1)];rw[aK (by simp;omega),aw];by_cases c:bK (o.getD [])>1024;grind;rw[aK (by simp;omega),aK (by omega)];rw[ace (f:=Jg o) (o.getD []).length (λi=>match(o.getD [])[i]? with|some x=>(if li ((o.getD []).take i) x=0 then O else J (li ((o.getD []).take i) x))|none=>O) (λi hi=>by have hk:=atY (o:=eQ (aV 0 (i:M)) o) (by grind [Lp,ada]) (o.getD [])[i];rw[Lp]at hk;unfold Jg bY aF bJ aB ag aj aq ay au;rw[dq hi,ax (by simp;omega),ax (cS hi),getD_at hi,hk,du hi,eo (by omega)];grind [aw,uz]) (by unfold Jg bY aF bJ aB ag aj aq ay au;rw[eZ]) (cb (bT (by omega))),aw,acf]
 grind
def atZ{o:Q (L aC)}(d:tot (o.getD [])≤1073741824){i:U}(hi:i<(o.getD []).length):∃b,JR o (i:M)=J b∧(b=I→li ((o.getD []).take i) (o.getD [])[i]=1)∧(b=W→li ((o.getD []).take i) (o.getD [])[i]=if dU (o.getD [])[i]=W then(if((o.getD []).take i).all (m6 (o.getD [])[i])then 0 else 7)else 0):=by
 have e:=dH (o.getD []);have a:∀j,i=j+1→((o.getD []).take i).getLast?=(o.getD [])[j]? :=λj c=>by grind
 unfold JR li dU bY aF al ag aj aR;dsimp-proj only[ah];rw[ax (cS hi),getD_at hi];generalize f:(o.getD [])[i]=x;by_cases k1:x.1=1;rw[ax (by simpa using k1)];simp only[ax k1];have kt:(x.1==2||(x.1==3||x.1==4))=I:=by simp[k1]
 rw[kt];cases i with
 |zero=>grind|succ j=>
  have w:aO.wrap (((j+1:U):M)-1)=(j:M):=by grind [wrap_i64]
  have c:j<(o.getD []).length:=by omega
  have g:(((j+1:U):M)==0)=I:=by grind
  simp_all
 rw[aK (by simpa using k1)];simp only[aK k1];by_cases k5:x.1=5;rw[ax (by simpa using k5),uB];simp_all;rw[aK (by simpa using k5)];simp only[aK k5];by_cases qh:x.1=2∨x.1=4;rw[ax (by rcases qh with h|h<;>simp[h]),SH]
 simp only[ax qh,aw];have kt:(x.1==2||(x.1==3||x.1==4))=W:=by rcases qh with h|h<;>simp[h]
 grind;rw[aK (by simp;omega)];simp only[aK qh];by_cases k3:x.1=3;rw[ax (by simpa using k3),uB];simp only[ax k3,aw];grind;simp_all
def adb{o:Q (L aC)}(a:tot (o.getD [])≤1073741824):xj o=J (iu (o.getD [])):=by
 have m:=dH (o.getD []);unfold xj iu aM aB aj;rw[ES a];by_cases c1:(o.getD []).length>512;rw[ax (by simp;omega),ax (.inl c1)];rw[aK (by simp;omega),aw];by_cases n:bK (o.getD [])>1024;grind;rw[aK (by simp;omega),aK (by omega)];rw[ace (f:=JS o) (o.getD []).length (λi=>match(o.getD [])[i]? with|some x=>(if li ((o.getD []).take i) x=0 then O else J (li ((o.getD []).take i) x))|none=>O) (λi hi=>by
  let⟨b,e,j,k⟩:=atZ a hi
  have c:=atW (o:=eQ (aV 0 (i:M)) o) (by grind [Lp,ada]) (o.getD [])[i]
  rw[Lp]at c
  unfold JS pc bq aF bJ ag aj aq ay au
  rw[lL hi,getD_at hi,e,c,du hi,eo (by omega)]
  show ak (J b) (λl=>if(!l)=W then _ else ak (J (dU (o.getD [])[i])) _)=_
  cases b with|false=>simp[j rfl,uz]|true=>have g:=k rfl;cases d:dU (o.getD [])[i];rw[d]at g;simp at g;simp[g,uz];rw[d]at g;cases h:((o.getD []).take i).all (m6 (o.getD [])[i]);rw[h]at g;simp at g;simp[g,uz];omega;rw[h]at g;simp at g;simp[g,uz];omega) (by unfold JS bq aF bJ ag aj aq ay au;rw[eZ]) (cb (bT (by omega))),aw,acf]
 grind
def lU(fmt:M)(c:ai):L ai:=if fmt=1 then(if c=60 then[38,108,116,59]else if c=38 then[38,97,109,112,59]else if c=123 then[38,108,98,59]else[c]) else if fmt=2 then(if c=10 then[92,110]else if c=9 then[92,116]else if c=13 then[92,114]else if c=92 then[92,92]else if c=123 then[92,123]else[c]) else if c=34 then[34,34]else if c=123 then[123,123]else[c]
theorem adc(fmt:M)(c:ai):(lU fmt c).length≤5:=by
 unfold lU;repeat' split
 all_goals simp
theorem xH(fmt:M):∀s:L ai,(s.flatMap (lU fmt)).length≤5*s.length|[]=>by simp|c::s=>by have:=xH fmt s;grind [adc]
theorem at0(c:ai):je (aN c).toNat=c:=by grind [aN,UInt8.ofNat_toNat]
def uJ(c b:ai):(aN c==aN b)=decide (c=b):=by grind [xC]
def at1{fmt:M}(j:eO fmt)(c:ai):zI fmt (aN c)=J (lU fmt c):=by have b:=uJ c 60;have d:=uJ c 38;have a:=uJ c 123;have e:=uJ c 10;have i:=uJ c 9;have f:=uJ c 13;have g:=uJ c 92;have h:=uJ c 34;rw[show aN 60=60 from rfl]at b;rw[show aN 38=38 from rfl]at d;rw[show aN 123=123 from rfl]at a;rw[show aN 10=10 from rfl]at e;rw[show aN 9=9 from rfl]at i;rw[show aN 13=13 from rfl]at f;rw[show aN 92=92 from rfl]at g;rw[show aN 34=34 from rfl]at h;unfold zI lU fW ag aY;grind [at0]
def encI(fmt:M)(x:aC):L ai:=if x.1=1 then x.2.1.flatMap (lU fmt)else if x.1=2 then[60]++x.2.1++[62]else if x.1=3 then[60,47]++x.2.1++[62]else if x.1=4 then[60]++x.2.1++[47,62]else if x.1=5 then[123]++x.2.1++[125]else[]
def rS(fmt:M)(x:aC):ao:=dU x&&(fmt !=1||pj (fM x.2.1))
def encS(fmt:M)(f:L aC):L ai×M:=if iu f=0 then(if f.any (rS fmt)=W then([],7)else(f.flatMap (encI fmt),0))else([],iu f)
theorem at3(fmt:M)(x:aC):(encI fmt x).length≤5*(x.2.1.length+1):=by grind [encI,xH]
theorem E2(fmt:M):∀f:L aC,(f.flatMap (encI fmt)).length≤5*tot f|[]=>by simp|x::f=>by have:=E2 fmt f;grind [at3,tot]
def uK{σ ρ a:Type}{F:σ→Q (σ⊕ρ⊕a)}(n:U)(st:U→σ)(bad:U→ao)(r:ρ)(z:a)(step:∀i,i<n→F (st i)=if bad i=W then J (.inr (.inl r))else J (.inl (st (i+1))))(stop:F (st n)=J (.inr (.inr z)))(hn:n<fuel):bA F (st 0)=J (if(hY n).any bad=W then .inl r else .inr z):=by
 have key:∀(k i m:U),i+k=n→k<m→dy F m (st i)=J (if((hY n).drop i).any bad=W then .inl r else .inr z):=by
  intro k;induction k with
  |zero=>intro i m hi b;obtain⟨m,rfl⟩:∃q,m=q+1:=⟨m-1,by omega⟩;simp_all [dy,List.drop_of_length_le]
  |succ k c=>intro i m hi b;obtain⟨m,rfl⟩:∃q,m=q+1:=⟨m-1,by omega⟩;grind [dy,uY]
 simp_all [bA]
theorem Lq(p:aC→ao)(f:L aC):(hY f.length).any (λi=>p (f.getD i (0,[],0)))=f.any p:=by
 have:(hY f.length).map (λi=>f.getD i (0,[],0))=f:=by apply List.ext_getElem (by simp);grind
 grind
def at4{fmt:M}(a:eO fmt){o:Q (L aC)}{i:U}(hi:i<(o.getD []).length)(x:aC)(hx:(o.getD [])[i]=x)(e:tot (o.getD [])≤67108864)(acc:L ai)(g:acc.length≤1073741824):bA (zJ fmt o (acc,(i:M))) (acc,0)=J (acc++x.2.1.flatMap (lU fmt)):=by
 have b:=uI hi;rw[hx]at b;have c:(acc,(0:M))=(acc++(x.2.1.take 0).flatMap (lU fmt),((0:U):M)):=by simp
 rw[c];refine ep (f:=zJ fmt o (acc,(i:M))) x.2.1.length (λk=>(acc++(x.2.1.take k).flatMap (lU fmt),(k:M))) (r:=acc++x.2.1.flatMap (lU fmt)) (λk hk=>?_) ?_ (cb (bT (by omega)));unfold zJ gC aF fW aB bL aq ay au ej;dsimp-proj only[ah];simp only[getD_at hi,hx];have d:=cI (i:=k) (by omega);have h1:=xH fmt (x.2.1.take k);have h2:=adc fmt x.2.1[k];have h3:(x.2.1.take k).length≤k:=by simp;omega
 rw[dq hk,ax (by simp),ax (by unfold bw;rw[gG];exact hk)];show ak (zI fmt (aN (x.2.1.getD ((k:M)).toNat 0))) _=_;rw[ke hk,at1 a,aw,ax (by grind),d,iz hk,uW];simp;unfold zJ gC aF fW aB bL aq ay au ej;dsimp-proj only[ah];simp_all
def at5{fmt:M}{o:Q (L aC)}(s:L ai×M):Zw fmt o s=zJ fmt o s:=rfl
def SY{f:L aC}(h:iu f=0){i:U}(hi:i<f.length):f[i].1=1∨f[i].1=2∨f[i].1=3∨f[i].1=4∨f[i].1=5:=by grind [iu,xy,Ah,li]
def S0{fmt:M}{f:L aC}{i:U}(hi:i<f.length):(f.take (i+1)).flatMap (encI fmt)=(f.take i).flatMap (encI fmt)++encI fmt f[i]:=by rw[iz hi,uW];simp
def ade{fmt:M}(b:eO fmt){o:Q (L aC)}(c:tot (o.getD [])≤67108864):Dd fmt o=J (encS fmt (o.getD [])):=by
 have a:=dH (o.getD []);unfold Dd encS aM ag;rw[SW (by omega),aw];by_cases hv:iu (o.getD [])=0;rw[hv,aK (by decide),ax rfl];have:=uK (F:=Jk fmt o) (o.getD []).length (λi=>(((o.getD []).take i).flatMap (encI fmt),(i:M))) (λi=>rS fmt ((o.getD []).getD i (0,[],0))) ([],7) ((o.getD []).flatMap (encI fmt)) (λi hi=>by
  have hk:=SY hv hi
  have f:=E2 fmt ((o.getD []).take i)
  have hT:=xG (o.getD []) i
  have g:=uI hi
  have h:=at4 b hi _ rfl c (((o.getD []).take i).flatMap (encI fmt)) (by omega)
  have d:=cI (i:=i) (by omega)
  have e:(o.getD []).getD i (0,[],0)=(o.getD [])[i]:=by grind
  rw[S0 hi,e]
  unfold Jk nU bq aM aF al ag aj aq ay au cr aY gP;dsimp-proj only[ah]
  simp only[at5]
  rw[dq hi,ax (cS hi)]
  simp only[getD_at hi,d]
  grind [encI,aw,uF,rS,dU,SJ]) (by
  unfold Jk bq aM aF al ag aj aq ay au cr aY gP;dsimp-proj only[ah]
  simp_all) (cb (bT (by omega)))
 rw[Lq]at this;rw[show(([],0):L ai×M)=(((o.getD []).take 0).flatMap (encI fmt),((0:U):M)) by simp,this,aw];split<;>rfl;grind
def m7(fmt:M):L (ai×L ai):=if fmt=1 then[(60,[38,108,116,59]),(38,[38,97,109,112,59]),(123,[38,108,98,59])] else if fmt=2 then[(10,[92,110]),(9,[92,116]),(13,[92,114]),(92,[92,92]),(123,[92,123])] else[(34,[34,34]),(123,[123,123])]
def m8(fmt:M):Q (L (L ai)):=J ((m7 fmt).flatMap λp=>[[p.1],p.2])
theorem at6(a:ai)(n:L ai)(r:L (ai×L ai))(c:ai):(dK ((a,n)::r) c).getD [c]=if c=a then n else(dK r c).getD [c]:=by grind [dK]
theorem at7(c:ai):(dK [] c).getD [c]=[c]:=rfl
theorem at8{fmt:M}(a:eO fmt)(c:ai):(dK (m7 fmt) c).getD [c]=lU fmt c:=by grind [m7,lU,at6,at7]
theorem adf{fmt:M}(a:eO fmt)(t:L ai):DJ (m7 fmt) t=t.flatMap (lU fmt):=by unfold DJ;congr 1;grind [at8]
theorem at9{fmt:M}(a:eO fmt){t:L ai}(h:t.length≤67108864):zS (m7 fmt) t=W:=by
 unfold zS;rw[adf a];have:=xH fmt t;have h1:(decide (2≤(m7 fmt).length)&&decide ((m7 fmt).length≤1000)&&decide (((m7 fmt).map (·.1)).Nodup)&&(m7 fmt).all (λp=>decide (2≤p.2.length)))=W:=by rcases a with rfl|rfl|rfl<;>decide
 grind
theorem aua{fmt:M}(a:eO fmt):uh ((m8 fmt).getD [])=J (m7 fmt):=by rcases a with rfl|rfl|rfl<;>rfl
def n6(fmt:M)(f:L aC):M×M×L (ai×L ai)×Q (L (L ai)):=if f.any (λx=>x.1==1)=W then(1,0,m7 fmt,O)else(0,0,[],m8 fmt)
def adg{fmt:M}(a:eO fmt)(f:L aC){t:L ai}(h:t.length≤67108864)(z:M):rH t ((n6 fmt f).1,(n6 fmt f).2.1,z,(n6 fmt f).2.2)=J (t.flatMap (lU fmt),1,0,m7 fmt,O):=by grind [rH,n6,at9,adf,aua]
def adh{fmt:M}{f:L aC}{i:U}(hi:i<f.length):n6 fmt (f.take (i+1))=if f[i].1=1 then(1,0,m7 fmt,O)else n6 fmt (f.take i):=by grind [n6,iz]
def Lr{fmt:M}(a:eO fmt):ug (m8 fmt)=J (0,0,0,[],m8 fmt):=by rcases a with rfl|rfl|rfl<;>rfl
def adi{o:Q (L aC)}{fmt:M}(a:fmt=2∨fmt=3)(g:tot (o.getD [])≤67108864)(hv:iu (o.getD [])=0):bA (DN o (0,0,0,[],m8 fmt)) ([],0,0,0,[],m8 fmt)=J (if(o.getD []).any (rS fmt)=W then .inl ([],7)else .inr ((o.getD []).flatMap (encI fmt))):=by
 have b:=dH (o.getD []);have c:eO fmt:=.inr a;have:=uK (F:=DN o (0,0,0,[],m8 fmt)) (o.getD []).length (λi=>(((o.getD []).take i).flatMap (encI fmt),(i:M),n6 fmt ((o.getD []).take i))) (λi=>rS fmt ((o.getD []).getD i (0,[],0))) ([],7) ((o.getD []).flatMap (encI fmt)) (λi hi=>by
  have hk:=SY hv hi
  have h:=E2 fmt ((o.getD []).take i)
  have hT:=xG (o.getD []) i
  have j:=uI hi
  have k:=cI (i:=i) (by omega)
  have d:(o.getD []).getD i (0,[],0)=(o.getD [])[i]:=by grind
  have l:=adg c ((o.getD []).take i) (t:=(o.getD [])[i].2.1) (by omega) 0
  rw[S0 hi,adh hi,d]
  have e:(fmt !=1)=W:=by rcases a with rfl|rfl<;>rfl
  have f:=xH fmt (o.getD [])[i].2.1
  unfold DN bq aF fW al ag aj aq ay au cr aY;dsimp-proj only[ah]
  simp only[]
  rw[dq hi,ax (cS hi)]
  grind [getD_at,encI,rS,dU,aw]) (by
  unfold DN bq aF fW al ag aj aq ay au cr aY;dsimp-proj only[ah]
  simp_all) (cb (bT (by omega)))
 grind [Lq,n6]
def aub{o:Q (L aC)}(j:tot (o.getD [])≤67108864)(hv:iu (o.getD [])=0):bA (DK o (0,0,0,[],m8 1)) ([],0,0,0,[],m8 1)=J (if(o.getD []).any (rS 1)=W then .inl ([],7)else .inr ((o.getD []).flatMap (encI 1))):=by
 have b:=dH (o.getD []);have d:eO 1:=.inl rfl;have:=uK (F:=DK o (0,0,0,[],m8 1)) (o.getD []).length (λi=>(((o.getD []).take i).flatMap (encI 1),(i:M),n6 1 ((o.getD []).take i))) (λi=>rS 1 ((o.getD []).getD i (0,[],0))) ([],7) ((o.getD []).flatMap (encI 1)) (λi hi=>by
  have hk:=SY hv hi
  have k:=E2 1 ((o.getD []).take i)
  have hT:=xG (o.getD []) i
  have c:=uI hi
  have e:=cI (i:=i) (by omega)
  have f:(o.getD []).getD i (0,[],0)=(o.getD [])[i]:=by grind
  have g:=adg d ((o.getD []).take i) (t:=(o.getD [])[i].2.1) (by omega) 0
  rw[S0 hi,adh hi,f]
  have a:=xH 1 (o.getD [])[i].2.1
  have h:=Lh (s:=(o.getD [])[i].2.1) (by omega)
  unfold DK bq aF fW al ag aj aq ay au cr aY gP;dsimp-proj only[ah]
  simp only[]
  rw[dq hi,ax (cS hi)]
  simp only[getD_at hi,e]
  generalize (o.getD [])[i]=x at *
  generalize ((o.getD []).take i).flatMap (encI 1)=acc at *
  generalize n6 1 ((o.getD []).take i)=rs at *
  let⟨kd,t,id⟩:=x
  have c:t.length+1≤tot (o.getD []):=c
  simp only[]at a g hk
  unfold rS dU encI
  simp only[h,SL,aw]
  rcases hk with rfl|rfl|rfl|rfl|rfl
  grind [aw]
  all_goals
   grind) (by
  unfold DK bq aF fW al ag aj aq ay au cr aY gP;dsimp-proj only[ah]
  simp_all) (cb (bT (by omega)))
 grind [Lq,n6]
def auc{fmt:M}(a:eO fmt){o:Q (L aC)}(b:tot (o.getD [])≤67108864):JT fmt o=J (encS fmt (o.getD [])):=by
 have d:=λfmt(a:eO fmt)=>Lr a;unfold JT encS ag;have c:=adb (o:=o) (by omega);by_cases hv:iu (o.getD [])=0;rcases a with rfl|rfl|rfl
 rw[ax (by decide)];unfold DM aM ag;rw[c,aw,hv,aK (by decide)];rw[show J [[60],[38,108,116,59],[38],[38,97,109,112,59],[123],[38,108,98,59]]=m8 1 from rfl,Lr (fmt:=1) (.inl rfl),aw,aub b hv];simp only[aw,bf];split<;>rfl;rw[aK (by decide),ax (by decide)];unfold DO aM ag;rw[c,aw,hv,aK (by decide)];rw[show J [[10],[92,110],[9],[92,116],[13],[92,114],[92],[92,92],[123],[92,123]]=m8 2 from rfl,Lr (fmt:=2) (.inr (.inl rfl)),aw,adi (.inl rfl) b hv];simp only[aw,bf];split<;>rfl;rw[aK (by decide),aK (by decide)];unfold DP aM ag;rw[c,aw,hv,aK (by decide)];rw[show J [[34],[34,34],[123],[123,123]]=m8 3 from rfl,Lr (fmt:=3) (.inr (.inr rfl)),aw,show bA (Zy o _) _=_ from adi (.inr rfl) b hv];simp only[aw,bf];split<;>rfl;simp_all [DM,DO,DP,aM,ag]
def aud(x y:aC):(x.1==y.1&&(decide (x.2.1=y.2.1)&&(x.2.2==y.2.2&&W)))=decide (x=y):=by grind
def adj{a b:Q (L aC)}(f:(a.getD []).length≤1073741824):Db a b=J (decide (a.getD []=b.getD [])):=by
 unfold Db aM ag aj;by_cases d:(a.getD []).length=(b.getD []).length;have c:(af (a.getD []) !=af (b.getD []))=I:=by simp[bne];omega
 rw[c];refine(Ld d (cb (bT (by omega))) (λi h1 h2=>?_) ?_);unfold Px aF al aB ag aj aq ay au;rw[dq h1,getD_at h1,getD_at h2,aud,ax (by simp;omega),eo (by omega)];by_cases h:(a.getD [])[i]=(b.getD [])[i]<;>simp[h];unfold Px aF al aB ag aj aq ay au;rw[eZ];have c:(af (a.getD []) !=af (b.getD []))=W:=by simp[bne];omega
 rw[c,ia λe=>d (bz uO e)];rfl
def aue{a b:Q (L aC)}(c:(a.getD []).length≤1073741824):J3 a b=J (decide (a.getD []=b.getD [])):=by have:PU a b=Db a b:=rfl;unfold J3;rw[this,adj c];rfl
def adk{f:L aC}{i:U}(h:i<f.length):(f.take (i+1)).filter dU=(f.take i).filter dU++(if dU f[i]=W then[f[i]]else[]):=by rw[iz h,List.filter_append];cases a:dU f[i]<;>simp[a]
def adl{o:Q (L aC)}(c:(o.getD []).length≤1073741824):D6 o=J (aL ((o.getD []).filter dU)):=by
 have:bA (D0 o) (O,0)=J (aL ((o.getD []).filter dU)):=by
  refine ep (f:=D0 o) (o.getD []).length (λi=>(aL (((o.getD []).take i).filter dU),(i:M))) (λi hi=>?_) ?_ (cb (bT (by omega)));have b:=Fv dU ((o.getD []).take i);have a:((o.getD []).take i).length≤(o.getD []).length:=by simp;omega
  unfold D0 pc bq aF al ag aj aq ay au aY;rw[adk hi,lL hi,getD_at hi,eo (by omega)];grind [dU,aw,bS,iq];unfold D0 bq aF al ag aj aq ay au aY;simp_all
 unfold D6 aM al;rw[this];simp
def adn{o:Q (L aC)}(c:(o.getD []).length≤1073741824):CZ o=J (aL ((o.getD []).filter dU)):=by
 have:bA (CY o) (O,0)=J (aL ((o.getD []).filter dU)):=by
  refine ep (f:=CY o) (o.getD []).length (λi=>(aL (((o.getD []).take i).filter dU),(i:M))) (λi hi=>?_) ?_ (cb (bT (by omega)));have b:=Fv dU ((o.getD []).take i);have a:((o.getD []).take i).length≤(o.getD []).length:=by simp;omega
  unfold CY nU bq aF al ag aj aq ay au aY;rw[adk hi,lL hi,getD_at hi,eo (by omega)];show ak (J (dU (o.getD [])[i])) _=_;rw[aw,bS];cases d:dU (o.getD [])[i];simp;rw[ax (by simp;omega)];simp[iq];unfold CY bq aF al ag aj aq ay au aY;simp_all
 unfold CZ aM al;rw[this];simp
abbrev Shp:=Q (L M)×Q (L M)×ao
def ado{o:Q (L aC)}(s:(o.getD []).length≤1073741824):∃r:Shp,DZ o=J r∧CU o=J r∧(r.1.getD []).length≤(o.getD []).length∧(r.2.1.getD []).length≤(o.getD []).length:=by
 have key:=pf (f:=PV o) (g:=Pw o) (λx y=>x=y∧∃(i:U)(p q:Q (L M)),x=(p,q,(i:M))∧i≤(o.getD []).length∧(p.getD []).length≤i∧(q.getD []).length≤i) (λr q=>r=q∧((r=.inl (O,O,I))∨∃p q:Q (L M),r=.inr (p,q)∧(p.getD []).length≤(o.getD []).length∧(q.getD []).length≤(o.getD []).length))
  (λx=>(o.getD []).length-x.2.2.toNat) (λx y h=>by
    obtain⟨rfl,i,p,q,rfl,h1,h2,h3⟩:=h
    unfold PV Pw bq aF al ag aj aq aR ay au aY;dsimp-proj only[ah]
    simp only[]
    rcases gW i (o.getD []).length with hi|hi
    have w:=cI (i:=i) (by omega)
    rw[lL hi,lL hi,getD_at hi,w,cS hi]
    generalize (o.getD [])[i]=x
    by_cases k2:x.1=2
    left
    refine⟨_,_,?_,?_,⟨rfl,i+1,p,J (q.getD []++[x.2.2]),rfl,by omega,by omega,by simp;omega⟩,by simp only[];omega⟩
    simp[k2];omega
    simp[k2];omega
    by_cases k3:x.1=3
    by_cases t:(q.getD []).length=0
    left
    have a:(af (q.getD [])==0)=W:=by simp_all
    refine⟨_,_,?_,?_,⟨rfl,i+1,J (p.getD []++[x.2.2]),q,rfl,by omega,by simp;omega,by omega⟩,by simp only[];omega⟩
    grind
    grind
    have a:(af (q.getD [])==0)=I:=by simp_all
    have c:aO.wrap (af (q.getD [])-1)=(((q.getD []).length-1:U):M):=by grind [dp,wrap_i64]
    have d:(eQ (aV 0 (((q.getD []).length-1:U):M)) q).isSome=q.isSome:=by cases q<;>rfl
    have e:((eQ (aV 0 (((q.getD []).length-1:U):M)) q).getD []).length≤i:=by
     cases q with|none=>simp|some l=>grind [aV]
    simp only[a,c,d]
    by_cases b:(q.getD []).getD (0+((((q.getD []).length-1:U):M)).toNat) 0=x.2.2
    left
    refine⟨_,_,?_,?_,⟨rfl,i+1,p,eQ (aV 0 (((q.getD []).length-1:U):M)) q,rfl,by omega,by omega,by omega⟩,by simp only[];omega⟩
    rw[aK (by simpa using k2),aK (by simp),ax (by simp[cq];omega),ax (by rw[b];simp[k3]),ax (by simp)]
    rw[aK (by simpa using k2),ax (by simpa using k3),aK (by simp),ax (by simp[cq];omega),ax (by rw[b];simp),ax (by simp)]
    right
    refine⟨_,_,?_,?_,⟨rfl,.inl rfl⟩⟩
    rw[aK (by simpa using k2),aK (by simp),ax (by simp[cq];omega),aK (by grind),ax (by simpa using k3)]
    rw[aK (by simpa using k2),ax (by simpa using k3),aK (by simp),ax (by simp[cq];omega),aK (by simpa using b)]
    left
    have j:(x.1==3)=I:=by simpa using k3
    refine⟨_,_,?_,?_,⟨rfl,i+1,p,q,rfl,by omega,by omega,by omega⟩,by simp only[];omega⟩
    grind
    grind
    right
    rw[show i=(o.getD []).length by omega,eZ,eZ]
    grind) (x:=(O,O,0)) (y:=(O,O,0)) ⟨rfl,0,O,O,rfl,by omega,by simp,by simp⟩ (js (uZ _ _) (cb (bT (by omega))))
 obtain⟨r,q,k,m,rfl,n⟩:=key;unfold DZ CU aM al;rw[k,m];rcases n with rfl|⟨p,q,rfl,h1,h2⟩
 simp_all;simp_all
def aug{V:Type}(x:M):cF (V:=V) (.int .i64) x []=O:=rfl
theorem E3{V:Type}(x:M)(r:M×V)(l:L (M×V)):cF (.int .i64) x (r::l)=if x=r.1 then J r.2 else cF (.int .i64) x l:=by
 show(match(x==r.1)with|true=>J r.2|false=>cF (.int .i64) x l)=_
 grind
def S1{V:Type}(x:M)(y:V)(r:M×V)(l:L (M×V)):eI (.int .i64) x y (r::l)=if x=r.1 then(x,y)::l else r::eI (.int .i64) x y l:=by
 show(match(x==r.1)with|true=>(x,y)::l|false=>r::eI (.int .i64) x y l)=_
 grind
def auh{V:Type}(x:M)(y:V):eI (.int .i64) x y []=[(x,y)]:=rfl
def adp{V:Type}(z x:M)(y:V):∀l:L (M×V),cF (.int .i64) z (eI (.int .i64) x y l)=if z=x then J y else cF (.int .i64) z l|[]=>by rw[auh,E3]|r::l=>by rw[S1];by_cases h:x=r.1;grind [E3];rw[aK h,E3,E3,adp z x y l];grind
def m9(out:L M)(x:aC):L M:=if dU x=W∧x.2.2 ∉ out then out++[x.2.2]else out
def nums(f:L aC):L M:=f.foldl m9 []
def adq{f:L aC}{i:U}(h:i<f.length):nums (f.take (i+1))=m9 (nums (f.take i)) f[i]:=by grind [iz,nums]
theorem Ls:∀(f:L aC)(out:L M),(f.foldl m9 out).length≤out.length+f.length|[],out=>by simp|x::f,out=>by have:=Ls f (m9 out x);grind [m9]
def adr(f:L aC){i:U}(h:i≤f.length):(nums (f.take i)).length≤i:=by grind [Ls,nums]
def ads(n:M):∀out:L M,cF (.int .i64) n (out.map λk=>(k,W))=if n∈out then J W else O|[]=>rfl|k::out=>by rw[dO,E3,ads n out];grind
theorem adt(n:M):∀out:L M,n ∉ out→eI (.int .i64) n W (out.map λk=>(k,W))=(out++[n]).map λk=>(k,W)|[],_=>rfl|k::out,h=>by simp at h;rw[dO,S1,aK h.1,adt n out h.2];rfl
def aui{o:Q (L aC)}(b:(o.getD []).length≤1073741824):JZ o=J (aL (nums (o.getD []))):=by
 have:bA (DU o) (O,[],0)=J (aL (nums (o.getD []))):=by refine ep (f:=DU o) (o.getD []).length (λi=>(aL (nums ((o.getD []).take i)),(nums ((o.getD []).take i)).map (λk=>(k,W)),(i:M))) (λi hi=>?_) ?_ (cb (bT (by omega)));have a:=adr (o.getD []) (Nat.le_of_lt hi);rw[adq hi];unfold DU pc m9 bq aF al ag aj aq ay au aY;dsimp-proj only[ah];simp only[];rw[lL hi,getD_at hi,eo (by omega),ads];grind [dU,aw,bS,adt,iq];unfold DU bq aF al ag aj aq ay au aY;dsimp-proj only[ah];simp_all
 unfold JZ aM al;rw[this];simp
def auj{o:Q (L M)}(a:(o.getD []).length≤1073741824)(n:M):Jh o n=J (decide (n∈o.getD [])):=by
 have st:∀i(hi:i<(o.getD []).length),zG o n (i:M)=if(o.getD [])[i]=n then J (.inr (.inl W))else J (.inl ((i+1:U):M)):=λi hi=>by unfold zG al aB ag aj aq ay au;rw[dq hi,ax (by simp[cq,hi]),uP,getD_at hi,eo (by omega)];by_cases h:(o.getD [])[i]=n<;>simp[h]
 have:=Ze (f:=zG o n) (λi=>(i:M)) (o.getD []).length (λi=>(o.getD [])[i]?≠J n) (.inl W) (.inr ()) (λi hi hp=>by grind) (λi hi hp=>by grind) (by unfold zG al aB ag aj aq ay au;rw[eZ]) (cb (bT (by omega)));unfold Jh aM;by_cases h:n∈o.getD [];simp_all [List.getElem_of_mem];rw[show bA (zG o n) 0=_ from this.1 λi hi e=>h (List.mem_of_getElem? e),ia h];rfl
def auk{o:Q (L aC)}(c:(o.getD []).length≤1073741824):zH o=J (aL (nums (o.getD []))):=by
 have:bA (C5 o) (O,0)=J (aL (nums (o.getD []))):=by refine ep (f:=C5 o) (o.getD []).length (λi=>(aL (nums ((o.getD []).take i)),(i:M))) (λi hi=>?_) ?_ (cb (bT (by omega)));have b:=adr (o.getD []) (Nat.le_of_lt hi);have a:=auj (o:=aL (nums ((o.getD []).take i))) (by rw[bS];omega) (o.getD [])[i].2.2;rw[bS]at a;rw[adq hi];unfold C5 nU m9 bq bY aF al ag aj aq ay au aY;dsimp-proj only[ah];simp only[];rw[lL hi,getD_at hi,eo (by omega),a];grind [dU,aw,bS,cS,iq];unfold C5 bq bY aF al ag aj aq ay au aY;dsimp-proj only[ah];simp_all
 unfold zH aM al;rw[this];simp
def cnt(n:U):L M:=(hY n).map λ(j:U)=>(j:M)+1
theorem adu(n:U):cnt (n+1)=cnt n++[(n:M)+1]:=by simp[cnt,aaN]
theorem Lt(n:U):(cnt n).length=n:=by simp[cnt]
def adv{n k:U}(h:k<n):(cnt n).getD k 0=(k:M)+1:=by rw[iy];simp[cnt,h]
def aul{n:U}(hn:n≤1073741824):DX (n:M)=J (J (cnt n)):=by
 have:bA (DW (n:M)) (dk n 0,0)=J (cnt n):=by
  have a:=ep (f:=DW (n:M)) n (λi=>(cnt i++dk (n-i) 0,(i:M))) (r:=cnt n) (λi hi=>?_) ?_ (cb (bT (by omega)));simpa[cnt]using a;have b:=Lt i;have c:dk (n-i) (0:M)=0::dk (n-(i+1)) 0:=by rw[show n-i=(n-(i+1))+1 by omega,List.replicate_succ]
  have d:(cnt i++(0:M)::dk (n-(i+1)) 0).set i ((i:M)+1)=cnt (i+1)++dk (n-(i+1)) 0:=by simp_all [adu]
  unfold DW al aB aq ay au;rw[c,ax (by simp;omega),ax (by simp[cq,b];omega)];grind [wrap_i64];simp_all [DW,al,aB,aq,ay,au]
 unfold DX aM bJ;rw[ax (by simp;omega),eE,this];rfl
def aum{n:U}(hn:n≤1073741824):Da (n:M)=J (aL (cnt n)):=by
 have:bA (C8 (n:M)) (O,1)=J (aL (cnt n)):=by refine ep (f:=C8 (n:M)) n (λi=>(aL (cnt i),(i:M)+1)) (λi hi=>?_) ?_ (cb (bT (by omega)));grind [Lt,C8,bS,iq,adu,wrap_i64];grind [C8]
 unfold Da aM al;rw[this];simp
def qD(z:M):L M→U→Q M|[],_=>O|a::r,k=>if z=a then J ((k:M)+1)else qD z r (k+1)
def adw(z:M):∀(l:L M)(a:U),z∈l→∃k,qD z l a=J (((a+k:U):M)+1)∧l[k]?=J z∧∀j,j<k→l[j]?≠J z|b::r,a,h=>by by_cases c:z=b;grind [qD];let⟨k,h1,h2,h3⟩:=adw z r (a+1) ((iA.1 h).resolve_left c);refine⟨k+1,by grind [qD],h2,λj d=>?_⟩;grind
def aun{ns:L M}(hn:ns.length≤1073741824){o t:Q (L M)}(c:o.getD []=ns)(d:t.getD []=cnt ns.length):∃m,bA (J0 o t) ([],aO.wrap (gN (af ns) (af (cnt ns.length))-1))=J m∧∀z,cF (.int .i64) z m=qD z ns 0:=by
 have g:=Lt ns.length;have k:gN (af ns) (af (cnt ns.length))=(ns.length:M):=by simp_all [gN]
 rw[k,eo (by omega)];refine eY (f:=J0 o t) (λs=>∃i:U,i≤ns.length∧s.2=(i:M)-1∧∀z,cF (.int .i64) z s.1=qD z (ns.drop i) i) (λs=>(s.2+1).toNat) (λm=>∀z,cF (.int .i64) z m=qD z ns 0) (λs h=>?_) _ ⟨ns.length,by omega,rfl,λz=>by rw[List.drop_length];exact aug z⟩ (cb (bT (by simp only[];omega)));let⟨m,l⟩:=s;obtain⟨i,hi,rfl,b⟩:=h;simp only[]at b;unfold J0 aF al aB aj aR ay au;simp only[c,d];cases i with
 |zero=>grind|succ j=>
  have e:((j+1:U):M)-1=(j:M):=by omega
  have a:j<ns.length:=by omega
  rw[e,ax (by simp),ax (by simp[g];omega),getD_at a,eE,adv a];refine⟨⟨j,by omega,by grind [wrap_i64],λz=>?_⟩,by grind [wrap_i64]⟩;simp only[];rw[adp,b z,uY a,qD]
def jo(ns:L M)(x:aC):L aC:=if dU x=W then(match qD x.2.2 ns 0 with|some n=>[(x.1,x.2.1,n)]|none=>[])else[x]
theorem E4(ns:L M):∀f:L aC,tot (f.flatMap (jo ns))≤tot f∧(f.flatMap (jo ns)).length≤f.length|[]=>by simp[tot]|x::f=>by let⟨h1,h2⟩:=E4 ns f;grind [tot,jo]
def adx{ns:L M}{f:L aC}{i:U}(h:i<f.length):(f.take (i+1)).flatMap (jo ns)=(f.take i).flatMap (jo ns)++jo ns f[i]:=by rw[iz h,uW];simp
def auo{f:Q (L aC)}(h:tot (f.getD [])≤536870912){ns:L M}(hn:ns.length≤1073741824){o t:Q (L M)}(a:o.getD []=ns)(b:t.getD []=cnt ns.length):J1 f o t=J (aL (nrm ((f.getD []).flatMap (jo ns)))):=by
 have j:=dH (f.getD []);let⟨m,e,c⟩:=aun hn a b;have:bA (DV f m) (O,0)=J (aL ((f.getD []).flatMap (jo ns))):=by
  refine ep (f:=DV f m) (f.getD []).length (λi=>(aL (((f.getD []).take i).flatMap (jo ns)),(i:M))) (λi hi=>?_) ?_ (cb (bT (by omega)));have h2:=(E4 ns ((f.getD []).take i)).2;have h3:((f.getD []).take i).length≤(f.getD []).length:=by simp;omega
  rw[adx hi];unfold DV pc jo bq aF al ag aj aq ay au aY;dsimp-proj only[ah];simp only[];rw[lL hi,getD_at hi,eo (by omega),c];show ak (J (dU (f.getD [])[i])) _=_;rw[aw,bS];generalize (f.getD [])[i]=x at *;change ((((f.getD []).take i).flatMap (jo ns)).length≤_)at h2;generalize d:((f.getD []).take i).flatMap (jo ns)=out at *;have g:((f.getD []).take i).flatMap (λx=>if dU x=W then(match qD x.2.2 ns 0 with|some n=>[(x.1,x.2.1,n)]|none=>[])else[x])=out:=d
  grind [iq];unfold DV bq aF al ag aj aq ay au aY;dsimp-proj only[ah];simp_all
 grind [J1,aw,ac3,bS,E4]
def aup{f:Q (L aC)}(u:tot (f.getD [])≤536870912){ns:L M}(hn:ns.length≤1073741824){o t:Q (L M)}(m:o.getD []=ns)(n:t.getD []=cnt ns.length) (c:∀x∈f.getD [],dU x=W→x.2.2∈ns):Ji f o t=J (aL (nrm ((f.getD []).flatMap (jo ns)))):=by
 have v:=dH (f.getD []);have e:=Lt ns.length;have:bA (C7 f o t) (O,0)=J (aL ((f.getD []).flatMap (jo ns))):=by
  refine ep (f:=C7 f o t) (f.getD []).length (λi=>(aL (((f.getD []).take i).flatMap (jo ns)),(i:M))) (λi hi=>?_) ?_ (cb (bT (by omega)));have h2:=(E4 ns ((f.getD []).take i)).2;have h3:((f.getD []).take i).length≤(f.getD []).length:=by simp;omega
  have g:=c _ (fk hi);rw[adx hi];generalize w:((f.getD []).take i).flatMap (jo ns)=out at *;unfold C7 nU bq aM aF al ag aj aq ay au aY;simp only[];rw[lL hi,getD_at hi,eo (by omega)];show ak (J (dU (f.getD [])[i])) _=_;rw[aw,bS];by_cases hk:dU (f.getD [])[i]=W;let⟨k,q,h,r⟩:=adw (f.getD [])[i].2.2 ns 0 (g hk);rw[uP]at q;have b:k<ns.length:=(gi.1 h).1;have a:bA (C6 f o t (aL out,(i:M))) 0=J (out++[((f.getD [])[i].1,(f.getD [])[i].2.1,(k:M)+1)]):=by refine ep (f:=C6 f o t (aL out,(i:M))) k (λj=>(j:M)) (λj s=>?_) ?_ (cb (bT (by omega)));have d:j<ns.length:=(by omega);have l:=r j s;rw[du d]at l;have p:(ns[j]==(f.getD [])[i].2.2)=I:=(by grind);unfold C6 bY aF al ag aj aq ay au aY;rw[m,n,ax (by simp[e];omega),ax (by simp;omega),getD_at d];grind [wrap_i64];rw[du b]at h;have p:(ns[k]==(f.getD [])[i].2.2)=W:=(by simpa using h);unfold C6 bY aF al ag aj aq ay au aY;rw[m,n,ax (by simp[e];omega),ax (by simp;omega),getD_at b];simp only[];rw[getD_at hi,p,ax rfl,bS,ax (by simp[e];omega),eE,adv b]
  grind [aw,jo,iq];grind [jo,iq];unfold C7 bq aM aF al ag aj aq ay au aY;simp_all
 grind [Ji,aw,acj,bS,E4]
def auq{out:L M}{n:M}(h:n∈out)(x:aC):n∈m9 out x:=by grind [m9]
theorem ady:∀(f:L aC){out:L M}{n:M},n∈out→n∈f.foldl m9 out|[],_,_,h=>h|x::f,_,_,h=>ady f (auq h x)
def adz:∀(f:L aC)(out:L M),∀x∈f,dU x=W→x.2.2∈f.foldl m9 out
 |y::f,out,x,h,hk=>by
  rcases iA.1 h with rfl|h
  grind [ady,m9];exact adz f (m9 out y) x h hk
def S2(f:L aC):L aC:=nrm (f.flatMap (jo (nums f)))
def aur{o:Q (L aC)}(b:tot (o.getD [])≤536870912):J2 o=J (aL (S2 (o.getD []))):=by
 have c:=dH (o.getD []);have hn:=Ls (o.getD []) [];unfold J2 aj;rw[aui (by omega),aw,bS];show ak (DX (((nums (o.getD [])).length:U):M)) _=_;have a:(nums (o.getD [])).length≤1073741824:=by grind [nums]
 rw[aul a,aw,auo b a (bS _) rfl];rfl
def aus{o:Q (L aC)}(b:tot (o.getD [])≤536870912):Jj o=J (aL (S2 (o.getD []))):=by
 have d:=dH (o.getD []);have hn:=Ls (o.getD []) [];unfold Jj aj;rw[auk (by omega),aw,bS];show ak (Da (((nums (o.getD [])).length:U):M)) _=_;have a:(nums (o.getD [])).length≤1073741824:=by grind [nums]
 rw[aum a,aw,aup b a (bS _) (bS _) λx c hk=>adz _ [] x c hk];rfl
end Go.Fd
