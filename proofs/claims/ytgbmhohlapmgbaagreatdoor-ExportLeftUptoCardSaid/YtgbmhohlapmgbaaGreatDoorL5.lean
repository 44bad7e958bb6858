/- The statement ExportLeftUptoCardSaid of the given program is proved here: for every input whose bulk is at most the bound of its row, the law returns true and changes nothing. Part 5 of 7. -/
import Derived.Test.YtgbmhohlapmgbaaGreatDoorL4
set_option linter.unusedVariables false
set_option linter.unusedSimpArgs false
set_option linter.unusedSectionVars false
set_option linter.constructorNameAsVariable false
set_option linter.defProp false
open Bool renaming and_eq_true->cr,false->I,false_and->Ab,false_eq_true->bM,not_false->qQ,not_true->jI,or_eq_true->pP,true->W,true_and->uz
open Classical renaming byContradiction->ayE
open Go.IntKind renaming i64->a7,wrap->aaX
open Go.Lib renaming decDigits->Aa
open Go.Op renaming bytesLess->nK
open Int renaming eq_ofNat_of_zero_le->pU,le_refl->sr,ofNat->fQ,toNat_natCast->fB,toNat->G
open List renaming all_eq_true->gT,append_assoc->CJ,append_nil->ug,count_le_length->agW,drop_eq_getElem_cons->xn,flatMap_append->uy,flatMap_cons->kK,flatMap_nil->CD,getElem?_eq_getElem->eD,getElem?_eq_some_iff->ik,getElem_mem->eE,getElem_of_mem->qV,length_append->mo,length_drop->zP,length_eq_one_iff->ayG,length_filter_le->CM,length_map->jS,length_mergeSort->ayC,map_cons->fc,mem_append->mm,mem_cons->iG,mem_map->mq,mem_of_getElem?->fG,mem_singleton->js,nil_append->xg,nodup_cons->zX,pairwise_append->sf,pairwise_cons->xf,pairwise_iff_getElem->xc,pairwise_map->NB,perm_iff_count->ayD,range->jq,replicate->ej,singleton_append->agS,takeWhile_append_dropWhile->agV,takeWhile_cons->HM,take_append_drop->mZ,take_of_length_le->NE,take_succ_eq_append_getElem->iU,getD->H,length->Y
open List.Pairwise renaming nil->VB
open List.Perm renaming refl->ayF
open Nat renaming ble_eq->iJ,le_refl->eJ,lt_of_succ_lt->cM,zero_add->sj,zero_le->fZ
open Option renaming getD_some->fk,isSome_some->HD,map->ga,none->O,some->J,getD->X
open Sum renaming inl->mr
open _root_ renaming Bool->ay,Int->L,List->M,Nat->U,Option->Q,True->dL,UInt8->ao,absurd->cJ,bne_self_eq_false->sq,decide_eq_false->ip,decide_eq_true->iV,decide_eq_true_eq->eW,if_false->ca,if_neg->aU,if_pos->aF,if_true->bH
namespace Go.Fd
open Go Go.Vs Go.Ve Go.PL
structure lI(rs:List (Int×Int))(ts:List (Option (List aK)))(cs:List Nat)(raw:List UInt8)(f:List aK):Prop where
 n1:Y rs<=1024
 n2:Y ts=Y rs
 asc:zG rs f=true
 rw':Y raw<=65536
 tt:bf f<=2*Y raw
 len:Y cs=bL f+1
 up:cs.Pairwise (·<= ·)
 le:∀c∈cs,c<=Y raw
 tg:∀t∈ts,bf (X t [])<=67108864
section
variable{rs:List (Int×Int)}{ts:List (Option (List aK))}{cs:List Nat}{raw:List UInt8}{f:List aK}
def lI.ok(h:lI rs ts cs raw f){i:Nat}(hi:i<Y rs):gn rs i<=(rs[i]).1/\(rs[i]).1<=(rs[i]).2/\(rs[i]).2<=bL f:=by have:=h.asc;simp_all [zG,Cr]
def lI.la(h:lI rs ts cs raw f):∀i,i<=Y rs->∃k:Nat,gn rs i=(k:Int)/\k<=bL f|0,_=>⟨0,rfl,Nat.zero_le _⟩|i+1,a=>by let⟨k,h1,h2⟩:=lI.la h i (by omega);have:=h.ok (i:=i) (by omega);rw[M9,iS (show i<Y rs by omega)];exact⟨G (rs[i].2),by omega,by omega⟩
def lI.cut(h:lI rs ts cs raw f){a b:Nat}(c:a<=b)(e:b<=bL f):H cs a 0<=H cs b 0/\H cs b 0<=Y raw:=by
 have g:=h.len;rw[iS (show a<Y cs by omega),iS (show b<Y cs by omega)];refine⟨?_,h.le _ (List.getElem_mem _)⟩;rcases Nat.eq_or_lt_of_le c with rfl|d
 exact Nat.le_refl _;exact(List.pairwise_iff_getElem.1 h.up) a b (by omega) (by omega) d
def lI.at'(h:lI rs ts cs raw f):∀i,i<=Y rs->∃a k:Nat,nJ rs cs i=(a:Int)/\gn rs i=(k:Int)/\k<=bL f/\a<=H cs k 0/\a<=Y raw|0,_=>⟨0,0,rfl,rfl,Nat.zero_le _,Nat.zero_le _,Nat.zero_le _⟩|i+1,b=>by let⟨k,h1,h2⟩:=h.la (i+1) b;have e:=M9 rs i;rw[h1]at e;refine⟨H cs k 0,k,?_,h1,h2,Nat.le_refl _,(h.cut (Nat.le_refl k) h2).2⟩;show((H cs (G (H rs i (0,0)).2) 0:Nat):Int)=_;rw[<-e];rfl
theorem kY(f:List aK)(a b:Int):bf (X (eT f a b).1 [])<=bf f:=by grind [eT,bf,ch,Up]
def jG(fmt:Int)(ts:List (Option (List aK)))(i:Nat):Option Int:=if(mj fmt (oQ ts i)).2=0 then O else J (mj fmt (oQ ts i)).2
def Na{fmt:Int}{g:List aK}(h:(mj fmt g).2=0):gR g=0/\Y (mj fmt g).1<=39424:=by unfold mj at h ⊢;by_cases hv:gR g=0;rw[aF hv]at h ⊢;refine⟨hv,?_⟩;split;exact Nat.zero_le _;exact(wY hv).2 fmt;grind
def afm{fmt:Int}{i:Nat}(h:jG fmt ts i=O):(mj fmt (oQ ts i)).2=0:=by simp_all [jG]
theorem UH{l:List UInt8}{a b:Nat}(h:a<=b)(c:b<=Y l):Y (bq (a:Int) (b:Int) l)=b-a:=by rw[gP];simp;omega
def lI.bounds(h:lI rs ts cs raw f)(fmt:Int):∀i,i<=Y rs->(∀j,j<i->jG fmt ts j=O)->(∃a:Nat,nJ rs cs i=(a:Int)/\Y (sS rs ts cs raw fmt i)<=a+39424*i)/\bf (wS rs ts f i)<=(bf f+34304)*i
 |0,_,_=>⟨⟨0,rfl,Nat.le_refl _⟩,Nat.le_refl _⟩|i+1,n,g=>by
  have c:i<Y rs:=by omega
  let⟨⟨a,o,s⟩,t⟩:=lI.bounds h fmt i (by omega) λj u=>g j (by omega);let⟨hv,v⟩:=Na (afm (g i (by omega)));let⟨a',k,p,w,x,y,z⟩:=h.at' i (by omega);let⟨l,k2,m,q,A,B,C⟩:=h.at' (i+1) n;have D:=h.ok c;rw[o]at p;have:a=a':=by omega
  subst this;refine⟨⟨l,m,?_⟩,?_⟩;let⟨fr,r⟩:=Int.eq_ofNat_of_zero_le (show 0<=rs[i].1 by omega);let⟨to,d⟩:=Int.eq_ofNat_of_zero_le (show 0<=rs[i].2 by omega);have e:k2=to:=by rw[M9,iS c,d]at q;omega
  subst e;have ea:(l:Int)=((H cs k2 0:Nat):Int):=by rw[<-m];show((H cs (G (H rs i (0,0)).2) 0:Nat):Int)=_;grind
  have c1:=h.cut (a:=k) (b:=fr) (by omega) (by omega);have E:=h.cut (a:=fr) (b:=k2) (by omega) (by omega);grind [sS,UH];grind [bf,df,wS,pI,kY,wY]
end
def UI{cs:List Nat}{k:Nat}:H (cs.map Int.ofNat) k 0=((H cs k 0:Nat):Int):=by grind
def awm{rs:Option (List (Int×Int))}{ts:Option (List (Option (List aK)))}{cs:List Nat}{q:dc}{f:List aK}{d:Dc}{k:Nat}{c:Option (List Int)}{e:Int}(h:lI (rs.getD []) (ts.getD []) cs q.2.2 f)(A:fY d.1)(P:(d.2.getD [])[k]?=J q)(w:c.getD []=cs.map Int.ofNat):bR (F6 d (k:Int) rs ts (c,e)) ([],0,0)=J (match fX (jG d.1 (ts.getD [])) 0 (rs.getD []).length with|some r=>.inl (r,0,O)|none=>.inr (sS (rs.getD []) (ts.getD []) cs q.2.2 d.1 (rs.getD []).length,nJ (rs.getD []) cs (rs.getD []).length)):=by
 have B:=h.n1;have x:=h.rw';have n:(d.2.getD []).getD ((k:Int)).toNat (I,[],[])=q:=by grind
 have:=zE (F:=F6 d (k:Int) rs ts (c,e)) (rs.getD []).length (λi=>(sS (rs.getD []) (ts.getD []) cs q.2.2 d.1 i,nJ (rs.getD []) cs i,(i:Int))) (λi=>(jG d.1 (ts.getD []) i).map λr=>(r,(0:Int),(O:Option (List dc)))) (sS (rs.getD []) (ts.getD []) cs q.2.2 d.1 (rs.getD []).length,nJ (rs.getD []) cs (rs.getD []).length) (λi g C=>by
  have o:∀j,j<i->jG d.1 (ts.getD []) j=O:=λj D=>by simpa using C j D
  have hit:i<(ts.getD []).length:=by rw[h.n2];exact g
  let⟨⟨a,y,R⟩,_⟩:=h.bounds d.1 i (by omega) o
  let⟨a',E,G,S,T,V,X⟩:=h.at' i (by omega)
  have Y:=h.ok g
  rw[y]at G
  obtain rfl:a=a':=by omega
  have H:=di (i:=i) (by omega)
  have p:(ts.getD [])[i].getD []=oQ (ts.getD []) i:=by unfold oQ;rw[iS hit]
  have z:=avZ A (h.tg _ (List.getElem_mem hit))
  rw[p]at z
  unfold F6 bS cG aN au ag al ax aH aA c8;dsimp-proj only[aj]
  simp only[]
  rw[dX g,aF (dq g),aF (dq hit)]
  simp only[cS g,cS hit,n,H,z,aB]
  by_cases s:(mj d.1 (oQ (ts.getD []) i)).2=0
  have t:jG d.1 (ts.getD []) i=O:=by unfold jG;rw[aF s]
  let⟨_,K⟩:=Na s
  rw[t,aU (by simp[s])]
  let⟨fr,u⟩:=Int.eq_ofNat_of_zero_le (show 0<=(rs.getD [])[i].1 by omega)
  let⟨to,v⟩:=Int.eq_ofNat_of_zero_le (show 0<=(rs.getD [])[i].2 by omega)
  have c1:=h.cut (a:=E) (b:=fr) (by omega) (by omega)
  have Z:=h.cut (a:=fr) (b:=to) (by omega) (by omega)
  have N:(c.getD []).length=bL f+1:=by rw[w,List.length_map,h.len]
  have m:=UH (l:=q.2.2) (a:=a) (b:=cs.getD fr 0) (by omega) (by omega)
  rw[u,v,y]
  simp only[Int.toNat_natCast,w,UI]
  rw[aF (by
   simp only[cr,eW,ef,List.length_append,m,List.length_map,h.len]
   omega)]
  simp_all [sS,nJ]
  grind [jG]) (λ_=>by
  unfold F6 bS cG aN au ag al ax aH aA c8;dsimp-proj only[aj]
  simp_all) (Nat.lt_of_succ_lt (cC (by omega)))
 rw[show(([],0,0):List UInt8×Int×Int)=(sS (rs.getD []) (ts.getD []) cs q.2.2 d.1 0,nJ (rs.getD []) cs 0,((0:Nat):Int))from rfl,this];have hs:∀k i,fX (λi=>(jG d.1 (ts.getD []) i).map λr=>(r,(0:Int),(O:Option (List dc)))) i k=(fX (jG d.1 (ts.getD [])) i k).map λr=>(r,(0:Int),(O:Option (List dc))):=by
  intro k;induction k with
  |zero=>intro i;rfl
  |succ k ih=>grind [fX]
 grind
def Hf{ρ a:Type}(b:U->Q ρ)(g:ρ->a):∀k i,fX (λi=>(b i).map g) i k=(fX b i k).map g
 |0,i=>rfl|k+1,i=>by
  unfold fX;cases b i with|some r=>rfl|none=>exact Hf b g k (i+1)
def awn{rs:Q (M (L×L))}{ts:Q (M (Q (M aK)))}{cs:M U}{q:dc}{g:Q (M aK)}{d:Dc}{k:U}{B:Q (M aK)}{c:Q (M L)}{e m C:L}(h:lI (rs.getD []) (ts.getD []) cs q.2.2 (g.getD []))(K:fY d.1)(hq:(d.2.getD [])[k]?=J q)(D:c.getD []=cs.map fQ):
  bR (Fi d (k:L) rs ts (g,e) (B,c,m,C)) (0,[],0,O,0)=J (match fX (jG d.1 (ts.getD [])) 0 (rs.getD []).length with|some r=>.inl (r,0,O)|none=>.inr (gn (rs.getD []) (rs.getD []).length,sS (rs.getD []) (ts.getD []) cs q.2.2 d.1 (rs.getD []).length,nJ (rs.getD []) cs (rs.getD []).length,aY (wS (rs.getD []) (ts.getD []) (g.getD []) (rs.getD []).length))):=by
 have N:=h.n1
 have E:=h.rw'
 have P:=h.tt
 have s:(d.2.getD []).getD ((k:L)).toNat (I,[],[])=q:=by grind
 have:=zE (F:=Fi d (k:L) rs ts (g,e) (B,c,m,C)) (rs.getD []).length (λi=>(gn (rs.getD []) i,sS (rs.getD []) (ts.getD []) cs q.2.2 d.1 i,nJ (rs.getD []) cs i,aY (wS (rs.getD []) (ts.getD []) (g.getD []) i),(i:L))) (λi=>(jG d.1 (ts.getD []) i).map λr=>(r,(0:L),(O:Q (M dc))))
  (gn (rs.getD []) (rs.getD []).length,sS (rs.getD []) (ts.getD []) cs q.2.2 d.1 (rs.getD []).length,nJ (rs.getD []) cs (rs.getD []).length,aY (wS (rs.getD []) (ts.getD []) (g.getD []) (rs.getD []).length)) (λi n R=>by
  have t:∀j,j<i->jG d.1 (ts.getD []) j=O:=λj S=>by simpa using R j S
  have hit:i<(ts.getD []).length:=by rw[h.n2];exact n
  obtain⟨⟨a,m,b1⟩,b2⟩:=h.bounds d.1 i (by omega) t
  obtain⟨a',T,V,g2,g3,g4,g5⟩:=h.at' i (by omega)
  have ho:=h.ok n
  rw[m]at V
  obtain rfl:a=a':=by omega
  have X:=di (i:=i) (by omega)
  have f:(ts.getD [])[i].getD []=oQ (ts.getD []) i:=by unfold oQ;rw[iS hit]
  have u:=h.tg _ (eE hit)
  have G:=ae0 K u
  rw[f]at G
  unfold Fi bS cG aN au ag al ax aH aA c8;dsimp-proj only[aj]
  simp only[]
  rw[dX n,aF (dq n),aF (dq hit)]
  simp only[cS n,cS hit,s,X,G,aB]
  by_cases v:(mj d.1 (oQ (ts.getD []) i)).2=0
  ·have w:jG d.1 (ts.getD []) i=O:=by unfold jG;rw[aF v]
   obtain⟨hv,Y⟩:=Na v
   rw[w,aU (by simp[v])]
   obtain⟨fr,x⟩:=pU (show 0<=(rs.getD [])[i].1 by omega)
   obtain⟨to,y⟩:=pU (show 0<=(rs.getD [])[i].2 by omega)
   have c1:=h.cut (a:=T) (b:=fr) (by omega) (by omega)
   have c2:=h.cut (a:=fr) (b:=to) (by omega) (by omega)
   have Z:(c.getD []).length=bL (g.getD [])+1:=by rw[D,jS,h.len]
   have o:=UH (l:=q.2.2) (a:=a) (b:=cs.getD fr 0) (by omega) (by omega)
   have hsl:=kY (g.getD []) (gn (rs.getD []) i) (fr:L)
   have H:(bf (g.getD [])+34304)*i<=(131072+34304)*1024:=Nat.mul_le_mul (by omega) (by omega)
   have z:bf ((aY (wS (rs.getD []) (ts.getD []) (g.getD []) i)).getD [])+bf ((eT (g.getD []) (gn (rs.getD []) i) (fr:L)).1.getD [])<=536870912:=by rw[ch];omega
   have p:=pI (wS (rs.getD []) (ts.getD []) (g.getD []) i++(eT (g.getD []) (gn (rs.getD []) i) (fr:L)).1.getD []) []
   have t0:bf ([]:M aK)=0:=rfl
   have hvs:=(wY hv).1
   rw[iE]at p
   have A:bf ((aY (df (wS (rs.getD []) (ts.getD []) (g.getD []) i++(eT (g.getD []) (gn (rs.getD []) i) (fr:L)).1.getD []))).getD [])+bf ((ts.getD [])[i].getD [])<=536870912:=by
    rw[ch,f];unfold df;omega
   rw[x,y,m]
   simp only[fB,D,UI]
   rw[aF (by
    simp only[cr,eW,ef,mo,o,jS,h.len]
    omega),aF (by
    grind [ef]),jF (by omega),aB,lG z,aB,aF (dq hit),ch,lG A,aB,ch,f]
   grind [sS,nJ,wS,M9,fB]
  grind [jG]) (λ_=>by
  unfold Fi bS cG aN au ag al ax aH aA c8;dsimp-proj only[aj]
  simp_all) (cM (cC (by omega)))
 rw[show((0,[],0,O,0):L×M ao×L×Q (M aK)×L)=(gn (rs.getD []) 0,sS (rs.getD []) (ts.getD []) cs q.2.2 d.1 0,nJ (rs.getD []) cs 0,aY (wS (rs.getD []) (ts.getD []) (g.getD []) 0),((0:U):L))from rfl,this,Hf]
 cases fX (jG d.1 (ts.getD [])) 0 (rs.getD []).length<;>rfl
def awo{rs:Q (M (L×L))}{ts:Q (M (Q (M aK)))}{cs:M U}{raw:M ao}{g:Q (M aK)}{fmt:L}(h:lI (X rs []) (X ts []) cs raw (X g []))(d:∀j,j<Y (X rs [])->jG fmt (X ts []) j=O):LG g rs ts=J (aY (df (wS (X rs []) (X ts []) (X g []) (Y (X rs []))++X (eT (X g []) (gn (X rs []) (Y (X rs []))) (bL (X g []):L)).1 []))):=by
 have m:=h.n1;have l:=h.rw';have n:=h.tt;have a:∀i,i<=Y (X rs [])->(bf (X g [])+34304)*i<=(131072+34304)*1024:=λi b=>Nat.mul_le_mul (by omega) (by omega);unfold LG aW;have:bR (F0 g rs ts) (O,0,0)=J (aY (wS (X rs []) (X ts []) (X g []) (Y (X rs []))),gn (X rs []) (Y (X rs []))):=by
  refine eZ (f:=F0 g rs ts) (Y (X rs [])) (λi=>(aY (wS (X rs []) (X ts []) (X g []) i),gn (X rs []) i,(i:L))) (λi b=>?_) ?_ (cM (cC (by omega)));have e:∀j,j<i->jG fmt (X ts []) j=O:=λj v=>d j (by omega);have hit:i<Y (X ts []):=by rw[h.n2];exact b
  let⟨_,o⟩:=h.bounds fmt i (by omega) e;let⟨hv,_⟩:=Na (afm (d i b));have p:=di (i:=i) (by omega);have k:X (X ts [])[i] []=oQ (X ts []) i:=by unfold oQ;rw[iS hit]
  have q:=a i (by omega);have r:=kY (X g []) (gn (X rs []) i) (X rs [])[i].1;have s:bf (X (aY (wS (X rs []) (X ts []) (X g []) i)) [])+bf (X (eT (X g []) (gn (X rs []) i) (X rs [])[i].1).1 [])<=268435456:=by rw[ch];omega
  have c:=pI (wS (X rs []) (X ts []) (X g []) i++X (eT (X g []) (gn (X rs []) i) (X rs [])[i].1).1 []) [];have t0:bf ([]:M aK)=0:=rfl;have t:=(wY hv).1;rw[iE]at c;have u:bf (X (aY (df (wS (X rs []) (X ts []) (X g []) i++X (eT (X g []) (gn (X rs []) i) (X rs [])[i].1).1 []))) [])+bf (X (X ts [])[i] [])<=268435456:=by rw[ch,k];unfold df;omega
  unfold F0 bS cG aN al ax aH aA;simp only[];rw[dX b,aF (dq b)];simp only[cS b,cS hit,p];grind [MV,aB,aeR,dq,ch,wS,gn];unfold F0 bS cG aN al ax aH aA;simp_all
 have q:=a _ (eJ _);let⟨_,o⟩:=h.bounds fmt _ (eJ _) d;grind [kY,aB,G2,MV,aeR,ch]
theorem Hg{ρ:Type}{e:U->Q ρ}{k:U}(h:fX e 0 k=O):∀j,j<k->e j=O:=λj a=>(wK k 0).1 h j (fZ _) (by omega)
def awp{P:M dc}{k:U}{q q':dc}(h:P[k]?=J q):Y (ep (P.set k q'))+Y q.2.2=Y (ep P)+Y q'.2.2:=by grind [xn,mZ,List.set_eq_take_append_cons_drop,ep]
def afn(fmt:L)(raw:M ao)(x:L):L:=H (X (X (ja fmt raw) (O,O,0,0)).2.1 []) (G x) 0
def afo{d:Dc}(h1:(d.2.getD []).length<=1048576)(h2:(ep (d.2.getD [])).length<=1073741824)(part:L){rs:Q (M (L×L))}{ts:Q (M (Q (M aK)))}(Z:(rs.getD []).length<=1024)(hnt:(ts.getD []).length<=1073741824)(ht:∀t∈ts.getD [],bf (t.getD [])<=67108864):∃o e,BU d part rs ts=J (o,e)/\oF d part rs ts=J (o,e)/\(e=0->o.1=d.1/\(o.2.getD []).length=(d.2.getD []).length/\(ep (o.2.getD [])).length<=65536/\∃(k:U)(q:dc)(S:M ao),part=(k:L)/\(d.2.getD [])[k]?=J q/\o.2.getD []=(d.2.getD []).set k (q.1,q.2.1,S)/\∃cs f,lI (rs.getD []) (ts.getD []) cs q.2.2 f/\(afn d.1 q.2.2=λx=>((cs.getD x.toNat 0:U):L))/\S=sS (rs.getD []) (ts.getD []) cs q.2.2 d.1 (rs.getD []).length++q.2.2.drop (nJ (rs.getD []) cs (rs.getD []).length).toNat):=by
 let⟨e0,v1,v2,v3⟩:=aeW (d:=d) (by omega) h2;unfold BU oF aW cG aN au aJ ag al bg c8;dsimp-proj only[aj];rw[v1,v2];simp only[aB];by_cases j:e0=0;rotate_left;have s:(e0 !=0)=W:=by simpa using j
 simp only[s,bH];grind;let⟨B,hpl,hjl⟩:=v3 j;subst j;simp only[show((0:L) !=0)=I from rfl,bM,ca];let⟨g,e,c1,c2,c3⟩:=Ha (d:=d) (λq c=>by have:=M3 c;omega) part;rw[c1,c2];simp only[aB];by_cases C:e=0;rotate_left;have s:(e !=0)=W:=by simpa using C
 simp only[s,bH];grind;have D:=C;subst D;simp only[show((0:L) !=0)=I from rfl,bM,ca];obtain⟨_,k,rfl,q,c,hu,u,at',g1,g2,g3⟩:=c3 C;have hk:k<(d.2.getD []).length:=(ik.1 c).1;have E:q∈d.2.getD []:=fG c;have hraw:=M3 E;let⟨g4,cs,A,g6,g7,g8⟩:=g3 rfl;simp only[]at g4 A g6;have F:(d.2.getD []).getD ((k:L)).toNat (I,[],[])=q:=by grind
 have G:(d.2.getD []).getD k (I,[],[])=q:=by grind
 have v:decide ((0:L)<=(k:L)/\(k:L)<ah (d.2.getD []))=W:=by simp;omega
 simp only[F,v,bH,g1,g2,aB];by_cases m:(ts.getD []).length=(rs.getD []).length;rotate_left;have H:(ah (rs.getD []) !=ah (ts.getD []))=W:=by rw[bne_iff_ne];simp;omega
 have K:(ah (ts.getD []) !=ah (rs.getD []))=W:=by grind
 simp only[H,K,bH];grind;have H:(ah (rs.getD []) !=ah (ts.getD []))=I:=by simp[m]
 have K:(ah (ts.getD []) !=ah (rs.getD []))=I:=by simp[m]
 simp only[H,K,bM,ca];rw[awk (by omega) (by omega),G2 (by omega)];simp only[aB];rw[awj (by omega)];simp only[aB];simp only[show((0:L) !=0)=I from rfl,bM,ca];cases w:zG (rs.getD []) (g.getD [])with
 |false=>exact⟨((0,O):Dc),(1:L),rfl,rfl,λh=>by cases h⟩
 |true=>
  have p:lI (rs.getD []) (ts.getD []) cs q.2.2 (g.getD []):=⟨Z,m,w,by omega,g4,g6,g7,g8,ht⟩;rw[aF rfl,awn p B c A];simp only[jI,bM,ca,pr,aB];rw[awm p B c A];simp only[aB];cases hs:fX (jG d.1 (ts.getD [])) 0 (rs.getD []).length with
  |some r=>have hr:r≠0:=(by grind [tN,jG]);exact⟨((0,O):Dc),r,rfl,rfl,λh=>cJ h hr⟩|none=>
   have hb:=Hg hs;let⟨⟨a,N,b2⟩,b3⟩:=p.bounds d.1 _ (eJ _) hb;let⟨a',k',b4,b5,b6,b7,b8⟩:=p.at' _ (eJ _);rw[N]at b4;obtain rfl:a=a':=(by omega);simp only[pr];rw[N,show bq (a:L) (ah q.2.2) q.2.2=q.2.2.drop a from iQ q.2.2 a];have hdl:(q.2.2.drop a).length=q.2.2.length-a:=(by simp);have hc:(decide ((0:L)<=(a:L)/\(a:L)<=ah q.2.2/\ah q.2.2<=ah q.2.2)&&decide ((sS (rs.getD []) (ts.getD []) cs q.2.2 d.1 (rs.getD []).length).length+(q.2.2.drop a).length<=1152921504606846976))=W:=(by simp only[cr,eW,ef];omega);rw[aF hc,aF hc,mg (by omega),aB];generalize hS:sS (rs.getD []) (ts.getD []) cs q.2.2 d.1 (rs.getD []).length++q.2.2.drop a=S;have hSl:S.length<=40501248:=(by grind);have hm:(bf (g.getD [])+34304)*(rs.getD []).length<=(131072+34304)*1024:=Nat.mul_le_mul (by omega) Z;have hsl:=kY (g.getD []) (gn (rs.getD []) (rs.getD []).length) (bL (g.getD []):L);let⟨f2,cut2,at2,P,q1,q2,_,q4⟩:=aeU B (raw:=S) (by omega);rw[jF (by omega),aB];rw[lG (by rw[ch];omega),aB,ch,q1,q2,awo p hb];simp only[aB];by_cases n:P=0;rotate_left;have s:(P !=0)=W:=(by simpa using n);simp only[s,bH];grind;have zz:(P !=0)=I:=(by simp[n]);simp only[zz,bM,ca];have R:=pI (wS (rs.getD []) (ts.getD []) (g.getD []) (rs.getD []).length++(eT (g.getD []) (gn (rs.getD []) (rs.getD []).length) (bL (g.getD []):L)).1.getD []) [];have t0:bf ([]:M aK)=0:=rfl;rw[iE]at R;have azO:bf (df (wS (rs.getD []) (ts.getD []) (g.getD []) (rs.getD []).length++(eT (g.getD []) (gn (rs.getD []) (rs.getD []).length) (bL (g.getD []):L)).1.getD []))<=536870912:=(by unfold df;omega);have y:(f2.getD []).length<=1073741824:=(by have:bf (f2.getD [])<=2*S.length:=(q4 n).1;grind [eP]);rw[awf (by simp_all),awe (by simp_all),aB,aB,ae5 y,av1 y,aB,aB];simp only[ch];by_cases b:f2.getD []=UG (df (wS (rs.getD []) (ts.getD []) (g.getD []) (rs.getD []).length++(eT (g.getD []) (gn (rs.getD []) (rs.getD []).length) (bL (g.getD []):L)).1.getD []));rotate_left;simp only[ip b,qQ,bH];grind;simp only[iV b,jI,bM,ca];have hP:d.2=J (d.2.getD []):=by
    cases hd:d.2 with|none=>grind|some l=>rfl
   have T:LM d.2=J (J (d.2.getD [])):=(by grind [LM]);have z:(dW (d.2.getD [])).getD []=d.2.getD []:=(by cases d.2.getD []<;>rfl);have hset:(ep ((d.2.getD []).set k (q.1,q.2.1,S))).length+q.2.2.length=(ep (d.2.getD [])).length+S.length:=awp (q':=(q.1,q.2.1,S)) c;rw[T,aB,Ck (by omega) h2,aB];simp only[fk,sj,fB,G,z,HD];have V:bX k (d.2.getD []).length=W:=(by unfold bX;rw[iJ];exact hk);rw[aF (show((W:ay)==W)=W from rfl)];simp only[v,V,Bool.and_self,bH];rw[Cl (d:=(d.1,J ((d.2.getD []).set k (q.1,q.2.1,S)))) (by simp;omega) (by grind),aB];simp only[fk,ef];have X:a7.wrap (((ep (d.2.getD [])).length:L)-(q.2.2.length:L))=((ep (d.2.getD [])).length:L)-(q.2.2.length:L):=eY (by omega);have Y:a7.wrap (((ep (d.2.getD [])).length:L)-(q.2.2.length:L)+(S.length:L))=((ep ((d.2.getD []).set k (q.1,q.2.1,S))).length:L):=(by grind [bV]);rw[X,Y];by_cases i:((ep ((d.2.getD []).set k (q.1,q.2.1,S))).length:L)>65536;simp only[iV i,bH];grind;simp only[ip i,bM,ca];rw[aF (by rw[cr,eW];exact⟨by omega,by simp⟩)];refine⟨_,_,rfl,rfl,λ_=>⟨rfl,by simp,by simp;omega,k,q,S,rfl,c,rfl,cs,_,p,funext λx=>?_,by rw[<-hS,N,fB]⟩⟩;unfold afn;rw[g1];show(u.getD []).getD _ _=_;rw[A,UI]
abbrev wZ:=Rc×L×ay
abbrev sc:=ay×Q (M wZ)×Q (M wZ)
def awq(a:wZ)(b:ao):∃v,yP a (fQ b.toNat)=J v:=by unfold yP;have h1:=at7 b;have h2:=at8 b;have h1:(0:L)<=fQ b.toNat:=h1;have h2:fQ b.toNat<256:=h2;simp_all
def zH{α:Type}{l:M α}{k:U}(h:k<Y l):bX (0+G ((k:L))) (Y l)=W:=by grind [bX,iJ]
def UJ{α:Type}{l:M α}{k:U}(h:k<Y l):bX (G ((k:L))) (Y l)=W:=by grind [bX,iJ]
def awr{p:Q (M wZ)}{s:M ao}{a:Q (M ay)}{j:U}(D:s.length<=1048576)(E:(a.getD []).length=s.length+1)(g:j<(p.getD []).length){x:M ay}(hx:x.length=s.length+1):∃r,bR (EH p s (a,(j:L))) (x,0)=J r/\r.length=s.length+1:=by
 refine gl (f:=EH p s (a,(j:L))) (λy=>∃k:U,y.2=(k:L)/\k<=s.length/\y.1.length=s.length+1) (λy=>s.length-y.2.toNat) (λr=>r.length=s.length+1) (λy h=>?_) (x,0) ⟨0,rfl,fZ _,hx⟩ (cM (cC (by simp;omega)));let⟨y,i⟩:=y;obtain⟨k,rfl,hk,hy⟩:=h;have hy:y.length=s.length+1:=hy;by_cases d:k<s.length;have m:=di (i:=k) (by omega);have n1:∃k':U,((k+1:U):L)=(k':L)/\k'<=s.length:=⟨k+1,rfl,d⟩;have c:∀e:M ay,e.length=s.length+1->(∃k':U,((k+1:U):L)=(k':L)/\k'<=s.length/\e.length=s.length+1)/\s.length-(((k+1:U):L)).toNat<s.length-((k:L)).toNat:=λe h=>⟨⟨k+1,rfl,d,h⟩,by omega⟩;let⟨v,hv⟩:=awq ((p.getD []).getD ((j:L)).toNat ((0,0,0,0,0,0,0,0,0,0,0,0,0,0,0,0,0,0,0,0,0,0,0,0,0,0,0,0,0,0,0,0),0,I)) (s.getD ((k:L)).toNat 0);have n:decide ((0:L)<=(k:L)/\(k:L)<ah (a.getD []))=W:=dq (by omega);have o:decide ((0:L)<=(j:L)/\(j:L)<ah (p.getD []))=W:=dq g;have q:decide ((0:L)<=(k:L)/\(k:L)<ah y)=W:=dq (by omega);have t:decide ((0:L)<=((k+1:U):L)/\((k+1:U):L)<ah y)=W:=dq (by omega);have u:decide ((0:L)<=(k:L))=W:=by simp
 have w:=zH (l:=a.getD []) (k:=k) (by omega);have A:=UJ (l:=s) (k:=k) d;have B:=zH (l:=y) (k:=k) (by omega);have C:=zH (l:=y) (k:=k+1) (by omega);unfold EH iC cG aN au aJ ag cy al ax aH aA fA;dsimp-proj only[aj];simp only[];rw[dX d];simp only[n,o,q,t,u,w,A,B,C,m,hv,bH,aB,Bool.and_self,Bool.or_true];cases(a.getD []).getD (0+((k:L)).toNat) I with|true=>exact c _ (by cases v<;>simp[hy])|false=>simp only[bM,ca];split;rename_i z b;split at b;split at b;cases b;exact c _ (by cases v<;>simp[hy]);grind;grind;rename_i z b;split at b;split at b<;>cases b;cases b;rename_i b;split at b;split at b<;>cases b;cases b
 obtain rfl:k=s.length:=by omega
 simp_all [EH,aj,iC,cG,aN,au,aJ,ag,cy,al,ax,aH,aA,fA]
def aws{p:Q (M wZ)}{n:U}{a:Q (M ay)}{j:U}(s:n<=2097152)(t:(a.getD []).length=n)(c:j<(p.getD []).length){x:M ay}(hx:x.length=n):∃r,bR (EI p (a,(j:L)) x) (x,0)=J r/\r.length=n:=by
 refine gl (f:=EI p (a,(j:L)) x) (λy=>∃k:U,y.2=(k:L)/\k<=n/\y.1.length=n) (λy=>n-y.2.toNat) (λr=>r.length=n) (λy h=>?_) (x,0) ⟨0,rfl,fZ _,hx⟩ (cM (cC (by simp;omega)));let⟨y,i⟩:=y;obtain⟨k,rfl,hk,hy⟩:=h;have hy:y.length=n:=hy;by_cases b:k<x.length;have d:=di (i:=k) (by omega);have e:decide ((0:L)<=(k:L)/\(k:L)<ah (a.getD []))=W:=dq (by omega);have g:decide ((0:L)<=(j:L)/\(j:L)<ah (p.getD []))=W:=dq c;have m:decide ((0:L)<=(k:L)/\(k:L)<ah y)=W:=dq (by omega);have o:=zH (l:=a.getD []) (k:=k) (by omega);have q:=zH (l:=y) (k:=k) (by omega);unfold EI aN au aJ ag al ax aH aA;dsimp-proj only[aj];simp only[];rw[dX b];simp only[e,g,m,o,q,d,Bool.and_self,uz,ite_self,bH];refine⟨⟨k+1,rfl,by omega,?_⟩,by simp;omega⟩;grind;obtain rfl:k=x.length:=by omega
 simp_all [EI,aj,aN,au,aJ,ag,al,ax,aH,aA]
def afp{p:Q (M wZ)}{s:M ao}{a:Q (M ay)}(m:Y (X p [])<=1048576)(c:Y s<=1048576)(d:Y (X a [])=Y s+1):∃r,EJ p s a=J r/\Y (X r [])=Y s+1:=by
 unfold EJ aW au al;have e:X (dW (X a [])) []=X a []:=by cases X a []<;>rfl
 let⟨r,h1,h2⟩:=gl (f:=Ky p s) (λy=>∃k:U,y.2=(k:L)/\k<=Y (X p [])/\Y (X y.1 [])=Y s+1) (λy=>Y (X p [])-G y.2) (λr=>Y (X r [])=Y s+1) (λy h=>by
  let⟨y,i⟩:=y
  obtain⟨k,rfl,hk,hy⟩:=h
  have hy:Y (X y [])=Y s+1:=hy
  by_cases b:k<Y (X p [])
  have o:=di (i:=k) (by omega)
  have g:aaX a7 (ah s+1)=((Y s+1:U):L):=by grind [ef,bV]
  let⟨q,t,l⟩:=awr (p:=p) (j:=k) c hy b (x:=ej (Y s+1) I) (by simp)
  let⟨u,v,w⟩:=aws (p:=p) (n:=Y s+1) (j:=k) (by omega) hy b l
  unfold Ky aW cw aJ al ax aH aA
  grind [fB,aB]
  obtain rfl:k=Y (X p []):=by omega
  simp_all [Ky,aW,cw,aJ,al,ax,aH,aA]) (dW (X a []),0) ⟨0,rfl,fZ _,by rw[e];exact d⟩ (cM (cC (by simp;omega)))
 grind [aB]
def UK{s:M ao}(a:Y s<=1048576):aaX a7 (ah s+1)=((Y s+1:U):L):=by grind [ef,bV]
def awt{p:Q (M wZ)}{s:M ao}(d:Y (X p [])<=1048576)(c:Y s<=1048576):∃b,KB p s=J b:=by
 unfold KB aW cG aN cw al ax;let⟨r,h1,h2⟩:=gl (f:=Rf s) (λy=>∃k:U,y.2=(k:L)/\k<=Y s+1/\Y y.1=Y s+1) (λy=>Y s+1-G y.2) (λr=>Y r=Y s+1) (λy h=>by
  let⟨y,i⟩:=y
  obtain⟨k,rfl,hk,hy⟩:=h
  have hy:Y y=Y s+1:=hy
  have e:Y (ej (Y s+1) I)=Y s+1:=by simp
  unfold Rf au aJ ax aH aA
  simp only[UK c,fB]
  by_cases g:k<Y s+1
  have m:=di (i:=k) (by omega)
  have j:=zH (l:=y) (k:=k) (by omega)
  simp only[fB]at j
  grind [dq]
  grind [ah]) (ej (Y s+1) I,0) ⟨0,rfl,fZ _,by simp⟩ (cM (cC (by simp;omega)))
 rw[UK c,aF (by simp;omega),fB,h1,aB];let⟨n,h3,o⟩:=afp d c (a:=J r) h2;simp_all
def awu{p:Q (M wZ)}{s:M ao}(d:Y (X p [])<=1048576)(c:Y s<=1048576):∃b,KA p s=J b:=by
 unfold KA Re Rd aW cw au ax;dsimp-proj only[aj];have g:Y (ej (Y s+1) I)=Y s+1:=by simp
 rw[UK c,aF (by simp;omega),fB,aF (by simp[bX])];simp only[aB];let⟨r,h1,h2⟩:=afp d c (a:=J ((ej (Y s+1) I).set 0 W)) (by simp);rw[h1,aB];let⟨z,h3,_⟩:=gl (f:=Kz r) (λy=>∃k:U,y.2=(k:L)/\k<=Y s+1) (λy=>Y s+1-G y.2) (λr=>dL) (λy h=>by
  let⟨y,i⟩:=y
  obtain⟨k,rfl,hk⟩:=h
  by_cases e:k<Y (X r [])
  grind [bV,Kz]
  obtain rfl:k=Y (X r []):=by omega
  unfold Kz bS aN ag al ax aH aA
  simp_all) (-1,0) ⟨0,rfl,fZ _⟩ (cM (cC (by simp;omega)))
 simp_all
def w6(a:Q (M sc)):Prop:=Y (X a [])<=1048576/\∀r∈X a [],Y (X r.2.1 [])<=1048576/\Y (X r.2.2 [])<=1048576
def awv{a:Q (M sc)}(d:w6 a){text:M ao}(q:Y text<=1048576)(at':L):∃b,KD a text at'=J b:=by
 unfold KD aW ag;by_cases t:at'<=0\/at'>=(Y text:L);simp_all;rw[aU (by simp;omega)];obtain⟨n,rfl⟩:=pU (show 0<=at' by omega);let⟨z,h3,_⟩:=gl (f:=KC a text (n:L)) (λy=>∃k:U,y=(k:L)/\k<=Y (X a [])) (λy=>Y (X a [])-G y) (λr=>dL) (λy h=>by
  obtain⟨k,rfl,hk⟩:=h
  by_cases c:k<Y (X a [])
  have g:=d.1
  have j:=di (i:=k) (by omega)
  have e:=d.2 _ (eE c)
  let⟨u,l⟩:=awt (p:=((X a [])[k]).2.1) (s:=bq 0 (n:L) text) e.1 (by have:=gP text 0 n;grind)
  let⟨v,m⟩:=awu (p:=((X a [])[k]).2.2) (s:=bq (n:L) (ah text) text) e.2 (by rw[iQ];simp;omega)
  have c1:decide ((0:L)<=0/\(0:L)<=(n:L)/\(n:L)<=ah text)=W:=by simp;omega
  have o:decide ((0:L)<=(n:L)/\(n:L)<=ah text/\ah text<=ah text)=W:=by simp;omega
  unfold KC bS cG aN cw ag al ax aH aA
  rw[dX c]
  simp only[dq c,c1,o,bH,cS c,l,m,aB,j]
  grind
  obtain rfl:k=Y (X a []):=by omega
  unfold KC bS cG aN cw ag al ax aH aA
  rw[gm]
  trivial) 0 ⟨0,rfl,fZ _⟩ (cM (cC (by have:=d.1;simp;omega)))
 rw[h3,aB];cases z<;>exact⟨_,rfl⟩
def aww{a:Q (M sc)}(d:w6 a)(text:M ao):∃r,Bz a text=J r/\Y (X r [])<=1024:=by unfold Bz aW au aJ;by_cases e:Y text>1024;rw[aF (by grind [ef])];grind;rw[aU (by grind [ef])];let⟨r,h1,h2⟩:=gl (f:=Bx a text) (λy=>∃k:U,y.2=(k:L)/\k<=Y text+1/\Y (X y.1 [])<=k/\(k<=Y text\/Y (X y.1 [])<=1)) (λy=>Y text+1-G y.2) (λr=>Y (X r [])<=1024) (λy h=>by let⟨y,i⟩:=y;obtain⟨k,rfl,hk,hy,c⟩:=h;simp only[]at hy c;by_cases g:k<Y text;have j:=di (i:=k) (by omega);let⟨b,e⟩:=awv d (text:=text) (by omega) (k:L);grind [Bx,aB];unfold Bx au aJ ag al ax aH aA bu;simp only[];rw[aU (by simp;omega)];simp only[];omega) (O,1) ⟨1,rfl,by omega,by simp,.inr (by simp)⟩ (cM (cC (by simp;omega)));simp_all
def oR(x:aK):M ao:=if x.1=1 then x.2.1 else if x.1=5 then[255]else[]
def ko(f:M aK):M ao:=f.flatMap oR
def Hh:∀f:M aK,Y (ko f)<=bf f|[]=>by simp[ko]|x::f=>by have:=Hh f;grind [bf,ko,oR]
theorem zI{o:Q (M aK)}(hB:bf (X o [])<=1073741824):tf o=J (ko (X o [])):=by
 unfold tf aW;have d:=eP (X o []);have:bR (EE o) ([],0)=J (ko (X o [])):=by
  rw[show(([],0):M ao×L)=(ko ((X o []).take 0),((0:U):L)) by simp[ko]];refine eZ (f:=EE o) (Y (X o [])) (λi=>(ko ((X o []).take i),(i:L))) (λi a=>?_) ?_ (cM (cC (by omega)));have b:=di (i:=i) (by omega);have h1:=Hh ((X o []).take i);have h2:=zC (X o []) i;have h3:=wV a;have c:ko ((X o []).take (i+1))=ko ((X o []).take i)++oR (X o [])[i]:=by unfold ko;rw[iU a,uy];simp
  unfold EE aN au aJ ag al ax aH aA c8 bu;dsimp-proj only[aj];simp only[];rw[dX a,c];simp only[dq a,cS a,b,uz];grind [oR];unfold EE aN au aJ ag al ax aH aA c8 bu;dsimp-proj only[aj];simp_all
 rw[this];rfl
def UL(b:L):∃v,vW b=J v:=by
 unfold vW aJ ag;dsimp-proj only[aj];repeat' split
 all_goals exact⟨_,rfl⟩
def awx{a b at':U}{x y:aK}(h:y∈nH a b at' x)(hy:y.1=1):0<Y y.2.1:=by grind [nH,wid]
def UM(a b:U):∀(f:M aK)(at':U)(y:aK),y∈fE a b at' f->y.1=1->0<Y y.2.1
 |[],_,y,h,_=>by simp[fE]at h|x::f,at',y,h,hy=>by
  rw[fE]at h;rcases mm.1 h with h|h
  exact awx h hy;exact UM a b f _ y h hy
def UN{f:Q (M aK)}(hB:bf (X f [])<=536870912){p:L}(m: -4<=p)(d:p<=1073741824):∃b,py f p=J b/\(b=W->0<=p/\p+1<=bL (X f [])):=by
 unfold py cG au ag al ax fA;dsimp-proj only[aj];rw[eY (by omega),jF (by omega),aB];unfold eT;by_cases g:p<0\/p+1<p\/p+1>(bL (X f []):L);simp_all;rw[aU g];simp only[bH,ch];have h:0<=p/\p+1<=(bL (X f []):L):=by omega
 have c:=UM (G p) (G (p+1)) (X f []) 0;generalize fE (G p) (G (p+1)) 0 (X f [])=a at *;match a,c with
 |[],_=>simp_all|[y],c=>
  have e:(ah [y]==(1:L))=W:=by simp
  have i:decide ((0:L)<=0/\(0:L)<ah [y])=W:=by simp
  rw[e,i];simp only[bH];by_cases h1:y.1=1;have j:=c y (by simp) h1;have k:((H [y] 0 ((0:L),([]:M ao),(0:L))).1==(1:L))=W:=by simp[h1]
  have l:bX 0 (Y (H [y] 0 ((0:L),([]:M ao),(0:L))).2.1)=W:=by unfold bX;rw[iJ];exact j
  rw[k,l];simp only[bH];let⟨v,hv⟩:=UL (fQ ((H (H [y] 0 ((0:L),([]:M ao),(0:L))).2.1 0 0)).toNat);simp_all;simp_all
 |y::z::a,_=>
  have e:(ah (y::z::a)==(1:L))=I:=by simp;omega
  simp_all
def awy{f:Q (M aK)}(hB:bf (X f [])<=536870912){x:L}(hx: -1<=x)(a:x<=bL (X f [])):∃r,bR (vZ f) x=J r:=by have c:=jE (X f []);let⟨r,h,_⟩:=gl (f:=vZ f) (λy=>-1<=y/\y<=bL (X f [])) (λy=>G ((bL (X f []):L)+1-y)) (λr=>dL) (λy hy=>by let⟨b,h1,h2⟩:=UN hB (p:=y) (by omega) (by omega);grind [vZ,aB,bV]) x ⟨hx,a⟩ (cM (cC (by omega)));exact⟨r,h⟩
def afq{f:Q (M aK)}(hB:bf (X f [])<=536870912){x:L}(hx: -1<=x)(a:x<=bL (X f [])):∃r,bR (v7 f) x=J r:=by have c:=jE (X f []);let⟨r,h,_⟩:=gl (f:=v7 f) (λy=>-1<=y/\y<=bL (X f [])) (λy=>G (y+1)) (λr=>dL) (λy hy=>by have d:aaX a7 (y-1)=y-1:=eY (by omega);let⟨b,h1,h2⟩:=UN hB (p:=y-1) (by omega) (by omega);grind [v7,aB]) x ⟨hx,a⟩ (cM (cC (by omega)));exact⟨r,h⟩
def afr{s:M ao}(l:Y s<=1073741824):∃r,vX s=J r:=by
 unfold vX aW ag;let⟨r,h1,k,e,hk,b⟩:=gl (f:=Bv s) (λy=>∃k:U,y=(k:L)/\k<=Y s) (λy=>Y s-G y) (λr=>∃k:U,r=(k:L)/\k<=Y s/\(k<Y s->vW (fQ (H s k 0).toNat)≠J 2)) (λy h=>by
  obtain⟨k,rfl,hk⟩:=h
  by_cases a:k<Y s
  have d:=di (i:=k) (by omega)
  let⟨v,hv⟩:=UL (fQ (H s (G ((k:L))) 0).toNat)
  unfold Bv iC aJ ag cy ax aH aA fA
  rw[dX a,aF (by simp),aF (UJ a),hv,aB]
  grind
  obtain rfl:k=Y s:=by omega
  unfold Bv iC aJ ag cy ax aH aA fA
  rw[gm]
  grind) 0 ⟨0,rfl,fZ _⟩ (cM (cC (by simp;omega)))
 rw[h1,aB];subst e;by_cases m:k=Y s;simp_all;rw[aU (by simp;omega)];have c:k<Y s:=by omega
 let⟨n,h2,_⟩:=gl (f:=Rb s) (λy=>∃j:U,y=(j:L)/\k<j/\j<=Y s) (λy=>G y) (λr=>dL) (λy h=>by
  obtain⟨j,rfl,o,g⟩:=h
  have d:aaX a7 ((j:L)-1)=((j-1:U):L):=by grind [bV]
  let⟨v,hv⟩:=UL (fQ (H s (G (((j-1:U):L))) 0).toNat)
  unfold Rb iC ag cy bg aH aA fA
  rw[d,aF (by simp),aF (UJ (by omega)),hv,aB]
  grind) (ah s) ⟨Y s,by simp,c,eJ _⟩ (cM (cC (by simp;omega)))
 simp_all
theorem awz{f:Q (M aK)}(hB:bf (X f [])<=536870912){k:U}(hk:k<=bL (X f [])):∃r,bR (BA f (bL (X f []):L)) (k:L)=J r/\ -1<=r/\r<=(bL (X f []):L):=by have a:=jE (X f []);refine gl (f:=BA f (bL (X f []):L)) (λy=>∃j:U,y=(j:L)/\j<=bL (X f [])) (λy=>bL (X f [])-G y) (λr=>-1<=r/\r<=(bL (X f []):L)) (λy h=>?_) (k:L) ⟨k,rfl,hk⟩ (cM (cC (by simp;omega)));obtain⟨j,rfl,c⟩:=h;unfold BA au aJ ag al ax aH aA;by_cases b:j<bL (X f []);grind [bV,jF,aB];grind
def awA{f:Q (M aK)}(hB:bf (X f [])<=536870912)(off:L):∃r,vY f off=J r/\ -1<=r/\r<=bL (X f []):=by
 have a:=jE (X f []);unfold vY aW aJ;by_cases b:off<0;simp_all;rw[aU (by simpa using b),zI (by omega),aB];by_cases h1:off>(Y (ko (X f [])):L);simp_all;rw[aU (by simpa using h1),mg (by omega),aB];let⟨r,h2,h3⟩:=gl (f:=BB f off (bL (X f []):L)) (λy=>∃k:U,y=(k:L)/\k<=bL (X f [])+1) (λy=>bL (X f [])+1-G y) (λr=>match r with|.inl z=>-1<=z/\z<=(bL (X f []):L)|.inr _=>dL) (λy h=>by obtain⟨k,rfl,hk⟩:=h;by_cases c:k<=bL (X f []);grind [bV,kY,awz,BB,jF,aB,zI];simp_all [BB,aU,aW,aJ,ag,ax,aH,aA]) 0 ⟨0,rfl,fZ _⟩ (cM (cC (by simp;omega)))
 rw[h2,aB];cases r with|inl z=>exact⟨z,rfl,h3⟩|inr z=>simp_all
def afs{a:Q (M sc)}(v:w6 a){f:Q (M aK)}(hB:bf (f.getD [])<=536870912):∃r,BE a f=J r/\(r.getD []).length<=1025:=by
 have w:=jE (f.getD []);unfold BE aW au al bu;rw[zI (by omega),aB];let⟨br,A,B⟩:=aww v (ko (f.getD []));rw[A,aB,aF (by simp;omega)];have g:(br.getD []++[(-1:L)]).length<=1025:=by simp;omega
 let⟨r,h1,h2⟩:=gl (f:=BD f br) (λy=>∃k:U,y.2.2=(k:L)/\k<=(br.getD []++[(-1:L)]).length/\(y.1.getD []).length<=k/\ -1<=y.2.1/\y.2.1<=bL (f.getD [])) (λy=>(br.getD []++[(-1:L)]).length-y.2.2.toNat) (λr=>(r.getD []).length<=1025) (λy h=>by
  let⟨acc,fr,i⟩:=y
  obtain⟨k,rfl,hk,C,c,d⟩:=h
  simp only[]at C c d
  by_cases b:k<(br.getD []++[(-1:L)]).length
  have D:=di (i:=k) (by omega)
  have E:(decide ((0:L)<=(k:L)/\(k:L)<ah (br.getD []++[(-1:L)]))&&bX (0+((k:L)).toNat) (br.getD []++[(-1:L)]).length)=W:=by rw[dq b,zH b];rfl
  let⟨x,q⟩:=awy hB c d
  unfold BD aW au aJ al ax aH aA bu;dsimp-proj only[aj]
  simp only[]
  rw[dX b,aF E,mg (by omega),aB,D]
  have e:∀z:L×L,(decide (0+(acc.getD []).length=(acc.getD []).length)&&(decide ((acc.getD []).length+1<=68719476736)&&acc.isSome==acc.isSome))=W:=λz=>by simp;omega
  have e:=e (0,0)
  have j:bR (abn f) fr=J x:=q
  by_cases u:(br.getD []++[(-1:L)]).getD (0+((k:L)).toNat) 0>=0
  rw[aF (by simpa using u)]
  let⟨to,F,G,H⟩:=awA hB ((br.getD []++[(-1:L)]).getD (0+((k:L)).toNat) 0)
  have l:=kY (f.getD []) fr to
  have m:=Hh ((eT (f.getD []) fr to).1.getD [])
  let⟨t,n⟩:=afr (s:=ko ((eT (f.getD []) fr to).1.getD [])) (by omega)
  let⟨z,o⟩:=afq hB G H
  rw[F,aB,jF (by omega),aB,zI (by omega),aB,n,aB,q,o]
  grind [aB]
  rw[aU (by simpa using u)]
  have l:=kY (f.getD []) fr (bL (f.getD []):L)
  have m:=Hh ((eT (f.getD []) fr (bL (f.getD []):L)).1.getD [])
  let⟨t,n⟩:=afr (s:=ko ((eT (f.getD []) fr (bL (f.getD []):L)).1.getD [])) (by omega)
  let⟨z,o⟩:=afq hB (x:=(bL (f.getD []):L)) (by omega) (sr _)
  have p:bR (abo f) (bL (f.getD []):L)=J z:=o
  rw[jF (by omega),aB,zI (by omega),aB,n,aB,j,p]
  grind [aB]
  obtain rfl:k=(br.getD []++[(-1:L)]).length:=by omega
  unfold BD aW au aJ al ax aH aA bu;dsimp-proj only[aj]
  simp only[]
  rw[gm]
  omega) (O,0,0) ⟨0,rfl,fZ _,by simp,by simp,by simp⟩ (cM (cC (by simp at g ⊢;omega)))
 simp_all
def Nb{α:Type}[DecidableEq α]{F:L->Q (L⊕ay⊕Unit)}{a b:M α}{d:α}(g:Y a<=1073741824) (h:∀s:L,F s=if decide (s<ah a)=W then(if(decide ((0:L)<=s/\s<ah a)&&decide ((0:L)<=s/\s<ah b))=W then(if(!decide (H a (G s) d=H b (G s) d))=W then J (.inr (.inl I))else J (.inl (aaX a7 (s+1))))else O)else J (.inr (.inr ()))):(if(ah a !=ah b)=W then J I else aq (bR F 0) λr1=>dh r1 (λr2=>J r2) λ_=>J W)=J (decide (a=b)):=by
 by_cases c:Y a=Y b;grind [ah,MS,cM,cC,bV,cS];have f:(ah a !=ah b)=W:=by simp;omega
 rw[aF f,ip (λe=>c (by rw[e]))]
def aft(a b:L):(a !=b)= !decide (a=b):=by by_cases h:a=b<;>simp[h]
def afu{a b:Q (M L)}(c:Y (X a [])<=1073741824):slices_Equal_int a b=J (decide (X a []=X b [])):=by unfold slices_Equal_int aW ag al;exact Nb (d:=0) c λs=>by unfold abt aN au aJ ag al ax aH aA;rw[aft]
def afv{a b:Q (M L)}(c:Y (X a [])<=1073741824):tz a b=J (decide (X a []=X b [])):=by unfold tz aW ag al;exact Nb (d:=0) c λs=>by unfold BO aN au aJ ag al ax aH aA;rw[aft]
def awB{a b:Q (M (M ao))}(c:Y (X a [])<=1073741824):slices_Equal_string a b=J (decide (X a []=X b [])):=by unfold slices_Equal_string aW ag al;exact Nb (d:=[]) c λs=>rfl
def awC{a b:Q (M (M ao))}(c:Y (X a [])<=1073741824):KR a b=J (decide (X a []=X b [])):=by unfold KR aW ag al;exact Nb (d:=[]) c λs=>rfl
def zJ(s:M ao)(l:M (M ao)):M (M ao):=l.takeWhile (λx=>decide (x<=s))++[s]++l.dropWhile (λx=>decide (x<=s))
theorem afw:∀(x y:M ao),nK x y=decide (x<y)|[],[]=>by simp[nK]|_::_,[]=>by simp[nK]|[],_::_=>by simp[nK]|a::x,b::y=>by have:=afw x y;grind [nK,List.cons_lt_cons_iff]
theorem afx(a s:M ao):(nK a s||decide (a=s))=decide (a<=s):=by grind [afw]
def afy{α:Type}(p:α->ay)(l:M α):Y (l.takeWhile p)<=Y l:=(List.takeWhile_sublist p).length_le
def awD{α:Type}(p:α->ay)(l:M α):l.takeWhile p=l.take (Y (l.takeWhile p))/\l.dropWhile p=l.drop (Y (l.takeWhile p)):=by grind [agV]
def UO{α:Type}(p:α->ay):∀(l:M α)(i:U)(h:i<Y l),i<Y (l.takeWhile p)->p l[i]=W|a::l,0,h,b=>by grind [HM]|a::l,i+1,h,b=>by by_cases c:p a=W;simp[HM,c]at b;exact UO p l i (by simpa using h) b;simp_all
theorem afz{α:Type}(p:α->ay):∀(l:M α)(h:(l.takeWhile p).length<l.length),p l[(l.takeWhile p).length]=I|a::l,h=>by by_cases b:p a=W;simp only[HM,b,bH,List.length_cons,List.getElem_cons_succ]at h ⊢;exact afz p l (by omega);simp_all
def awE{l:M (M ao)}{o:Q (M (M ao))}(b:X o []=l)(q:Y l<=1073741824)(s:M ao):KS o s=J (J (zJ s l)):=by
 have r:=afy (λx=>decide (x<=s)) l;let⟨d,e⟩:=awD (λx=>decide (x<=s)) l;have a:bR (E1 o s) 0=J ((Y (l.takeWhile (λx=>decide (x<=s))):U):L):=by
  refine eZ (f:=E1 o s) (Y (l.takeWhile (λx=>decide (x<=s)))) (λi=>(i:L)) (λi g=>?_) ?_ (cM (cC (by omega)));have c:i<Y l:=by omega
  have h:=di (i:=i) (by omega);have j:=UO (λx=>decide (x<=s)) l i c g;unfold E1 aN au ag al ax aH aA;rw[b,aF (by simp;try omega),cS c,afx,j,aF (by simp;try omega),h];unfold E1 aN au ag al ax aH aA;rw[b];by_cases m:Y (l.takeWhile (λx=>decide (x<=s)))<Y l;grind [afz,cS,afx];rw[aF (by simp;try omega),aU (by simp;try omega)]
 unfold KS aW au al bu;dsimp-proj only[aj];rw[a,aB];generalize hk:Y (l.takeWhile (λx=>decide (x<=s)))=k at *;have n:∀x:M (M ao),X (dW x) []=x:=λx=>by cases x<;>rfl
 have p:X (ga (bq 0 (k:L)) o) []=l.take k:=by
  cases o with|none=>grind|some x=>simp only[fk]at b;subst b;exact gP x 0 k
 have m2:X (ga (bq (k:L) (ah (X o []))) o) []=l.drop k:=by
  cases o with|none=>grind|some x=>grind [iQ]
 rw[m2];simp only[p,n,b];rw[aF (by simp;omega),aF (by simp;omega)];unfold zJ;rw[d,e]
def kq(l:M (M ao)):M (M ao):=l.mergeSort λx y=>decide (x<=y)
theorem awF(s:M ao)(l:M (M ao)):(zJ s l).Perm (s::l):=by grind [zJ,agV]
theorem awG{s:M ao}{l:M (M ao)}(h:l.Pairwise (·<= ·)):(zJ s l).Pairwise (·<= ·):=by
 unfold zJ;have e:=agV (p:=λx=>decide (x<=s)) (l:=l);rw[<-e]at h;have h1:=(sf.1 h);rw[CJ,sf];have f:∀x∈l.takeWhile (λx=>decide (x<=s)),x<=s:=λx c=>by obtain⟨i,d,rfl⟩:=qV c;have a:i<l.length:=Nat.lt_of_lt_of_le d (afy _ l);have:=UO (λx=>decide (x<=s)) l i a d;grind
 have hd:∀x∈l.dropWhile (λx=>decide (x<=s)),s<=x:=λx c=>by
  cases b:l.dropWhile (λx=>decide (x<=s))with|nil=>grind|cons y r=>have hy:s<=y:=(by have:=List.head_dropWhile_not (λx=>decide (x<=s)) (l:=l) (by rw[b];simp);grind);grind [xf]
 grind
def awH(s:M ao)(l:M (M ao)):zJ s (kq l)=kq (l++[s]):=by grind [kq,List.mergeSort_perm,List.pairwise_mergeSort,List.Perm.eq_of_pairwise,awG,awF]
theorem awI(l:M (M ao)):LN l=aY (kq l):=by
 cases l with
 |nil=>simp[kq,LN,aY]|cons a l=>
  have:kq (a::l)≠[]:=λe=>by grind [kq,ayC]
  cases h:kq (a::l)with|nil=>exact cJ h this|cons b r=>show J (kq (a::l))=_;rw[h];rfl
theorem Nc(l:M (M ao)):Y (kq l)=Y l:=ayC l
def afA{o:Q (M aK)}(a:Y (X o [])<=1073741824):wz o=J (aY (kq (jn (X o [])))):=by grind [wz,awI]
def awJ{f:M aK}{i:U}(h:i<Y f):jn (f.take (i+1))=jn (f.take i)++if f[i].1==5 then[f[i].2.1]else[]:=by grind [jn,iU]
def afB(f:M aK):Y (jn f)<=Y f:=by simp_all [jn,CM]
def afC{o:Q (M aK)}(m:Y (X o [])<=1073741824):E3 o=J (aY (kq (jn (X o [])))):=by
 unfold E3 aW;have:bR (E2 o) (O,0)=J (aY (kq (jn (X o [])))):=by
  rw[show((O,0):Q (M (M ao))×L)=(aY (kq (jn ((X o []).take 0))),((0:U):L)) by simp[kq,jn,aY]];refine eZ (f:=E2 o) (Y (X o [])) (λi=>(aY (kq (jn ((X o []).take i))),(i:L))) (λi b=>?_) ?_ (cM (cC (by omega)));have g:=di (i:=i) (by omega);have j:=afB ((X o []).take i);have k:Y ((X o []).take i)<=i:=by simp;omega
  unfold E2 bS cG aN ag al ax aH aA;rw[dX b,aF (dq b),awJ b];simp only[cS b,g];by_cases d:((X o [])[i].1==5)=W;rw[aF d,aF d,aF (dq b),awE (ch _) (by rw[Nc];omega),awH];have c:kq (jn ((X o []).take i)++[(X o [])[i].2.1])≠[]:=λe=>by grind [Nc]
  rw[aB];cases h:kq (jn ((X o []).take i)++[(X o [])[i].2.1])with|nil=>exact cJ h c|cons a l=>rfl
  grind;unfold E2 bS cG aN ag al ax aH aA;simp_all
 rw[this];rfl
abbrev iT:Ty:=(Ty.int a7).bJ (Ty.bj.bJ (Ty.int a7))
theorem UP(x y:aK):jx iT x y=decide (x=y):=by let⟨a,b,c⟩:=x;let⟨d,e,f⟩:=y;show((a==d)&&(decide (b=e)&&(c==f)))=_;by_cases h1:a=d<;>by_cases h2:b=e<;>by_cases h3:c=f<;>simp[h1,h2,h3]
theorem Cs{V:Type}(x:aK)(r:aK×V)(l:M (aK×V)):dr iT x (r::l)=if x=r.1 then J r.2 else dr iT x l:=by grind [dr,UP]
theorem UQ{V:Type}(x:aK)(y:V)(r:aK×V)(l:M (aK×V)):fV iT x y (r::l)=if x=r.1 then(x,y)::l else r::fV iT x y l:=by grind [fV,UP]
def Nd(x:aK)(z v:L):∀m:M (aK×L),pj v (mF iT x m) (nn iT x z m)=fV iT x v m/\mF iT x m<Y (nn iT x z m)|[]=>⟨rfl,Nat.lt_succ_self 0⟩|r::m=>by let⟨h1,h2⟩:=Nd x z v m;grind [mF,UP,nn,UQ,pj.eq_2,pj.eq_3]
def afD{V:Type}(z x:aK)(y:V):∀l:M (aK×V),dr iT z (fV iT x y l)=if z=x then J y else dr iT z l|[]=>by show dr iT z [(x,y)]=_;rw[Cs]|r::l=>by rw[UQ];by_cases h:x=r.1;grind [Cs];rw[aU h,Cs,Cs,afD z x y l];grind
def afE{V:Type}(x:aK)(y:V):∀l:M (aK×V),(l.map (·.1)).Nodup->((fV iT x y l).map (·.1)).Nodup/\∀k∈(fV iT x y l).map (·.1),k=x\/k∈l.map (·.1)|[],_=>⟨by show([(x,y)].map (·.1)).Nodup;simp,λk hk=>.inl (by have hk:k∈[(x,y)].map (·.1):=hk;simpa using hk)⟩|r::l,h=>by rw[fc,zX]at h;let⟨h1,h2⟩:=afE x y l h.2;grind [UQ]
def qK(m:M (aK×L))(c:aK->L):Prop:=(m.map (·.1)).Nodup/\∀z,X (dr iT z m) 0=c z
theorem qK.bump{m:M (aK×L)}{c:aK->L}(h:qK m c)(x:aK)(v:L):qK (pj v (mF iT x m) (nn iT x 0 m)) (λz=>if z=x then v else c z):=by rw[(Nd x 0 v m).1];refine⟨(afE x v m h.1).1,λz=>?_⟩;rw[afD];by_cases a:z=x;simp[a];simp only[aU a];exact h.2 z
def afF(z x:aK)(l:M aK):List.count z (l++[x])=List.count z l+if z=x then 1 else 0:=by grind
def awK{l:M aK}{o:Q (M aK)}(c:X o []=l)(j:Y l<=1073741824):∃m,bR (Gb o) ([],0)=J m/\qK m (λz=>(l.count z:L)):=by
 refine gl (f:=Gb o) (λs=>∃k:U,s.2=(k:L)/\k<=Y l/\qK s.1 (λz=>((l.take k).count z:L))) (λs=>Y l-G s.2) (λm=>qK m (λz=>(l.count z:L))) (λs h=>?_) ([],0) ⟨0,rfl,fZ _,by simp,λz=>by simp[dr]⟩ (cM (cC (by simp;omega)));let⟨m,i⟩:=s;obtain⟨k,rfl,hk,b⟩:=h;simp only[]at b;by_cases a:k<Y l;have d:=di (i:=k) (by omega);have n:(l.take k).count l[k]<=k:=by grind [agW]
 have p:=(Nd l[k] 0 (aaX a7 (X (dr iT l[k] m) 0+1)) m).2;have hB:=b.bump l[k] (aaX a7 (X (dr iT l[k] m) 0+1));unfold Gb;simp only[c,cS a];rw[dX a,aF (by simp_all)];simp only[fB,d];refine⟨⟨k+1,rfl,a,?_⟩,by omega⟩;have e:(λz=>((l.take (k+1)).count z:L))=λz=>if z=l[k]then aaX a7 (X (dr iT l[k] m) 0+1)else((l.take k).count z:L):=funext λz=>by rw[iU a,afF];by_cases q:z=l[k];have g:=b.2 l[k];grind [bV];grind
 rw[e];exact hB;obtain rfl:k=Y l:=by omega
 simp_all [Gb]
def awL{l:M aK}{o:Q (M aK)}(j:X o []=l)(u:Y l<=1073741824){b:M (aK×L)}{c:aK->U}(g:qK b (λz=>(c z:L)))(n:∀z,c z<=1073741824):∃m,bR (Gc o) (b,0)=J m/\qK m (λz=>(c z:L)-(l.count z:L)):=by
 refine gl (f:=Gc o) (λs=>∃k:U,s.2=(k:L)/\k<=Y l/\qK s.1 (λz=>(c z:L)-((l.take k).count z:L))) (λs=>Y l-G s.2) (λm=>qK m (λz=>(c z:L)-(l.count z:L))) (λs h=>?_) (b,0) ⟨0,rfl,fZ _,g.1,λz=>by simpa using g.2 z⟩ (cM (cC (by simp;omega)));let⟨m,i⟩:=s;obtain⟨k,rfl,hk,d⟩:=h;simp only[]at d;by_cases a:k<Y l;have p:=di (i:=k) (by omega);have q:(l.take k).count l[k]<=k:=by grind [agW]
 have r:=n l[k];have v:=(Nd l[k] 0 (aaX a7 (X (dr iT l[k] m) 0-1)) m).2;have hB:=d.bump l[k] (aaX a7 (X (dr iT l[k] m) 0-1));unfold Gc;simp only[j,cS a];rw[dX a,aF (by simp_all)];simp only[fB,p];refine⟨⟨k+1,rfl,a,?_⟩,by omega⟩;have e:(λz=>(c z:L)-((l.take (k+1)).count z:L))=λz=>if z=l[k]then aaX a7 (X (dr iT l[k] m) 0-1)else(c z:L)-((l.take k).count z:L):=funext λz=>by rw[iU a,afF];by_cases w:z=l[k];have t:=d.2 l[k];grind [bV];grind
 rw[e];exact hB;obtain rfl:k=Y l:=by omega
 simp_all [Gc]
def awM{m:M (aK×L)}(h:(m.map (·.1)).Nodup){r:aK×L}(a:r∈m):dr iT r.1 m=J r.2:=by
 induction m with
 |nil=>cases a
 |cons q m b=>grind [Cs]
def awN{m:M (aK×L)}{z:aK}{v:L}(h:dr iT z m=J v):(z,v)∈m:=by
 induction m with
 |nil=>cases h
 |cons q m a=>grind [Cs]
def awO{m:M (aK×L)}{c:aK->L}(h:qK m c):rJ m.length (LO m) RE ()=J (if m.all (λr=>decide (r.2=0))=W then .inr ()else .inl I):=by
 refine aaj λl d=>?_;have key:∀(l:M U)(a:M U),(∀i∈l,i<m.length)->ny (LO m) RE a l ()=J (if l.all (λi=>decide ((m.getD i ((0,[],0),0)).2=0))=W then .inr ()else .inl I):=by
  intro l;induction l with
  |nil=>intro a _;rfl
  |cons i l f=>grind [ny,LO,bX,iJ]
 rw[key l [] (λi b=>by grind)];congr 2;have:l.all (λi=>decide ((m.getD i ((0,[],0),0)).2=0))=m.all (λr=>decide (r.2=0)):=by rw[Bool.eq_iff_iff,gT,gT];constructor;intro h r e;obtain⟨i,b,rfl⟩:=qV e;have:=h i (d.mem_iff.2 (by simpa using b));grind;grind
 rw[this]
theorem awP{o:Q (M aK)}(c:Y (X o [])<=1073741824)(x:aK):E7 o x=J ((X o []).count x:L):=by
 unfold E7 aW;have:bR (E6 o x) (0,0)=J ((X o []).count x:L):=by
  rw[show((0,0):L×L)=((((X o []).take 0).count x:L),((0:U):L)) by simp];refine eZ (f:=E6 o x) (Y (X o [])) (λi=>((((X o []).take i).count x:L),(i:L))) (λi a=>?_) ?_ (cM (cC (by omega)));have d:=di (i:=i) (by omega);have e:((X o []).take i).count x<=i:=by grind [agW]
  have b:aaX a7 ((((X o []).take i).count x:L)+1)=(((X o []).take i).count x:L)+1:=eY (by omega);unfold E6 bS aN ag al ax aH aA;rw[dX a,aF (dq a)];grind [cS,iU];unfold E6 bS aN ag al ax aH aA;simp_all
 rw[this];rfl
def awQ{s t:M aK}(a:Y s=Y t)(h:∀x∈s,s.count x=t.count x):s.Perm t:=by
 have h1:s.Perm (t.filter λx=>decide (x∈s)):=by grind [List.count_filter,List.count_eq_zero]
 grind [List.Perm.length_eq,List.length_filter_eq_length_iff]
def afG{s t:Q (M aK)}(H:(s.getD []).length<=536870912)(K:(t.getD []).length<=536870912):∃b,rU s t=J b/\yZ s t=J b:=by
 let⟨a,k,l,N,P⟩:=ae9 (o:=s) (by omega);let⟨e,m,n,R,V⟩:=ae9 (o:=t) (by omega);have X:=CM fa (s.getD []);have lt:=CM fa (t.getD []);let⟨Y,c1,d1⟩:=awK (ch ((s.getD []).filter fa)) (by omega);let⟨m2,p,d2⟩:=awL (ch ((t.getD []).filter fa)) (by omega) d1 (λz=>by grind);have q:=afB (s.getD []);unfold rU yZ aW ag al;rw[k,m,l,n];simp only[aB,afu (show(a.1.getD []).length<=1073741824 by omega),afu (show(a.2.1.getD []).length<=1073741824 by omega),afv (show(a.1.getD []).length<=1073741824 by omega),afv (show(a.2.1.getD []).length<=1073741824 by omega),ae7 (show(s.getD []).length<=1073741824 by omega),ae7 (show(t.getD []).length<=1073741824 by omega),ae8 (show(s.getD []).length<=1073741824 by omega),ae8 (show(t.getD []).length<=1073741824 by omega),c1,p,awO d2,afA (show(s.getD []).length<=1073741824 by omega),afA (show(t.getD []).length<=1073741824 by omega),afC (show(s.getD []).length<=1073741824 by omega),afC (show(t.getD []).length<=1073741824 by omega)];rw[awB (by rw[ch,Nc];omega),awC (by rw[ch,Nc];omega)];simp only[ch,aB];cases h1:a.2.2;simp_all;cases h2:e.2.2;simp_all;by_cases h3:a.1.getD []=e.1.getD [];rotate_left;simp_all;by_cases u:a.2.1.getD []=e.2.1.getD [];rotate_left;simp_all;simp only[h3,u,decide_true,jI,bM,ca];generalize Z:(s.getD []).filter fa=S at *;generalize hT:(t.getD []).filter fa=T at *;have g:m2.all (λr=>decide (r.2=0))=W↔ ∀z,S.count z=T.count z:=by
  rw[gT];constructor;intro h z;have:=d2.2 z;cases w:dr iT z m2 with|none=>grind|some v=>have hv:v=0:=(by simpa using h _ (awN w));grind
  intro h r y;have:=d2.2 r.1;simp only[awM d2.1 y,h]at this;simpa using this
 by_cases f:kq (jn (s.getD []))=kq (jn (t.getD []));rotate_left;refine⟨I,?_,by simp[f]⟩;cases m2.all (λr=>decide (r.2=0))with|true=>simp[f]|false=>rfl
 simp only[f,decide_true,jI,bM,ca];have c:∀d:S.length=T.length,bR (E8 (aY S) (aY T)) 0=J (if S.any (λx=>decide (S.count x≠T.count x))=W then .inl I else .inr ()):=λd=>by
  have:=wX (F:=E8 (aY S) (aY T)) S.length (λi=>(i:L)) (λi=>decide (S.count (S.getD i (0,[],0))≠T.count (S.getD i (0,[],0)))) I () (λi j=>by
   have hw:=di (i:=i) (by omega)
   have A:S.getD i (0,[],0)=S[i]:=by grind
   unfold E8 bS cG aN ag al ax aH aA
   rw[A]
   simp only[ch]
   rw[dX j,aF (dq j)]
   grind [cS,dq,awP,ch,aB]) (by
   unfold E8 bS cG aN ag al ax aH aA
   simp_all) (cM (cC (by omega)))
  grind [M5]
 cases B:m2.all (λr=>decide (r.2=0))with
 |true=>have C:=g.1 B;have d:S.length=T.length:=(ayD.2 C).length_eq;simp_all|false=>
  refine⟨I,rfl,?_⟩;by_cases d:S.length=T.length;rw[aU (by simp[d]),c d,aB,aF];rfl;have:∃x∈S,S.count x≠T.count x:=by refine ayE λD=>?_;have:=g.2 (ayD.1 (awQ d λx E=>ayE λG=>D ⟨x,E,G⟩));grind
  grind;rw[aF (by rw[bne_iff_ne];simp;omega)]
abbrev kT:Ty:=(Ty.int a7).bJ (Ty.int a7)
abbrev KV:=(L×L)×Q (M aK)
theorem eqK(x y:L×L):jx kT x y=decide (x=y):=by let⟨a,b⟩:=x;let⟨c,d⟩:=y;show((a==c)&&(b==d))=_;by_cases h1:a=c<;>by_cases h2:b=d<;>simp[h1,h2]
def tW(x y:L×L):Prop:=x.1<y.1\/(x.1=y.1/\x.2<y.2)
def afH(x y:L×L):ph kT x y=W↔tW x y:=by let⟨a,b⟩:=x;let⟨c,d⟩:=y;show(decide (a<c)||((a==c)&&decide (b<d)))=W↔_;simp[tW]
def afI(x:L×L)(r:KV)(l:M KV):dr kT x (r::l)=if x=r.1 then J r.2 else dr kT x l:=by grind [dr,eqK]
theorem Nf{x:L×L}:∀{l:M KV},(∀r∈l,r.1≠x)->dr kT x l=O|[],_=>rfl|r::l,h=>by rw[afI,aU (λe=>h r (by simp) e.symm)];exact Nf λq a=>h q (by simp[a])
def afJ(x:L×L)(y:Q (M aK))(r:KV)(l:M KV):pi kT x y (r::l)=if ph kT x r.1=W then(x,y)::r::l else r::pi kT x y l:=by grind [pi]
def UR(x:L×L)(y:Q (M aK)):∀l:M KV,(pi kT x y l).Perm ((x,y)::l)|[]=>ayF _|r::l=>by rw[afJ];split;exact ayF _;·exact((UR x y l).cons r).trans (List.Perm.swap _ _ _)
def tX(l:M KV):Prop:=l.Pairwise λa b=>tW a.1 b.1
def afK{x:L×L}{y:Q (M aK)}:∀{l:M KV},tX l->(∀r∈l,r.1≠x)->tX (pi kT x y l)
 |[],_,_=>List.pairwise_singleton _ _|r::l,h,d=>by
  have c:=xf.1 h;rw[afJ];split;rename_i a;have a:=(afH _ _).1 a;refine xf.2 ⟨λq b=>?_,h⟩;rcases iG.1 b with rfl|b
  exact a;have:=c.1 q b;unfold tW at *;grind;rename_i a;have a:¬tW x r.1:=λe=>a ((afH _ _).2 e);refine xf.2 ⟨λq b=>?_,afK c.2 λq b=>d q (by simp[b])⟩;rcases iG.1 ((UR x y l).mem_iff.1 b)with rfl|b
  have f:=d r (by simp);have:r.1.1≠x.1\/r.1.2≠x.2:=by grind
  unfold tW at *;grind;exact c.1 q b
def awS{l l':M KV}(h:tX l)(c:tX l')(d:l.Perm l'):l=l':=List.Perm.eq_of_pairwise (le:=λa b:KV=>tW a.1 b.1) (λa b _ _ h1 h2=>by unfold tW at h1 h2;omega) h c d
def Ct(a:L)(m:M KV)(r:L×Q (M aK)):M KV:=match(dr kT (a,r.1) m).isSome with|true=>fV kT (a,r.1) r.2 m|false=>pi kT (a,r.1) r.2 m
def afL(a:L):∀(rs:M (L×Q (M aK)))(m:M KV),tX m->(∀q∈m,∀r∈rs,q.1≠(a,r.1))->(rs.map (·.1)).Nodup->tX (rs.foldl (Ct a) m)/\(rs.foldl (Ct a) m).Perm (m++rs.map λr=>((a,r.1),r.2))
 |[],m,h,_,_=>⟨h,by simp⟩|r::rs,m,h,c,hd=>by
  rw[fc,zX]at hd;have d:dr kT (a,r.1) m=O:=Nf λq b=>c q b r (by simp);have e:Ct a m r=pi kT (a,r.1) r.2 m:=by unfold Ct;rw[d];rfl
  rw[List.foldl_cons,e];have g:=UR (a,r.1) r.2 m;let⟨i,j⟩:=afL a rs _ (afK (y:=r.2) h λq b=>c q b r (by simp)) (λq b k f=>by grind) hd.2;grind
def iF(d:Dc)(k:U):Q (M aK):=match mP d (k:L)with|some r=>r.1|none=>O
def mT(d:Dc):M (L×Q (M aK)):=(km (X d.2 []) (Y (X d.2 []))).map λ(k:U)=>((k:L),iF d k)
def afM(P:M dc)(n:U):∀k∈km P n,k<n/\(H P k (I,[],[])).1=W:=λk hk=>by simp_all [km]
theorem US(P:M dc)(n:U):(km P n).Pairwise (·< ·):=List.Pairwise.filter _ List.pairwise_lt_range
def afN{V:Type}(x:L)(y:V):∀l:M (L×V),(∀r∈l,r.1≠x)->fV (.int .i64) x y l=l++[(x,y)]|[],_=>rfl|r::l,h=>by rw[UF,aU (λe=>h r (by simp) e.symm),afN x y l λq a=>h q (by simp[a])];rfl
def awT{d:Dc}(h1:Y (X d.2 [])<=1073741824)(h2:∀q∈X d.2 [],Y q.2.2<=67108864):Ln d=J (mT d):=by
 unfold Ln aW;rw[Cp h1,aB];generalize m:km (X d.2 []) (Y (X d.2 []))=a;have g:=Co (X d.2 []) (Y (X d.2 []));have c:=US (X d.2 []) (Y (X d.2 []));rw[m]at g c;have:bR (FE d (aY (a.map fQ))) ([],0)=J (a.map λ(k:U)=>((k:L),iF d k)):=by
  rw[show(([],0):M (L×Q (M aK))×L)=((a.take 0).map λ(k:U)=>((k:L),iF d k),((0:U):L)) by simp];refine eZ (f:=FE d (aY (a.map fQ))) (Y a) (λi=>((a.take i).map λ(k:U)=>((k:L),iF d k),(i:L))) (λi h=>?_) ?_ (cM (cC (by omega)));have n:=di (i:=i) (by omega);have b:i<Y (a.map fQ):=by simpa using h
  let⟨f,e,o,p,_⟩:=Ha h2 (a[i]:L);have s:iF d a[i]=f:=by unfold iF;rw[o]
  unfold FE bS aN al ax aH aA;simp only[ch];rw[dX b,aF (dq b),cS b,List.getElem_map];simp only[n];rw[show ze d (fQ a[i])=_ from p,aB];rw[iU h,List.map_append,fc,List.map_nil,s];refine congrArg (λz=>J (mr (z,((i+1:U):L)))) (afN _ _ _ λr t=>?_);obtain⟨k,hk,rfl⟩:=mq.1 t;obtain⟨j,u,rfl⟩:=qV hk;have l:j<i:=by simp at u;omega
  rw[List.getElem_take];have:=(xc.1 c) j i (by omega) h l;grind;simp_all [FE,bS,aN,al,ax,aH,aA]
 rw[this,aB];unfold mT;rw[m]
def gi(bB:M Dc)(n:U):M KV:=(jq n).flatMap λi=>(mT (H bB i (0,O))).map λr=>(((i:L),r.1),r.2)
theorem afO(bB:M Dc)(n:U):gi bB (n+1)=gi bB n++(mT (bB.getD n (0,O))).map λr=>(((n:L),r.1),r.2):=by unfold gi;rw[List.range_succ,uy];simp
theorem UT{bB:M Dc}{n:U}{q:KV}(h:q∈gi bB n):∃i:U,i<n/\q.1.1=(i:L):=by grind [gi]
def afP(d:Dc):(mT d).Pairwise λa b=>a.1<b.1:=by simp_all [mT,NB,US]
def Ng(bB:M Dc):∀n,tX (gi bB n)|0=>VB|n+1=>by rw[afO];unfold tX;rw[sf];refine⟨Ng bB n,?_,λa c b d=>?_⟩;rw[NB];exact(afP _).imp λh=>.inr ⟨rfl,h⟩;let⟨i,f,e⟩:=UT c;obtain⟨r,_,rfl⟩:=mq.1 d;refine .inl ?_;grind
abbrev dx:=L×L×L×(L×L)×L×Q (M aK)×M ao×L×ay
abbrev dy:=Q (M Dc)×Q (M dx)×L
def afQ(a:L×Q (M Dc)×Q (M dx)×L×M KV)(rows:M (L×Q (M aK))):∀(l sn:M U)(x:Q (M Dc)×Q (M dx)×L×M KV),(∀i∈l,i<Y rows)->ny (Ge a rows) RF sn l x=J (x.1,x.2.1,x.2.2.1,(l.map λi=>H rows i (0,O)).foldl (Ct a.1) x.2.2.2)
 |[],sn,x,_=>rfl|i::l,sn,x,h=>by
  have step:Ge a rows sn i x=J (.inl (x.1,x.2.1,x.2.2.1,Ct a.1 x.2.2.2 (H rows i (0,O)))):=by unfold Ge;rw[aF (by grind [bX,iJ])];rfl
  rw[ny,step];simp only[];rw[afQ a rows l _ _ λj b=>h j (by simp[b])];rfl
def awU{α:Type}(d:α)(l:M α):(jq (Y l)).map (λi=>H l i d)=l:=by apply List.ext_getElem (by simp);grind
def awV(bB:M Dc)(i:U)(x:Q (M Dc)×Q (M dx)×L):rJ (Y (mT (H bB i (0,O)))) (Ge ((i:L),x.1,x.2.1,x.2.2,gi bB i) (mT (H bB i (0,O)))) RF (x.1,x.2.1,x.2.2,gi bB i)=J (x.1,x.2.1,x.2.2,gi bB (i+1)):=by
 refine aaj λl c=>?_;rw[afQ _ _ l [] _ λj g=>by grind];simp only[];have d:(l.map λa=>H (mT (H bB i (0,O))) a (0,O)).Perm (mT (H bB i (0,O))):=by have:=c.map λa=>H (mT (H bB i (0,O))) a (0,O);rwa [awU]at this
 have b:((mT (H bB i (0,O))).map (·.1)).Nodup:=by rw[List.nodup_iff_pairwise_ne,NB];exact(afP _).imp λh=>by omega
 let⟨f,k⟩:=afL (i:L) (l.map λa=>H (mT (H bB i (0,O))) a (0,O)) (gi bB i) (Ng bB i) (λq m r n e=>by grind [UT]) ((d.map _).nodup_iff.2 b);have:=awS f (Ng bB (i+1)) (by grind [afO]);rw[this]
def awW{o:Q (M aK)}(h:Y (X o [])<=1073741824):Lp o=J o:=by
 unfold Lp au ag al;cases o with|none=>rfl|some l=>grind
def awX{o:Q (M dc)}(h:Y (X o [])<=1073741824):Lq o=J o:=by
 unfold Lq au ag al;cases o with|none=>rfl|some l=>grind
def sgZ:dx:=(0,0,0,(0,0),0,O,[],0,I)
structure qL(p:dy):Prop where
 parts:∀d∈X p.1 [],Y (X d.2 [])<=1048576/\Y (ep (X d.2 []))<=1073741824
 tg:∀s∈X p.2.1 [],bf (X s.2.2.2.2.2.1 [])<=67108864
 nd:Y (X p.1 [])<=1048576
 ns:Y (X p.2.1 [])<=1048576
def awZ{p:dy}(h:qL p):Lr p=J (aY (X p.1 []),aY (X p.2.1 []),p.2.2):=by
 have c:=h.nd;have d:=h.ns;unfold Lr aW au;have j:bR (FF p) (0,O,O,p.2.2)=J (aY (X p.1 []),O,p.2.2):=by rw[show((0,O,O,p.2.2):L×Q (M Dc)×Q (M dx)×L)=(((0:U):L),aY ((X p.1 []).take 0),O,p.2.2) by simp[aY]];refine eZ (f:=FF p) (Y (X p.1 [])) (λi=>((i:L),aY ((X p.1 []).take i),O,p.2.2)) (λi a=>?_) ?_ (cM (cC (by omega)));have b:=di (i:=i) (by omega);have e:=(h.parts _ (eE a)).1;unfold FF bS aN au al ax aH aA bu;simp only[ch];rw[dX a,aF (dq a)];simp only[cS a,b];unfold Rw;rw[awX (by omega),aB,aB,aF (by simp;omega),iU a,<-MO,ch];unfold FF bS aN au al ax aH aA bu;simp_all
 have k:bR (FG p) (0,aY (X p.1 []),O,p.2.2)=J (aY (X p.1 []),aY (X p.2.1 []),p.2.2):=by rw[show((0,aY (X p.1 []),O,p.2.2):L×Q (M Dc)×Q (M dx)×L)=(((0:U):L),aY (X p.1 []),aY ((X p.2.1 []).take 0),p.2.2) by simp[aY]];refine eZ (f:=FG p) (Y (X p.2.1 [])) (λi=>((i:L),aY (X p.1 []),aY ((X p.2.1 []).take i),p.2.2)) (λi a=>?_) ?_ (cM (cC (by omega)));have b:=di (i:=i) (by omega);have e:=h.tg _ (eE a);have g:=eP (X (X p.2.1 [])[i].2.2.2.2.2.1 []);unfold FG bS aN au al ax aH aA bu;simp only[ch];rw[dX a,aF (dq a)];simp only[cS a,b];unfold Rv;rw[awW (by omega),aB,aB,aF (by simp;omega),iU a,<-MO,ch];unfold FG bS aN au al ax aH aA bu;simp_all
 simp_all
def afR(s:dx):∃b,LP s=J b/\kC s=J b:=by
 unfold LP kC ag al;dsimp-proj only[aj];have a:(!(s.2.2.2.2.2.2.2.1 !=(0:L)))=(s.2.2.2.2.2.2.2.1==(0:L)):=by simp[bne]
 simp only[wN,Cj,aB,a];split;grind
 ·repeat' split
  all_goals exact⟨_,rfl,rfl⟩
def aw0(a b:dx):LR a b=wD b a:=by grind [LR,wD]
def afS{d:Dc}(h1:Y (X d.2 [])<=1048576)(h2:Y (ep (X d.2 []))<=1073741824){src:Q (M aK)}(l:bf (X src [])<=536870912){s:dx}(m:bf (X s.2.2.2.2.2.1 [])<=67108864){v:Q (M Dc)×Q (M dx)×L×M KV}{k:U}(hk:s.2.1=(k:L))(hv:(X v.1 [])[k]?=J d):∃e,LQ s src v=J e/\lE d src s=J e/\(e=0->gR (X s.2.2.2.2.2.1 [])=0/\(s.2.2.2.2.1=3->yZ src s.2.2.2.2.2.1=J W)):=by
 let⟨b,f1,f2⟩:=afR s;have c:k<Y (X v.1 []):=(ik.1 hv).1;have f:=eP (X src []);have g:=eP (X s.2.2.2.2.2.1 []);unfold LQ lE cG aN ag al;rw[f1,f2,aB,aB];cases b with
 |false=>simp_all|true=>
  rw[aeY (by omega),Cq (by omega)];simp only[jI,bM,ca,aB];by_cases i:gR (X s.2.2.2.2.2.1 [])=0;simp only[i];by_cases h3:s.2.2.2.2.1=3;have a:(s.2.2.2.2.1 !=(3:L))=I:=by simp[h3]
  let⟨b,c1,j⟩:=afG (s:=src) (t:=s.2.2.2.2.2.1) (by omega) (by omega);rw[a,c1,j];simp only[show((0:L) !=0)=I from rfl,Bool.or_self,bM,ca,aB];cases b with|false=>simp_all|true=>have hd:H (X v.1 []) (G s.2.1) ((0:L),O)=d:=(by grind);let⟨n,e,o,p,_⟩:=afo h1 h2 s.2.2.1 (rs:=J [s.2.2.2.1]) (ts:=J [s.2.2.2.2.2.1]) (by simp) (by simp) (λt h=>by grind);simp_all
  simp_all;simp_all
def aw1{o:Q (M L)}(b:Y (X o [])<=1073741824)(n:L):L5 o n=J (decide (n∈X o [])):=by
 unfold L5 aW;have:=wX (F:=L4 o n) (Y (X o [])) (λi=>(i:L)) (λi=>H (X o []) i 0==n) W () (λi a=>by
  have c:=di (i:=i) (by omega)
  unfold L4 bS aN ag al ax aH aA
  simp_all) (by
  unfold L4 bS aN ag al ax aH aA
  rw[gm]) (cM (cC (by omega)))
 rw[show(0:L)=((0:U):L)from rfl,this,aB];by_cases h:n∈X o [];let⟨i,a,e⟩:=qV h;rw[aF,iV h];rfl;rw[List.any_eq_true];refine⟨i,by simpa using a,?_⟩;grind;rw[aU,ip h];rfl;grind
def w7(P:M dc)(b:L):ay:=decide (b∈(km P (Y P)).map fQ)
theorem w8{P:M dc}{b:L}:w7 P b=W↔ ∃k:U,b=(k:L)/\k∈km P (Y P):=by grind [w7]
def afT{d:Dc}(h:Y (X d.2 [])<=1073741824)(part:L):L6 d part=J (w7 (X d.2 []) part):=by unfold L6;have a:=Co (X d.2 []) (Y (X d.2 []));rw[M2,Cp h,aB,aw1 (by rw[ch,jS];omega),aB,ch];rfl
def aw2{l:M KV}(h:tX l){r:KV}(a:r∈l):dr kT r.1 l=J r.2:=by
 induction l with
 |nil=>cases a
 |cons q l c=>
  have b:=xf.1 h;rw[afI];rcases iG.1 a with rfl|a
  rw[aF rfl];have:=b.1 r a;rw[aU (λe=>by rw[e]at this;unfold tW at this;omega)];exact c b.2 a
theorem afU{bB:M Dc}{n:U}{a:U}(c:a<n){d:Dc}(hd:H bB a (0,O)=d)(b:L):dr kT ((a:L),b) (gi bB n)=if w7 (X d.2 []) b=W then J (iF d (G b))else O:=by split;rename_i h;obtain⟨k,rfl,hk⟩:=w8.1 h;refine aw2 (r:=(((a:L),(k:L)),iF d k)) (Ng bB n) ?_;grind [gi,mT];grind [Nf,gi,mT,w8]
def afV{bB:M Dc}{n:U}{a b:L}(h:a<0\/(n:L)<=a):dr kT (a,b) (gi bB n)=O:=Nf λq c e=>by grind [UT]
def UU(x:L):∀l:M L,np (.int .i64) x l=decide (x∈l)
 |[]=>rfl|r::l=>by
  show(match(x==r)with|true=>W|false=>np (.int .i64) x l)=_
  rw[UU x l];grind
def afW(x z:L):∀l:M L,z∈oi (.int .i64) x l↔z=x\/z∈l
 |[]=>by show z∈[x]↔_;simp|r::l=>by
  have e:oi (.int .i64) x (r::l)=if x=r then x::l else r::oi (.int .i64) x l:=by
   show(match(x==r)with|true=>x::l|false=>r::oi (.int .i64) x l)=_
   grind
  rw[e];split;grind;rw[iG,afW x z l,iG];grind
def mU(a:M dx)(i:U):M L:=(a.take i).foldl (λl s=>oi (.int .i64) s.1 l) []
def afX{a:M dx}{i:U}(h:i<Y a):mU a (i+1)=oi (.int .i64) a[i].1 (mU a i):=by unfold mU;rw[iU h,List.foldl_append];rfl
def UV(a:M dx)(z:L):∀i,i<=Y a->(z∈mU a i↔ ∃j,∃h:j<i,∃b:j<Y a,(a[j]).1=z)|0,_=>by simp[mU]|i+1,c=>by rw[afX (show i<Y a by omega),afW,UV a z i (by omega)];grind
def afY{p:dy}{i:U}(hi:i<Y (X p.2.1 []))(f:Y (X p.2.1 [])<=1048576):bR (Gh p (i:L)) 0=J (if np (.int .i64) (X p.2.1 [])[i].1 (mU (X p.2.1 []) i)=W then .inl 5 else .inr ()):=by
 have g:X (ga (bq 0 (i:L)) p.2.1) []=(X p.2.1 []).take i:=by
  cases p.2.1 with|none=>simp|some x=>exact gP x 0 i
 have b:Y ((X p.2.1 []).take i)=i:=by simp;omega
 have:=wX (F:=Gh p (i:L)) i (λj=>(j:L)) (λj=>(H ((X p.2.1 []).take i) j sgZ).1==(X p.2.1 [])[i].1) 5 () (λj a=>by
  have k:=di (i:=j) (by omega)
  simp_all [Gh,aj,bS,aN,ag,al,ax,aH,aA]) (by
  grind [Gh,ah]) (cM (cC (by omega)))
 rw[show(0:L)=((0:U):L)from rfl,this,UU];congr 1;have c:=UV (X p.2.1 []) (X p.2.1 [])[i].1 i (by omega);by_cases h:(X p.2.1 [])[i].1∈mU (X p.2.1 []) i;rw[iV h,aF,aF rfl];let⟨j,a,d,e⟩:=c.1 h;rw[List.any_eq_true];refine⟨j,by simpa using a,?_⟩;grind;grind
def Nh(bB:M Dc)(s:dx):Prop:=∃k d,s.2.1=((k:U):L)/\bB[k]?=J d/\w7 (X d.2 []) s.2.2.1=W/\0<=s.2.2.2.1.1/\s.2.2.2.1.1<s.2.2.2.1.2/\s.2.2.2.1.2<=bL (X (iF d (G s.2.2.1)) [])/\gR (X s.2.2.2.2.2.1 [])=0/\(s.2.2.2.2.1=3->yZ (eT (X (iF d (G s.2.2.1)) []) s.2.2.2.1.1 s.2.2.2.1.2).1 s.2.2.2.2.2.1=J W)
def kH(d:Dc):Prop:=fY d.1/\Y (X d.2 [])<=131075/\Y (ep (X d.2 []))<=65536
def afZ{fmt:L}(a:fY fmt){raw:M ao}(b:Y raw<=67108864):aQ (λr=>bf (X r.1 [])<=2*Y raw+2) (ja fmt raw):=by
 rcases a with rfl|rfl|rfl
 grind [MX,aQ.ret];grind [aeK,aQ.ret];grind [aef,aQ.ret]
def af0{d:Dc}(h:∀q∈X d.2 [],Y q.2.2<=67108864)(part:L):aQ (λr=>bf (X r.1 [])<=134217730) (mP d part):=by
 unfold mP tj cG aN au ag al;rw[aB];have c:bf (X (O:Q (M aK)) [])<=134217730:=by simp[bf]
 refine aQ.ite (λ_=>aQ.ret c) λe=>aQ.ite (λ_=>aQ.ite (λ_=>aQ.ret c) λ_=>aQ.ite (λf=>aQ.call λr a=>aQ.ret ?_) λ_=>aQ.nil) λ_=>aQ.nil;have e:fY d.1:=by grind [wU]
 simp only[eW,ef]at f;have b:G part<Y (X d.2 []):=by omega
 rw[iS b]at a;have g:=h _ (eE b);have:=afZ e g r a;grind
def kH.raw{d:Dc}(h:kH d):∀q∈X d.2 [],Y q.2.2<=67108864:=λq a=>by have:=M3 a;have:=h.2.2;omega
theorem Cu{d:Dc}(h:kH d)(k:U):bf (X (iF d k) [])<=134217730/\∃e,mP d (k:L)=J (iF d k,e)/\ze d (k:L)=J (iF d k,e):=by
 let⟨f,e,a,b,g⟩:=Ha (d:=d) h.raw (k:L);have c:iF d k=f:=by unfold iF;rw[a]
 rw[c];exact⟨af0 h.raw (k:L) _ a,e,a,b⟩
def UW{p:dy}(r:qL p)(C:∀d∈p.1.getD [],kH d)(D:1<=p.2.2/\p.2.2<=1073741824){i:U}(hi:i<(p.2.1.getD []).length):∃e,Gd (i:L) (mU (p.2.1.getD []) i) (aY (p.1.getD []),aY (p.2.1.getD []),p.2.2,gi (p.1.getD []) (p.1.getD []).length)=J e/\tF p (i:L)=J e/\(e=0->Nh (p.1.getD []) (p.2.1.getD [])[i]):=by
 have E:=r.ns;have t:=r.tg _ (eE hi);have l:=afY hi r.ns;have u:=dq hi;have F:aaX a7 (p.2.2-1)=p.2.2-1:=eY (by omega);have a:∀f:Q (M aK),wu (i:L) (aY (p.1.getD []),aY (p.2.1.getD []),p.2.2,gi (p.1.getD []) (p.1.getD []).length)=J ((dr kT ((p.2.1.getD [])[i].2.1,(p.2.1.getD [])[i].2.2.1) (gi (p.1.getD []) (p.1.getD []).length)).getD O):=λf=>by unfold wu aN au al;dsimp-proj only[aj];simp_all
 have a:=a O;unfold Gd tF ww aW cG aN cw aJ ag al bg;dsimp-proj only[aj];simp only[ch,u,bH,cS hi,l,a,F];generalize hS:(p.2.1.getD [])[i]=s at *;generalize G:np (.int .i64) s.1 (mU (p.2.1.getD []) i)=H;by_cases c:s.2.1<0;rw[afV (.inl c)];simp_all;rw[aU (show ¬decide (s.2.1<0)=W by simpa using c)];by_cases m:s.2.1>=((p.1.getD []).length:L);rw[afV (.inr m)];simp_all;rw[aU (show ¬decide (s.2.1>=ah (p.1.getD []))=W by simp;omega)];let⟨k,hk⟩:=pU (show 0<=s.2.1 by omega);have g:k<(p.1.getD []).length:=by omega
 have j:=C _ (eE g);have w:(p.1.getD []).getD s.2.1.toNat ((0:L),O)=(p.1.getD [])[k]:=by grind
 have x:decide ((0:L)<=s.2.1/\s.2.1<ah (p.1.getD []))=W:=by simp_all
 have o:=afU (n:=(p.1.getD []).length) g (d:=(p.1.getD [])[k]) (iS g) s.2.2.1;rw[<-hk]at o;rw[o];simp only[w,x,bH];generalize K:(p.1.getD [])[k]=d at *;have N:=j.2.1;rw[afT (by omega),aB];cases A:w7 (d.2.getD []) s.2.2.1 with
 |false=>simp|true=>
  let⟨b,P,_⟩:=w8.1 A;let⟨R,e,c1,c2⟩:=Cu j b;rw[P,fB,c1];simp only[bH,HD,jI,bM,ca,aB,fk];rw[G2 (by omega),mg (by omega)];simp only[aB];by_cases h1:s.1<1;simp_all;simp only[ip h1,bM,ca];by_cases h2:s.1>p.2.2-1;simp only[iV h2,iV (show s.1>=p.2.2 by omega),bH];grind;simp only[ip h2,ip (show ¬s.1>=p.2.2 by omega),bM,ca];by_cases h3:s.2.2.2.1.1<0;simp_all;simp only[ip h3,bM,ca];by_cases S:s.2.2.2.1.2<=s.2.2.2.1.1;simp_all;simp only[ip S,bM,ca];by_cases T:s.2.2.2.1.2>(bL ((iF d b).getD []):L);simp_all;simp only[ip T,bM,ca];rw[aF (show decide ((0:L)<=0/\(0:L)<=(i:L)/\(i:L)<=ah (p.2.1.getD []))=W by simp;omega)];cases H with
  |true=>simp_all|false=>
   simp only[bM,ca,aB,pr];rw[MV (by omega),jF (by omega)];simp only[aB];have V:=kY ((iF d b).getD []) s.2.2.2.1.1 s.2.2.2.1.2;have X:=j.2.2;let⟨Y,d1,d2,d3⟩:=afS (d:=d) (by omega) (by omega) (src:=(eT ((iF d b).getD []) s.2.2.2.1.1 s.2.2.2.1.2).1) (by omega) (s:=s) t (v:=(aY (p.1.getD []),aY (p.2.1.getD []),p.2.2,gi (p.1.getD []) (p.1.getD []).length)) hk (by simp_all);have B:Y=0->Nh (p.1.getD []) s:=λZ=>⟨k,d,hk,by grind,A,by omega,by omega,by grind,(d3 Z).1,λh=>by grind⟩;rw[d1,d2];by_cases y:(i:L)>0;have z:aaX a7 ((i:L)-1)=((i-1:U):L):=(by grind [bV]);simp only[iV y,bH,z];have q:i-1<(p.2.1.getD []).length:=(by omega);rw[aF (dq q),aF (dq q),aw0];have hB:∃bb,wD s ((p.2.1.getD []).getD (((i-1:U):L)).toNat (0,0,0,(0,0),0,O,[],0,I))=J bb:=(by grind [wD]);let⟨bb,hB⟩:=hB;rw[hB];cases bb with|false=>simp_all|true=>simp_all
   simp_all
def vD(d:Dc):L:=X (tw d) 0
def Hj{d:Dc}(h1:Y (X d.2 [])<=1048576)(h2:Y (ep (X d.2 []))<=1073741824):tw d=J (vD d)/\zc d=J (vD d)/\(vD d=0->kH d):=by
 let⟨e,v1,a,b⟩:=aeW (d:=d) (by omega) h2;have:vD d=e:=by unfold vD;rw[v1];rfl
 rw[this];exact⟨v1,a,b⟩
def oE(p:dy)(i:U):L:=X (tF p (i:L)) 0
def jb(e:L):Q L:=if e=0 then O else J e
def dR(p:dy):L:=if(Y (X p.1 []))>16\/Y (X p.2.1 [])>512 then 3 else
 match fX (λi=>jb (vD (H (X p.1 []) i (0,O)))) 0 (Y (X p.1 [])) with
 |some e=>e|none=>if p.2.2<1\/p.2.2>1073741824 then 1 else
  match fX (λi=>jb (oE p i)) 0 (Y (X p.2.1 [])) with|some e=>e|none=>0
theorem Ni{e r:L}(h:jb e=J r):r=e/\r≠0:=by grind [jb]
theorem Nj{e:L}(h:jb e=O):e=0:=by simp_all [jb]
structure Nk(p:dy):Prop where
 nd:Y (X p.1 [])<=16
 ns:Y (X p.2.1 [])<=512
 bB:∀d∈X p.1 [],kH d
 nx:1<=p.2.2/\p.2.2<=1073741824
 sg:∀s∈X p.2.1 [],Nh (X p.1 []) s
set_option maxHeartbeats 1000000 in
theorem kI{p:dy}(c:qL p):wE p=J (dR p)/\LV p=J (if dR p=0 then(0,W,aY (X p.1 []),aY (X p.2.1 []),p.2.2,gi (X p.1 []) (Y (X p.1 [])))else(dR p,I,O,O,0,[]))/\(dR p=0->Nk p):=by
 have y:=c.nd;have z:=c.ns;unfold wE LV aW ag al;by_cases g:Y (X p.1 [])>16\/Y (X p.2.1 [])>512;grind [dR,ah];have A:(decide (ah (X p.1 [])>16)||decide (ah (X p.2.1 [])>512))=I:=by simp;omega
 rw[A];simp only[bM,ca];have t:∀i,i<Y (X p.1 [])->tw (H (X p.1 []) i (0,O))=J (vD (H (X p.1 []) i (0,O)))/\zc (H (X p.1 []) i (0,O))=J (vD (H (X p.1 []) i (0,O)))/\(vD (H (X p.1 []) i (0,O))=0->kH (H (X p.1 []) i (0,O))):=λi a=>by rw[iS a];have:=c.parts _ (eE a);exact Hj this.1 this.2
 have u:=zE (F:=L7 p) (Y (X p.1 [])) (λi=>(i:L)) (λi=>jb (vD (H (X p.1 []) i (0,O)))) () (λi a _=>by
  have b:=di (i:=i) (by omega)
  unfold L7 bS aN ag al ax aH aA
  rw[dX a,aF (dq a),b,fB,(t i a).1,aB]
  grind [jb]) (λ_=>by
  unfold L7 bS aN ag al ax aH aA
  rw[gm]) (cM (cC (by omega)))
 have k:=zE (F:=LS p) (Y (X p.1 [])) (λi=>(i:L)) (λi=>(jb (vD (H (X p.1 []) i (0,O)))).map λr=>((),r)) () (λi a _=>by
  have b:=di (i:=i) (by omega)
  unfold LS bS aN ag al ax aH aA
  rw[dX a,aF (dq a),b,fB,(t i a).2.1,aB]
  grind [jb]) (λ_=>by
  unfold LS bS aN ag al ax aH aA
  rw[gm]) (cM (cC (by omega)))
 rw[Hf]at k;rw[show((0:U):L)=0 from rfl]at u k;rw[u,k];simp only[aB];unfold dR;rw[aU g];cases v:fX (λi=>jb (vD (H (X p.1 []) i (0,O)))) 0 (Y (X p.1 [])) with
 |some e=>let⟨j,_,_,l⟩:=tN v;have B:=(Ni l).2;simp_all
 |none=>
  have m:∀d∈X p.1 [],kH d:=λd hd=>by grind [qV,Nj,Hg]
  simp only[Option.map_none,pr];by_cases n:p.2.2<1\/p.2.2>1073741824;grind;have o:(decide (p.2.2<1)||decide (p.2.2>1073741824))=I:=by simp;omega
  rw[aU n];simp only[o,bM,ca];have E:=λi(a:i<Y (X p.2.1 []))=>UW c m (by omega) a;have w:∀i(a:i<Y (X p.2.1 [])),Gd (i:L) (mU (X p.2.1 []) i) (aY (X p.1 []),aY (X p.2.1 []),p.2.2,gi (X p.1 []) (Y (X p.1 [])))=J (oE p i)/\tF p (i:L)=J (oE p i)/\(oE p i=0->Nh (X p.1 []) (X p.2.1 [])[i]):=λi a=>by grind [oE]
  have h:=zE (F:=Ma p) (Y (X p.2.1 [])) (λi=>(i:L)) (λi=>jb (oE p i)) () (λi a _=>by
   have b:=di (i:=i) (by omega)
   unfold Ma aJ ag al ax aH aA
   rw[dX a,(w i a).2.1,aB,b]
   grind [jb]) (λ_=>by
   unfold Ma aJ ag al ax aH aA
   rw[gm]) (cM (cC (by omega)))
  rw[show((0:U):L)=0 from rfl]at h;have C:bR (Gf p) (0,aY (X p.1 []),aY (X p.2.1 []),p.2.2,[])=J (aY (X p.1 []),aY (X p.2.1 []),p.2.2,gi (X p.1 []) (Y (X p.1 []))):=by rw[show((0,aY (X p.1 []),aY (X p.2.1 []),p.2.2,[]):L×Q (M Dc)×Q (M dx)×L×M KV)=(((0:U):L),aY (X p.1 []),aY (X p.2.1 []),p.2.2,gi (X p.1 []) 0)from rfl];refine eZ (f:=Gf p) (Y (X p.1 [])) (λi=>((i:L),aY (X p.1 []),aY (X p.2.1 []),p.2.2,gi (X p.1 []) i)) (λi a=>?_) ?_ (cM (cC (by omega)));have b:=di (i:=i) (by omega);have hd:=m _ (eE a);have D:=hd.2.1;unfold Gf bS aN al ax aH aA;simp only[];rw[dX a,aF (dq a),fB,awT (by rw[iS a];omega) (by rw[iS a];exact hd.raw),aB];rw[awV (X p.1 []) i (aY (X p.1 []),aY (X p.2.1 []),p.2.2),aB,b];unfold Gf bS aN al ax aH aA;simp_all
  have x:=zE (F:=LU (aY (X p.1 []),aY (X p.2.1 []),p.2.2,gi (X p.1 []) (Y (X p.1 [])))) (Y (X p.2.1 [])) (λi=>(mU (X p.2.1 []) i,(i:L))) (λi=>(jb (oE p i)).map λr=>((),r)) () (λi a _=>by
   have b:=di (i:=i) (by omega)
   unfold LU bS aN ag al ax aH aA
   simp only[ch]
   rw[dX a,aF (dq a),(w i a).1,aB,b,cS a,afX a]
   grind [jb]) (λ_=>by
   unfold LU bS aN ag al ax aH aA
   simp_all) (cM (cC (by omega)))
  rw[Hf,show((mU (X p.2.1 []) 0,((0:U):L)):M L×L)=([],0)from rfl]at x;rw[h,awZ c];simp only[aB];rw[C,aB,x,aB];cases q:fX (λi=>jb (oE p i)) 0 (Y (X p.2.1 [])) with
  |some e=>let⟨j,_,_,l⟩:=tN q;have B:=(Ni l).2;simp_all
  |none=>refine⟨rfl,rfl,λ_=>⟨by omega,by omega,m,by omega,λs v=>?_⟩⟩;grind [qV,Nj,Hg]
def hO{n:L}(b:0<n)(h1:n<=1099511627776)(o:Q (M L)){N:U}(f:N<=1152921504606846976):∃k:U,(k:L)<n/\iP n (o,(N:L))=J ((k:L),((N+1:U):L)):=by unfold iP RG aN cw au aJ al ax bg;have c:=di (i:=N) (by omega);simp only[];rw[aF (by simp<;>omega),aF (by simp<;>omega)];generalize (if decide ((N:L)<ah (X o []))=W then(H (X o [])) (G ((N:L))) 0 else 0)=x;have d:x.tmod n<n:=Int.tmod_lt_of_pos x b;have e: -n<x.tmod n:=Int.lt_tmod_of_pos x b;simp only[aB,c];by_cases a:x.tmod n<0;rw[aF (by simpa using a),eY (by omega)];exact⟨G (x.tmod n+n),by omega,by grind⟩;rw[aU (by simpa using a)];exact⟨G (x.tmod n),by omega,by grind⟩
def UX(nd:U)(s:dx):Prop:=(∃k:U,s.2.1=(k:L)/\k<nd)/\bf (X s.2.2.2.2.2.1 [])<=34304
structure dH(p:dy):Prop where
 nd:Y (X p.1 [])<=16
 bB:∀d∈X p.1 [],kH d/\vD d=0
 ns:Y (X p.2.1 [])<=512
 sg:∀s∈X p.2.1 [],UX (Y (X p.1 [])) s
theorem dH.b{p:dy}(h:dH p):qL p:=⟨λd hd=>by have:=(h.bB d hd).1.2;grind,λs a=>by have:=(h.sg s a).2;omega,by have:=h.nd;omega,by have:=h.ns;omega⟩
abbrev pK:=M Dc×Q (M dx)×L
def BI(D:M Dc)(B:U)(b:pK):Prop:=b.1=D/\Y (X b.2.1 [])<=B/\∀s∈X b.2.1 [],UX (Y D) s
def aw3{D:M Dc}{i j:U}(hi:i<Y D){x:pK}{r1:Q (M L)}{s2:L×pK}{r2:Q (M (L×L))}(e:Y (X r2 [])<=1025){B:U}(hB:B<=4294967296){y:pK}(hy:BI D B y):∃r,bR (yW ((i:L),x) r1 s2 r2) (0,y)=J r/\BI D (B+1025) r:=by
 refine gl (f:=yW ((i:L),x) r1 s2 r2) (λz=>∃k:U,z.1=(k:L)/\k<=Y (X r2 [])/\BI D (B+k) z.2) (λz=>Y (X r2 [])-G z.1) (BI D (B+1025)) (λz h=>?_) (0,y) ⟨0,rfl,fZ _,hy⟩ (cM (cC (by simp;omega)));let⟨c,z⟩:=z;obtain⟨k,rfl,hk,h1,h2,h3⟩:=h;simp only[]at h1 h2 h3;unfold yW aN au aJ al ax aH aA bu;simp only[];by_cases a:k<Y (X r2 []);have d:=di (i:=k) (by omega);rw[dX a,aF (by rw[dq a];simp;omega),d];refine⟨⟨k+1,rfl,a,h1,by simp;omega,λs b=>?_⟩,by simp;omega⟩;rw[fk]at b;rcases mm.1 b with b|b
 exact h3 s b;rw[js]at b;subst b;exact⟨⟨i,rfl,hi⟩,by simp[bf]⟩;obtain rfl:k=Y (X r2 []):=by omega
 rw[gm];exact⟨h1,by omega,h3⟩
def aw4{bB:Q (M Dc)}{a:Q (M sc)}(n:w6 a)(o:∀d∈X bB [],kH d){i:U}(hi:i<Y (X bB [])){x:pK}{r1:Q (M L)}(p:Y (X r1 [])<=131075){B:U}(hB:B<=3221225472){y:pK}(hy:BI (X bB []) B y):∃r,bR (yX bB a ((i:L),x) r1) (0,y)=J r/\BI (X bB []) (B+134351875) r:=by
 refine gl (f:=yX bB a ((i:L),x) r1) (λz=>∃k:U,z.1=(k:L)/\k<=Y (X r1 [])/\BI (X bB []) (B+1025*k) z.2) (λz=>Y (X r1 [])-G z.1) (BI (X bB []) (B+134351875)) (λz h=>?_) (0,y) ⟨0,rfl,fZ _,hy⟩ (cM (cC (by simp;omega)));let⟨c,z⟩:=z;obtain⟨k,rfl,hk,g⟩:=h;unfold yX bS aW aN al ax aH aA;simp only[];by_cases b:k<Y (X r1 []);have q:=di (i:=k) (by omega);have hd:=o _ (eE hi);rw[dX b,aF (dq b),cS hi,q];let⟨f,e,m,_,_⟩:=Ha (d:=(X bB [])[i]) hd.raw (H (X r1 []) (G ((k:L))) 0);have l:=af0 hd.raw _ _ m;simp only[]at l;let⟨rg,s,t⟩:=afs n (f:=f) (by omega);let⟨r,u,v⟩:=aw3 (D:=X bB []) (i:=i) (j:=k) hi (x:=x) (r1:=r1) (s2:=((k:L),z)) t (B:=B+1025*k) (by omega) g;rw[m,aB,s,aB,u,aB];refine⟨⟨k+1,rfl,b,?_⟩,by simp;omega⟩;grind;obtain rfl:k=Y (X r1 []):=by omega
 rw[gm];exact⟨g.1,by have:=g.2.1;grind,g.2.2⟩
def af1{bB:Q (M Dc)}{a:Q (M sc)}(w:w6 a)(t:∀d∈X bB [],Y (X d.2 [])<=1048576/\Y (ep (X d.2 []))<=1073741824):∃p e,wm bB a=J (p,e)/\(e=0->dH p):=by
 unfold wm aW au aJ al;by_cases G:Y (X bB [])>16;rw[aF (by simp;omega)];grind;rw[aU (by simp;omega)];have u:=zE (F:=BN bB) (Y (X bB [])) (λi=>(i:L)) (λi=>(jb (vD ((X bB []).getD i (0,O)))).map λe=>(e,((O,O,0):dy))) () (λi g _=>by
  have o:=di (i:=i) (by omega)
  have q:=t _ (eE g)
  have hv:=(Hj (d:=(X bB []).getD i (0,O)) (by grind) (by grind)).1
  unfold BN bS aN ag al ax aH aA
  rw[dX g,aF (dq g),o,fB,hv,aB]
  grind [jb]) (λ_=>by
  unfold BN bS aN ag al ax aH aA
  rw[gm]) (cM (cC (by omega)))
 rw[Hf,show((0:U):L)=0 from rfl]at u;rw[u,aB];cases m:fX (λi=>jb (vD ((X bB []).getD i (0,O)))) 0 (Y (X bB [])) with
 |some e=>let⟨j,_,_,y⟩:=tN m;exact⟨(O,O,0),e,rfl,λh=>cJ h (Ni y).2⟩
 |none=>
  have l:∀d∈X bB [],kH d/\vD d=0:=λd hd=>by obtain⟨i,g,rfl⟩:=qV hd;have A:=Nj (Hg m i g);rw[iS g]at A;have q:=t _ (eE g);simp_all [Hj]
  simp only[Option.map_none,pr];rw[aF (by simp;omega)];let⟨r,h1,h2⟩:=gl (f:=EY bB a) (λz=>∃k:U,z.1=(k:L)/\k<=Y (X bB [])/\BI (X bB []) (134351875*k) z.2) (λz=>Y (X bB [])-z.1.toNat) (BI (X bB []) 2149630000) (λz h=>by let⟨c,z⟩:=z;obtain⟨k,rfl,hk,n⟩:=h;unfold EY bS aW aN al ax aH aA;simp only[];by_cases b:k<Y (X bB []);have o:=di (i:=k) (by omega);have hd:=(l _ (eE b)).1;have C:=Co (X ((X bB [])[k]).2 []) (Y (X ((X bB [])[k]).2 []));have D:=hd.2.1;rw[dX b,aF (dq b),cS b,o,M2,Cp (by omega),aB];let⟨r,E,H⟩:=aw4 w (λd hd=>(l d hd).1) b (x:=z) (r1:=aY ((km (X ((X bB [])[k]).2 []) (Y (X ((X bB [])[k]).2 []))).map fQ)) (by rw[ch,jS];omega) (B:=134351875*k) (by omega) n;rw[E,aB];refine⟨⟨k+1,rfl,b,?_⟩,by simp;omega⟩;grind;obtain rfl:k=Y (X bB []):=(by omega);rw[gm];exact⟨n.1,by have:=n.2.1;grind,n.2.2⟩) (0,[]++X bB [],O,1) ⟨0,rfl,fZ _,by simp,by simp,λs m=>by simp at m⟩ (cM (cC (by simp;omega)));rw[h1,aB];let⟨h3,K,N⟩:=h2;by_cases v:Y (X r.2.1 [])>512;rw[aF (by simp;omega)];grind;rw[aU (by simp;omega)];refine⟨(J r.1,r.2),0,by simp,λ_=>⟨?_,?_,?_,?_⟩⟩;grind;grind;simp only[];omega;grind
def aw5(tags:ay)(o:Q (M L)){N:U}(b:N<=1152921504606846976):∃f,Mb tags (o,(N:L))=J (f,((N+1:U):L))/\bf (X f [])<=100:=by
 unfold Mb rY au ag bg;dsimp-proj only[aj];simp only[aB];have key:∀n:L,n=6\/n=8->∃k:U,k<8/\iP n (o,(N:L))=J ((k:L),((N+1:U):L)):=λn a=>by let⟨k,h1,h2⟩:=hO (n:=n) (by omega) (by omega) o b;grind
 have a:∀(l:M (Q (M aK))),Y l=8->((if(!tags)=W then aaX a7 (ah l-2)else ah l)=6\/(if(!tags)=W then aaX a7 (ah l-2)else ah l)=8):=λl c=>by rw[ef,c];cases tags;exact .inl rfl;exact .inr rfl
 let⟨k,h1,h2⟩:=key _ (a [J [(1,[83,97,118,101,46],0)],J [(1,[114,101,100,32,99,97,114,32,50,50,33],0)],J [(1,[79,112,101,110,32],0),(5,[110],0),(1,[32,110,111,119,46],0)],J [(1,[97,32,82,101,100,32,99,97,114,46],0)],J [(1,[83,97,118,101,46],0)],J [(1,[120],0)],J [(2,[98],1),(1,[83,97,118,101,46],0),(3,[98],1)],J [(1,[79,112,101,110,32],0),(2,[98],1),(1,[99,97,114,115],0),(3,[98],1),(1,[46],0),(4,[98,114],2)]] rfl);rw[h2,aB];have hk:k=0\/k=1\/k=2\/k=3\/k=4\/k=5\/k=6\/k=7:=by omega
 rcases hk with rfl|rfl|rfl|rfl|rfl|rfl|rfl|rfl<;>exact⟨_,rfl,of_decide_eq_true rfl⟩
def aw6{fmt:L}{f:M aK}(h:bf f<=100):Y (mj fmt f).1<=500:=by grind [mj,Hb]
def UY{k:U}(h:k<3):aaX a7 (1+(k:L))=((k+1:U):L)/\fY ((k+1:U):L):=by refine⟨by grind [bV],?_⟩;unfold fY;omega
def aw7{s:Q (M L)×L}{k0:U}(d:k0<3){z:L}{i N:U}(hi:i<3)(q:N<=1125899906842624):∃(r:M ao)(b:U),bR (Mc s ((k0:L),z)) ([],(i:L),(N:L))=J (r,(b:L))/\Y r<=1503/\b<=N+3:=by
 let⟨r,h1,b,h2,h3,t⟩:=gl (f:=Mc s ((k0:L),z)) (λy=>∃k a:U,y.2.1=(k:L)-1/\k<=3/\Y y.1<=501*(3-k)/\y.2.2=(a:L)/\a<=N+(3-k)) (λy=>G (y.2.1+1)) (λr=>∃b:U,r.2=(b:L)/\Y r.1<=1503/\b<=N+3) (λy h=>by
  let⟨acc,c,m⟩:=y
  obtain⟨k,a,rfl,hk,e,rfl,u⟩:=h
  simp only[]at e
  let⟨g,j⟩:=UY d
  unfold Mc au aJ ag bg aH aA c8 bu
  simp only[]
  by_cases l:0<k
  have hd:aaX a7 ((k:L)-1-1)=((k-1:U):L)-1:=by grind [bV]
  let⟨f,n,o⟩:=aw5 (((k0+1:U):L)==1) s.1 (N:=a) (by omega)
  have v:=aw6 (fmt:=((k0+1:U):L)) o
  rw[aF (by simp;omega),g,hd,n,aB]
  simp only[]
  rw[ae0 j (by omega),aB]
  have p:((!!decide (acc=[])||decide (Y acc+1<=1152921504606846976))&&decide (Y (if(!decide (acc=[]))=W then acc++[32]else acc)+Y (mj ((k0+1:U):L) (X f [])).1<=1152921504606846976))=W:=by grind [Decidable.decide]
  rw[aF p]
  refine⟨⟨k-1,a+1,rfl,by omega,?_,rfl,by omega⟩,by simp;omega⟩
  grind
  grind) ([],(i:L),(N:L)) ⟨i+1,N,by simp,by omega,by simp,rfl,by omega⟩ (cM (cC (by simp;omega)))
 grind
def aw8{k:U}(h:k<=3):Y (Aa k)<=2:=by grind [Aa]
def aw9{s:Q (M L)×L}{k0:U}(e:k0<3){z:L}{i N:U}(hi:i<=3)(w:N<=1125899906842000){a:M ao}(j:Y a<=10):∃(r:M ao)(d:U),bR (Me s ((k0:L),z)) (a,(i:L),(N:L))=J (r,(d:L))/\Y r<=6000/\d<=N+12:=by
 let⟨r,h1,d,h2,h3,A⟩:=gl (f:=Me s ((k0:L),z)) (λy=>∃k b:U,y.2.1=(k:L)/\k<=3/\Y y.1<=10+1600*(3-k)/\y.2.2=(b:L)/\b<=N+4*(3-k)) (λy=>y.2.1.toNat) (λr=>∃d:U,r.2=(d:L)/\Y r.1<=6000/\d<=N+12) (λy h=>by
  let⟨acc,c,m⟩:=y
  obtain⟨k,b,rfl,hk,j,rfl,B⟩:=h
  simp only[]at j
  let⟨o,C⟩:=UY e
  unfold Me aW au aJ ag bg aH aA c8 bu iO n3Z;dsimp-proj only[aj]
  simp only[]
  by_cases p:0<k
  have hd:aaX a7 ((k:L)-1)=((k-1:U):L):=by grind [bV]
  let⟨q,D,t⟩:=hO (n:=3) (by omega) (by omega) s.1 (N:=b) (by omega)
  let⟨r,d,u,E,F⟩:=aw7 (s:=s) e (z:=z) (i:=q) (N:=b+1) (by omega) (by omega)
  have v:=aw8 hk
  rw[aF (by simp;omega),t,aB,u,aB,o,hd]
  simp only[]
  have g:k0=0\/k0=1\/k0=2:=by omega
  have fin:∀x:M ao,Y x<=1520->((∃k' l:U,((k-1:U):L)=(k':L)/\k'<=3/\Y (acc++x)<=10+1600*(3-k')/\((d:U):L)=(l:L)/\l<=N+4*(3-k'))/\((k-1:U):L).toNat<((k:L)).toNat):=λx G=>by refine⟨⟨k-1,d,rfl,by omega,?_,rfl,by omega⟩,by simp;omega⟩;grind
  rcases g with rfl|rfl|rfl
  rw[aF (show(((0+1:U):L)==1)=W from rfl),aF (by simp;omega)]
  exact fin _ (by simp;omega)
  rw[aU (show ¬(((1+1:U):L)==1)=W by decide),aF (show(((1+1:U):L)==2)=W from rfl),Uk k (by omega),aB,aF (by simp;omega)]
  exact fin _ (by simp;omega)
  grind
  grind) (a,(i:L),(N:L)) ⟨i,N,rfl,hi,by simp only[];omega,rfl,by omega⟩ (cM (cC (by simp;omega)))
 grind
def zK(d:Dc):Prop:=Y (X d.2 [])<=1048576/\Y (ep (X d.2 []))<=1073741824
def af2(fmt:L)(data:M ao):∃d at' e,qx fmt data=J (d,at',e)/\zK d:=by
 let⟨d,at',e,h1,_,h3⟩:=aeV fmt data;refine⟨d,at',e,h1,?_⟩;by_cases a:e=0;let⟨_,_,b,c,f⟩:=h3 a;exact⟨by omega,by rw[b];omega⟩;have:aQ (λr:Dc×L×L=>r.2.2≠0->zK r.1) (qx fmt data):=by have g:zK (0,O):=⟨by simp,by simp[ep]⟩;grind [qx,aQ.call,aQ.ret]
 exact this _ h1 a
def axa(o:Q (M L)){N:U}(u:N<=1125899906841000):∃(d:Dc)(a:U),Mf 3 (o,(N:L))=J (d,(a:L))/\zK d/\a<=N+14:=by
 unfold Mf;let⟨k,h1,h2⟩:=hO (n:=3) (by omega) (by omega) o (N:=N) (by omega);let⟨g,v⟩:=UY (k:=k) (by omega);have b:aaX a7 (((k+1:U):L)-1)=(k:L):=by grind [bV]
 rw[h2,aB,g,b,aF (by grind [bX,iJ])];let⟨i,h3,h⟩:=hO (n:=aaX a7 (3+1)) (by decide) (by decide) o (N:=N+1) (by omega);have h3:(i:L)<4:=h3;rw[h,aB];have c:k=0\/k=1\/k=2:=by omega
 have j:Y (H ([[60,104,116,109,108,62],[35,32,99,10],[116,101,120,116]]:M (M ao)) (0+G ((k:L))) [])<=10:=by rcases c with rfl|rfl|rfl<;>decide
 let⟨r,a,l,_,w⟩:=aw9 (s:=(o,(N:L))) (k0:=k) (by omega) (z:=((N+1:U):L)) (i:=i) (N:=N+1+1) (by omega) (by omega) j;rw[l,aB];let⟨d,at',e,m,x⟩:=af2 ((k+1:U):L) r;rw[m,aB];by_cases f:(e !=0)=W;rw[aF f];let⟨y,p,A,q,t⟩:=af2 1 [60,112,62,83,97,118,101,46,32,83,97,118,101,46,60,47,112,62,60,112,62,114,101,100,32,99,97,114,32,50,50,33,60,47,112,62];rw[q,aB];grind;rw[aU f];grind
def af3(o:Q (M L)){N:U}(s:N<=1000):∃(l:Q (M Dc))(b:U),Mg (o,(N:L))=J (l,(b:L))/\(∀d∈X l [],zK d)/\b<=N+100:=by
 unfold Mg aW au;let⟨k,h1,h2⟩:=hO (n:=3) (by omega) (by omega) o (N:=N) (by omega);rw[h2,aB];let⟨r,t,b,u,v,w⟩:=gl (f:=RL (o,(N:L))) (λy=>∃i a:U,y.2.1=(i:L)-1/\i<=3/\y.2.2=(a:L)/\a<=N+1+14*(3-i)/\Y (X y.1 [])<=3-i/\∀d∈X y.1 [],zK d) (λy=>G (y.2.1+1)) (λr=>∃b:U,r.2=(b:L)/\(∀d∈X r.1 [],zK d)/\b<=N+100) (λy h=>by
  let⟨acc,c,m⟩:=y
  obtain⟨i,a,rfl,x,rfl,z,e,hd⟩:=h
  simp only[]at e hd
  unfold RL au aJ al bg aH aA bu
  simp only[]
  by_cases g:0<i
  have j:aaX a7 ((i:L)-1-1)=((i-1:U):L)-1:=by grind [bV]
  let⟨d,b,p,A,B⟩:=axa o (N:=a) (by omega)
  rw[aF (by simp;omega),p,aB,j,aF (by simp;omega)]
  refine⟨⟨i-1,b,rfl,by omega,rfl,by omega,by simp;omega,λC q=>?_⟩,by simp;omega⟩
  grind
  grind) (O,(k:L),((N+1:U):L)) ⟨k+1,N+1,by simp,by omega,rfl,by omega,by simp,λd hd=>by simp at hd⟩ (cM (cC (by simp;omega)))
 grind [aB]
def Nl{α:Type}(o:Q (M α))(k:U):X (ga (bq 0 (k:L)) o) []=(X o []).take k:=by
 cases o with|none=>simp|some x=>exact gP x 0 k
def Nn{α:Type}(o:Q (M α))(k:U):X (ga (bq (k:L) (ah (X o []))) o) []=(X o []).drop k:=by
 cases o with|none=>simp|some x=>exact iQ x k
def Np{α:Type}(l:M α):X (dW l) []=l:=by cases l<;>rfl
def axb{B:U}(hB:B<=67108864){d:Dc}(h:∀q∈X d.2 [],Y q.2.2<=B)(part:L):aQ (λr=>bf (X r.1 [])<=2*B+2) (mP d part):=by
 unfold mP tj cG aN au ag al;rw[aB];have c:bf (X (O:Q (M aK)) [])<=2*B+2:=by simp[bf]
 refine aQ.ite (λ_=>aQ.ret c) λe=>aQ.ite (λ_=>aQ.ite (λ_=>aQ.ret c) λ_=>aQ.ite (λf=>aQ.call λr a=>aQ.ret ?_) λ_=>aQ.nil) λ_=>aQ.nil;have e:fY d.1:=by grind [wU]
 simp only[eW,ef]at f;have b:G part<Y (X d.2 []):=by omega
 rw[iS b]at a;have g:=h _ (eE b);have:=afZ e (by omega) r a;grind
def UZ{d:Dc}(h:kH d)(part:L):∃f e,mP d part=J (f,e)/\bf (X f [])<=131074:=by let⟨f,e,a,_,_⟩:=Ha (d:=d) h.raw part;refine⟨f,e,a,?_⟩;exact axb (B:=65536) (by decide) (λq b=>by have:=M3 b;have:=h.2.2;omega) part _ a
def Nq{p:dy}(h:dH p){i:U}(hi:i<Y (X p.2.1 [])):∃f,tx p (i:L)=J f/\bf (X f [])<=131074:=by
 let⟨⟨k,hk,a⟩,_⟩:=h.sg _ (eE hi);unfold tx cG aN al;dsimp-proj only[aj];rw[aF (dq hi)];simp only[cS hi];generalize (X p.2.1 [])[i]=s at *;have b:H (X p.1 []) (G s.2.1) ((0:L),O)=(X p.1 [])[k]:=by grind
 have hd:=(h.bB _ (eE a)).1;let⟨f,e,c,d⟩:=UZ hd s.2.2.1;grind [dq,aB,jF,kY]
def Cv{p:dy}(b:Y (X p.2.1 [])<=1048576)(id:L):yY p id=J (-1)\/∃k:U,k<Y (X p.2.1 [])/\yY p id=J (k:L):=by
 unfold yY aW;let⟨r,h1,h2⟩:=gl (f:=Ri p id) (λy=>∃k:U,y=(k:L)/\k<=Y (X p.2.1 [])) (λy=>Y (X p.2.1 [])-G y) (λr=>match r with|.inl z=>∃k:U,k<Y (X p.2.1 [])/\z=(k:L)|.inr _=>dL) (λy h=>by
  obtain⟨k,rfl,hk⟩:=h
  unfold Ri bS aN ag al ax aH aA
  by_cases a:k<Y (X p.2.1 [])
  grind [bV]
  obtain rfl:k=Y (X p.2.1 []):=by omega
  rw[gm]
  trivial) 0 ⟨0,rfl,fZ _⟩ (cM (cC (by simp;omega)))
 rw[h1,aB];cases r with|inl z=>simp_all|inr z=>exact .inl rfl
def axc{p:dy}(h:dH p){k:U}(hk:k<Y (X p.1 [])){src:Q (M aK)}(b:bf (X src [])<=536870912){s:dx}(c:bf (X s.2.2.2.2.2.1 [])<=67108864)(a:s.2.1=(k:L)):∃e,lE ((X p.1 [])[k]) src s=J e/\(e=0->gR (X s.2.2.2.2.2.1 [])=0):=by have hd:=(h.bB _ (eE hk)).1;let⟨e,_,h2,h3⟩:=afS (d:=(X p.1 [])[k]) (by have:=hd.2.1;omega) (by have:=hd.2.2;omega) b c (v:=(p.1,O,0,[])) a (eD hk);grind
theorem af4{p:dy}(h:dH p){s:dx}(l:bf (X s.2.2.2.2.2.1 [])<=67108864):∃g e,rQ p s=J (g,e)/\(e=0->dH g):=by
 have m:=h.ns;have n:=h.nd;have o:=eP (X s.2.2.2.2.2.1 []);unfold rQ cG aN au aJ ag al;dsimp-proj only[aj];rcases Cv (p:=p) (by omega) s.1 with c|⟨i,b,c⟩
 rw[c,aB,aF (by decide)];grind;let⟨⟨k,hk,a⟩,q⟩:=h.sg _ (eE b);let⟨f,r,t⟩:=Nq h b;rw[c,aB,aU (by simp),aF (dq b),aF (by simp;omega)];simp only[cS b,r];generalize v:(X p.2.1 [])[i]=x at *;have d:H (X p.1 []) (G x.2.1) ((0:L),O)=(X p.1 [])[k]:=by grind
 let⟨e,u,hv⟩:=axc h a (src:=f) (by omega) (s:=(x.1,x.2.1,x.2.2.1,x.2.2.2.1,s.2.2.2.2.1,J ([]++X s.2.2.2.2.2.1 []),s.2.2.2.2.2.2)) (by simpa using l) hk;rw[aF (by simp_all),d,aB,u,aB];by_cases j:e=0;rw[aU (by simp[j])];unfold KQ au al;rw[aF (by simp;omega),aF (by simp[bX];omega),aF (by simp;omega)];refine⟨_,0,rfl,λ_=>⟨?_,?_,?_,?_⟩⟩;simpa using h.nd;simpa using h.bB;simpa using h.ns;intro y hy;simp only[fk,xg]at hy ⊢;rcases List.mem_or_eq_of_mem_set hy with hy|rfl
 exact h.sg y hy;refine⟨⟨k,hk,a⟩,?_⟩;simp_all [wY];rw[aF (by simpa using j)];grind
def af5(s:dx):∃r,zj s=J r:=by
 unfold zj ag;repeat' split
 all_goals exact⟨_,rfl⟩
def dH.cut{p:dy}(h:dH p){k:U}{l:M dx}{n:U}{x:L}(b:∀s∈l,UX (p.1.getD []).length s)(c:((p.2.1.getD []).take k++l++(p.2.1.getD []).drop n).length<=512):dH (J ([]++p.1.getD []),J ((p.2.1.getD []).take k++l++(p.2.1.getD []).drop n),x):=by
 refine⟨by simpa using h.nd,by simpa using h.bB,by simpa using c,λs a=>?_⟩;simp only[fk,xg]at a ⊢;rcases mm.1 a with a|a
 rcases mm.1 a with a|a
 exact h.sg s (List.mem_of_mem_take a);exact b s a;exact h.sg s (List.mem_of_mem_drop a)
def U0{p:dy}(d:Y (X p.2.1 [])<=1048576){i:U}(hi:i<Y (X p.2.1 [])):∃b,B5 p (i:L)=J b/\(b=W->i+1<Y (X p.2.1 [])):=by
 have a:=di (i:=i) (by omega);unfold B5 aN au al ax;dsimp-proj only[aj];simp only[a];by_cases c:i+1<Y (X p.2.1 []);rw[aF (by grind)];grind;have:decide (((i+1:U):L)<ah (X p.2.1 []))=I:=by simp;omega
 rw[this];simp_all
def axg(o:Q (M L)){N:U}(b:N<=1152921504606846976):∃w,L1 (o,(N:L))=J (w,((N+1:U):L))/\Y w<=5:=by
 unfold L1 au;let⟨k,h1,h2⟩:=hO (n:=24) (by omega) (by omega) o b;rw[h2,aB,aF (by grind [bX,iJ])];refine⟨_,rfl,?_⟩;simp only[sj,fB];have a:∀w∈([[114,101,100],[99,97,114],[82,101,100],[97],[99,97,114,115],[49,44,53],[50,50],[100,111,110,39,116],[46],[33],[32],[32,32],[60],[38],[123],[34],[92],[120,45,121],[10],[61],[125],[62],[9],[98]]:M (M ao)),Y w<=5:=by decide
 grind
def axh(o:Q (M L)){N:U}(p:N<=1125899906842624):∃(w:M ao)(b:U),L2 2 (o,(N:L))=J (w,(b:L))/\Y w<=12/\b<=N+5:=by
 unfold L2 aW ax;let⟨k,h1,h2⟩:=hO (n:=aaX a7 (2+1)) (by decide) (by decide) o (N:=N) (by omega);have h1:(k:L)<3:=h1;rw[h2,aB];let⟨r,q,b,s,u,v⟩:=gl (f:=RH (o,(N:L))) (λy=>∃i a:U,y.2.1=(i:L)/\i<=2/\Y y.1<=6*(2-i)/\y.2.2=(a:L)/\a<=N+1+2*(2-i)) (λy=>G y.2.1) (λr=>∃b:U,r.2=(b:L)/\Y r.1<=12/\b<=N+5) (λy h=>by
  let⟨acc,c,m⟩:=y
  obtain⟨i,a,rfl,x,e,rfl,z⟩:=h
  simp only[]at e
  unfold RH ig au aJ ag bg aH aA c8 bu
  simp only[]
  by_cases g:0<i
  have hd:aaX a7 ((i:L)-1)=((i-1:U):L):=by grind [bV]
  let⟨w,j,A⟩:=axg o (N:=a) (by omega)
  rw[aF (by simp;omega),j,aB,hd]
  by_cases d:acc=[]
  rw[aU (by simp[d]),aF (by grind)]
  exact⟨⟨i-1,a+1,rfl,by omega,by grind,rfl,by omega⟩,by simp;omega⟩
  rw[aF (by simp[d])]
  let⟨t,B,l⟩:=hO (n:=3) (by omega) (by omega) o (N:=a+1) (by omega)
  have C:Y (if decide ((t:L)>0)=W then acc++[32]else acc)<=Y acc+1:=by split<;>simp
  rw[l,aB,aF (by
   rw[cr,pP,eW,eW]
   grind)]
  exact⟨⟨i-1,a+1+1,rfl,by omega,by grind,rfl,by omega⟩,by simp;omega⟩
  grind) ([],(k:L),((N+1:U):L)) ⟨k,N+1,rfl,by omega,by simp,rfl,by omega⟩ (cM (cC (by simp;omega)))
 grind [aB]
def af6(o:Q (M L)){N:U}(a:N<=1152921504606846976):∃w,L0 (o,(N:L))=J (w,((N+1:U):L)):=by unfold L0 au;let⟨k,h1,h2⟩:=hO (n:=4) (by omega) (by omega) o a;rw[h2,aB,aF (by grind [bX,iJ])];exact⟨_,rfl⟩
def af7{src:Q (M aK)}(hB:bf (src.getD [])<=131074)(o:Q (M L))(z:L){N:U}(E:N<=1125899000000000):∃(f:Q (M aK))(e:U),L3 src (o,(N:L))=J (f,(e:L))/\bf (f.getD [])<=2500000/\e<=N+1000000:=by
 have k:=eP (src.getD []);unfold L3 aW;let⟨r,F,e,G,H,K⟩:=gl (f:=RJ src (o,(N:L))) (λy=>∃i b:U,y.2.1=(i:L)/\i<=(src.getD []).length/\bf (y.1.getD [])<=bf ((src.getD []).take i)+14*i/\y.2.2=(b:L)/\b<=N+6*i) (λy=>(src.getD []).length-y.2.1.toNat) (λr=>∃e:U,r.2=(e:L)/\bf (r.1.getD [])<=2500000/\e<=N+1000000) (λy h=>by
  let⟨acc,c,m⟩:=y
  obtain⟨i,b,rfl,P,p,rfl,R⟩:=h
  simp only[]at p
  unfold RJ bS aN ig au ag al ax aH aA;dsimp-proj only[aj]
  simp only[]
  have q:=zC (src.getD []) i
  by_cases d:i<(src.getD []).length
  have s:=di (i:=i) (by omega)
  have u:=wV d
  have v:bf ((src.getD []).take (i+1))=bf ((src.getD []).take i)+((src.getD [])[i].2.1.length+1):=by rw[iU d,iE];simp[bf]
  have t0:bf ([]:M aK)=0:=rfl
  have one:∀x:aK,bf [x]=x.2.1.length+1:=λx=>by simp[bf]
  have cat:∀(a:Q (M aK))(x:aK),bf (a.getD [])+(x.2.1.length+1)<=536870912->∃r,lD a (J [x])=J r/\bf (r.getD [])<=bf (a.getD [])+(x.2.1.length+1):=λa x S=>by grind [pI,lG,ch,df]
  rw[dX d,aF (dq d)]
  simp only[cS d,s]
  generalize (src.getD [])[i]=x at *
  by_cases h1:x.1=1
  rw[aF (by simp[h1]),aF (by simp;omega)]
  let⟨t,A,g⟩:=hO (n:=5) (by omega) (by omega) o (N:=b) (by omega)
  rw[g,aB,aF (by
   simp only[cr,eW]
   exact⟨by simp;omega,by grind [bX,iJ]⟩)]
  have B:(([[114,111,116],[100,97,115,32,65,117,116,111],[],[101,105,110,32]++x.2.1,x.2.1]:M (M ao)).getD (0+((t:L)).toNat) []).length<=x.2.1.length+8:=by have T:t=0\/t=1\/t=2\/t=3\/t=4:=(by omega);grind
  let⟨r,c1,j⟩:=cat acc (x.1,([[114,111,116],[100,97,115,32,65,117,116,111],[],[101,105,110,32]++x.2.1,x.2.1]:M (M ao)).getD (0+((t:L)).toNat) [],x.2.2) (by simp only[];omega)
  simp only[]at j
  rw[c1,aB]
  exact⟨⟨i+1,b+1,rfl,d,by simp only[];omega,rfl,by omega⟩,by simp only[];omega⟩
  rw[aU (by simp[h1])]
  let⟨t,A,g⟩:=hO (n:=3) (by omega) (by omega) o (N:=b) (by omega)
  rw[g,aB]
  by_cases h3:((t:L)==0)=W
  rw[aF h3]
  let⟨w,V,X,Y,Z⟩:=axh o (N:=b+1) (by omega)
  let⟨r,c1,j⟩:=cat acc (1,w,0) (by simp only[];omega)
  simp only[]at j
  let⟨C,l,D⟩:=cat r x (by omega)
  grind [aB]
  rw[aU h3]
  let⟨C,l,D⟩:=cat acc x (by omega)
  rw[l,aB]
  exact⟨⟨i+1,b+1,rfl,d,by simp only[];omega,rfl,by omega⟩,by simp only[];omega⟩
  obtain rfl:i=(src.getD []).length:=by omega
  rw[gm]
  grind) (O,0,(N:L)) ⟨0,N,rfl,fZ _,by simp[bf],rfl,by omega⟩ (cM (cC (by simp;omega)))
 grind [aB]
def af9:∃r,yO=J r/\w6 r:=by unfold yO;refine⟨_,rfl,by simp,λr a=>?_⟩;grind
def aga{p:dy}{i:U}(hi:i<Y (X p.2.1 [])):tY p (i:L) I=J (decide ((bI (X p.2.1 []) i).2.2.2.2.1=3)):=by grind [tY,bI,dq]
def sd(a:M zg)(keep:U->ay)(num p:L)(k:U):M U:=(jq k).filter λi=>decide ((bI a i).2.1=num)&&(keep i&&decide ((bI a i).2.2.1=p))
def axk(a:M zg)(keep:U->ay)(num p:L)(k:U):sd a keep num p (k+1)=sd a keep num p k++if(decide ((bI a k).2.1=num)&&(keep k&&decide ((bI a k).2.2.1=p)))=W then[k]else[]:=by unfold sd;rw[List.range_succ,List.filter_append];grind
def agb(a:M zg)(keep:U->ay)(num p:L)(k:U):Y (sd a keep num p k)<=k:=by grind [sd]
def axl{p:dy}(k:Y (X p.2.1 [])<=1048576){num:L}{preview:ay}{keep:U->ay}(hk:∀i,i<Y (X p.2.1 [])->(bI (X p.2.1 []) i).2.1=num->tY p (i:L) preview=J (keep i)){us:Q (M L)}{j:U}(e:j<Y (X us []))(d:Dc):bR (Hk p num preview us ((j:L),d)) (O,O,0)=J (aY ((md (X p.2.1 []) keep num (X us [])[j]).map λi=>(bI (X p.2.1 []) i).2.2.2.1),aY ((md (X p.2.1 []) keep num (X us [])[j]).map λi=>(bI (X p.2.1 []) i).2.2.2.2.2.1)):=by
 rw[show((O,O,0):Q (M (L×L))×Q (M (Q (M aK)))×L)=(aY ((sd (X p.2.1 []) keep num (X us [])[j] 0).map λi=>(bI (X p.2.1 []) i).2.2.2.1),aY ((sd (X p.2.1 []) keep num (X us [])[j] 0).map λi=>(bI (X p.2.1 []) i).2.2.2.2.2.1),((0:U):L)) by simp[sd,aY]];refine eZ (f:=Hk p num preview us ((j:L),d)) (Y (X p.2.1 [])) (λi=>(aY ((sd (X p.2.1 []) keep num (X us [])[j] i).map λi=>(bI (X p.2.1 []) i).2.2.2.1),aY ((sd (X p.2.1 []) keep num (X us [])[j] i).map λi=>(bI (X p.2.1 []) i).2.2.2.2.2.1),(i:L))) (λi a=>?_) ?_ (cM (cC (by omega)));have g:=di (i:=i) (by omega);have b:bI (X p.2.1 []) i=(X p.2.1 [])[i]:=by unfold bI;rw[iS a]
 have h:=agb (X p.2.1 []) keep num (X us [])[j] i;have c:=hk i a;unfold Hk bS aN au ag al ax aH aA bu;dsimp-proj only[aj];simp only[];rw[dX a,aF (dq a),axk];simp only[cS a,cS e,g];rw[<-b];by_cases h1:(bI (X p.2.1 []) i).2.1=num;rw[aF (by simp[h1])];by_cases h2:(bI (X p.2.1 []) i).2.2.1=(X us [])[j];rw[aF (by simp[h2]),c h1,aB,aF (by simp;omega)];grind [MO];grind;grind;unfold Hk bS aN au ag al ax aH aA bu;dsimp-proj only[aj];simp only[];rw[gm];rfl
def U2(d:Dc):Prop:=Y (X d.2 [])<=131075/\Y (ep (X d.2 []))<=65536
def U3{p:dy}(x:Y (X p.2.1 [])<=512)(y:∀s∈X p.2.1 [],bf (X s.2.2.2.2.2.1 [])<=67108864){num:L}{preview:ay}{keep:U->ay}(hk:∀i,i<Y (X p.2.1 [])->(bI (X p.2.1 []) i).2.1=num->tY p (i:L) preview=J (keep i)){us:Q (M L)}(z:Y (X us [])<=1048576):∀(m j:U)(d:Dc)(f:U),j+m=Y (X us [])->m<f->U2 d->∃(b:Dc)(e:L),eC (Cw p num preview us) f ((j:L),d)=J (if e=0 then .inr b else .inl (e,0,O))/\kl (md (X p.2.1 []) keep num) (λi=>(bI (X p.2.1 []) i).2.2.2.1) (λi=>(bI (X p.2.1 []) i).2.2.2.2.2.1) ((X us []).drop j) d=J (b,e)/\(e=0->U2 b)/\(e≠0->b=(0,O))
 |0,j,d,f+1,B,_,hd=>by
  have:j=Y (X us []):=by omega
  subst this;refine⟨d,0,?_,?_,λ_=>hd,λh=>cJ rfl h⟩;unfold eC Cw bS aW aN au ag al ax aH aA;simp_all;rw[List.drop_length];rfl
 |m+1,j,d,f+1,B,K,hd=>by
  have n:j<Y (X us []):=by omega
  have N:=di (i:=j) (by omega);have P:=axl (by omega) hk n d;have o:=agb (X p.2.1 []) keep num (X us [])[j] (Y (X p.2.1 []));have o:Y (md (X p.2.1 []) keep num (X us [])[j])<=Y (X p.2.1 []):=o
  have c:∀(l:M U),md (X p.2.1 []) keep num (X us [])[j]=l->kl (md (X p.2.1 []) keep num) (λi=>(bI (X p.2.1 []) i).2.2.2.1) (λi=>(bI (X p.2.1 []) i).2.2.2.2.2.1) ((X us []).drop j) d=if l=[]then kl (md (X p.2.1 []) keep num) (λi=>(bI (X p.2.1 []) i).2.2.2.1) (λi=>(bI (X p.2.1 []) i).2.2.2.2.2.1) ((X us []).drop (j+1)) d else match oF d (X us [])[j] (J (l.map λi=>(bI (X p.2.1 []) i).2.2.2.1)) (J (l.map λi=>(bI (X p.2.1 []) i).2.2.2.2.2.1))with|none=>O|some (b,e)=>if e=0 then kl (md (X p.2.1 []) keep num) (λi=>(bI (X p.2.1 []) i).2.2.2.1) (λi=>(bI (X p.2.1 []) i).2.2.2.2.2.1) ((X us []).drop (j+1)) b else J ((0,O),e):=λl q=>by
   rw[xn n,kl,q]
   split
   rfl
   split<;>simp_all
  have k:Cw p num preview us ((j:L),d)=if(ah (md (X p.2.1 []) keep num (X us [])[j])==0)=W then J (.inl (((j+1:U):L),d))else aq (BU d (X us [])[j] (aY ((md (X p.2.1 []) keep num (X us [])[j]).map λi=>(bI (X p.2.1 []) i).2.2.2.1)) (aY ((md (X p.2.1 []) keep num (X us [])[j]).map λi=>(bI (X p.2.1 []) i).2.2.2.2.2.1))) λr=>if(r.2 !=0)=W then J (.inr (.inl (r.2,0,O)))else J (.inl (((j+1:U):L),r.1)):=by unfold Cw bS aW aN au ag al ax aH aA;simp_all
  rw[eC,k];cases q:md (X p.2.1 []) keep num (X us [])[j]with|nil=>rw[c [] q,aF (by decide)];simp only[bH];exact U3 x y hk z m (j+1) d f (by omega) (by omega) hd|cons a l=>have C:Y (a::l)<=512:=(by rw[<-q];omega);have u:∀t∈((a::l).map λi=>(bI (X p.2.1 []) i).2.2.2.2.2.1),bf (X t [])<=67108864:=λt v=>(by obtain⟨i,A,rfl⟩:=mq.1 v;have A:i<Y (X p.2.1 []):=(by grind [md]);unfold bI;rw[iS A];grind);let⟨b,e,D,E,r⟩:=afo (d:=d) (by have:=hd.1;omega) (by have:=hd.2;omega) (X us [])[j] (rs:=J ((a::l).map λi=>(bI (X p.2.1 []) i).2.2.2.1)) (ts:=J ((a::l).map λi=>(bI (X p.2.1 []) i).2.2.2.2.2.1)) (by grind) (by grind) u;have ea:∀{β:Type}(g:U->β),aY ((a::l).map g)=J ((a::l).map g):=λg=>rfl;have w:(ah (a::l)==0)=I:=(by simp;omega);rw[c (a::l) q,w,ea,ea,D,E];simp only[bM,ca,aB,List.cons_ne_nil];by_cases F:e=0;subst F;let⟨_,G,H,_⟩:=r rfl;simp only[show((0:L) !=0)=I from rfl,bM,ca,bH];exact U3 x y hk z m (j+1) b f (by omega) (by omega) ⟨by rw[G];exact hd.1,H⟩;grind
def U4{p:dy}(o:qL p)(q:dR p=0->Nk p){num:L}{preview:ay}{keep:U->ay}(hk:∀i,i<Y (X p.2.1 [])->(bI (X p.2.1 []) i).2.1=num->tY p (i:L) preview=J (keep i)):(dR p≠0->w9 p num preview=J ((0,O),dR p))/\(dR p=0->(num<0\/(Y (X p.1 []):L)<=num)->w9 p num preview=J ((0,O),6))/\(dR p=0->0<=num->num<Y (X p.1 [])->∃(d:Dc)(e:L),w9 p num preview=J (d,e)/\zh keep num (aY (X p.1 []),aY (X p.2.1 []),p.2.2,gi (X p.1 []) (Y (X p.1 [])))=J (d,e)/\(e=0->U2 d)/\(e≠0->d=(0,O))):=by
 unfold w9 aW cG aN au ag al;rw[(kI o).1,aB];refine⟨λh=>by grind,λh E=>?_,λh f r=>?_⟩;simp_all;have a:=q h;have t:(decide (num<0)||decide (num>=ah (X p.1 [])))=I:=by simp;omega
 have u:decide (0<=num/\num<ah (X p.1 []))=W:=by simp;omega
 obtain⟨k,rfl⟩:=pU f;have c:k<Y (X p.1 []):=by omega
 have hd:=a.bB _ (eE c);have v:=hd.2.1;have w:=Co (X (X p.1 [])[k].2 []) (Y (X (X p.1 [])[k].2 []));have g:=a.ns;rw[h,t,u,cS c,M2,Cp (by omega)];simp only[show((0:L) !=0)=I from rfl,bM,ca,bH,aB];let⟨d,e,y,F,z,A⟩:=U3 g (λs j=>by let⟨_,_,_,_,_,_,_,_,hv⟩:=a.sg s j;grind [wY]) hk (us:=aY ((km (X (X p.1 [])[k].2 []) (Y (X (X p.1 [])[k].2 []))).map fQ)) (by rw[ch,jS];omega) _ 0 (X p.1 [])[k] fuel (sj _) (by rw[ch,jS];exact cM (cC (by omega))) ⟨hd.2.1,hd.2.2⟩;refine⟨d,e,?_,?_,z,A⟩;rw[show bR (Cw p (k:L) preview (aY ((km (X (X p.1 [])[k].2 []) (Y (X (X p.1 [])[k].2 []))).map fQ))) (0,(X p.1 [])[k])=_ from y,aB];by_cases B:e=0;subst B;rfl;simp_all;unfold zh;simp only[ch];have G:∀s∈X p.2.1 [],rW s.2.2.1=W:=λs j=>by let⟨k2,d2,_,h2,h3,_⟩:=a.sg s j;let⟨b,n,l⟩:=w8.1 h3;have C:=(afM _ _ _ l).1;have m:=a.bB d2 (fG h2);have:=m.2.1;grind [rW]
 rw[aF (by grind)];rw[cS c,Cp (by omega)];simp only[ch];rw[aF (by simp only[cr,eW,gT,jS];refine⟨by omega,λx D=>?_⟩;obtain⟨b,n,rfl⟩:=mq.1 D;have:=(afM _ _ _ n).1;unfold rW;simp;omega)];simp_all
def mV(p:dy):mB:=(aY (X p.1 []),aY (X p.2.1 []),p.2.2,gi (X p.1 []) (Y (X p.1 [])))
def Hm{p:dy}(b:qL p)(num:L):(dR p≠0->rV p num=J (dR p,I,O,O,0,[]))/\(dR p=0->num<0\/(Y (X p.1 []):L)<=num->rV p num=J (6,I,O,O,0,[]))/\(dR p=0->¬(num<0\/(Y (X p.1 []):L)<=num)->rV p num=J (0,W,mV p)):=by unfold rV cw ag al;rw[(kI b).2.1,aB];refine⟨λh=>?_,λh a=>?_,λh a=>?_⟩;grind;simp_all;simp only[h,bH,ch,sq,bM,ca,ef,pP,eW,ge_iff_le];rw[aU a];rfl
def Nr{p:dy}(c:qL p)(num:L):∃b e,tE p num=J (b,e)/\Hl p num=J (b,e):=by
 let⟨q,r,d⟩:=U4 (preview:=I) (num:=num) (keep:=λi=>decide ((bI (X p.2.1 []) i).2.2.2.2.1=3)) c (kI c).2.2 (λi f _=>aga f);unfold tE Hl au ag;let⟨s,t,g⟩:=Hm c num;by_cases h:dR p=0;rotate_left;simp_all;by_cases j:num<0\/(Y (X p.1 []):L)<=num;simp_all;rw[g h j,aB];let⟨k,e,l,u,m,n⟩:=d h (by omega) (by omega);have o:wA num (mV p)=J (k,e):=by unfold wA mV;simp_all
 rw[l,aB];simp only[bH,sq,bM,ca];rw[o,aB];by_cases a:e=0;let⟨v,w⟩:=m a;subst a;simp only[];rw[Cl (by omega) (by omega),aB,aU (by simp),Ck (by omega) (by omega),aB];grind;rw[aF (by simpa using a),n a];grind [Cl,ep,aB]
def gS(a b:dx):Prop:=a.2.1<b.2.1\/(a.2.1=b.2.1/\(a.2.2.1<b.2.2.1\/(a.2.2.1=b.2.2.1/\a.2.2.2.1.2<=b.2.2.2.1.1)))
def U6(a:M dx)(i:U):ay:=decide ((bI a i).2.2.2.2.1=3)
instance(a b:dx):Decidable (gS a b):=by unfold gS;infer_instance
def axm(a b:dx):wD b a=J (decide (gS a b)):=by unfold wD gS ag;grind
def Cx(bB:M Dc)(s:dx)(d:Dc):Prop:=(∃k:U,s.2.1=(k:L)/\bB[k]?=J d)/\w7 (d.2.getD []) s.2.2.1=W/\0<=s.2.2.2.1.1/\s.2.2.2.1.1<s.2.2.2.1.2/\s.2.2.2.1.2<=bL ((iF d s.2.2.1.toNat).getD [])
def pL(d:Dc)(s:dx):Q (M aK):=(eT ((iF d s.2.2.1.toNat).getD []) s.2.2.2.1.1 s.2.2.2.1.2).1
theorem agc{p:dy}(w:∀d∈p.1.getD [],kH d)(g:(p.2.1.getD []).length<=1048576){i:U}(hi:i<(p.2.1.getD []).length){d:Dc}(x:Cx (p.1.getD []) (p.2.1.getD [])[i] d):tF p (i:L)=if(p.2.1.getD [])[i].1<1 then J 1 else if(p.2.1.getD [])[i].1>=p.2.2 then J 1 else if np (.int .i64) (p.2.1.getD [])[i].1 (mU (p.2.1.getD []) i)=W then J 5 else if 0<i then(if gS (bI (p.2.1.getD []) (i-1)) (p.2.1.getD [])[i]then lE d (pL d (p.2.1.getD [])[i]) (p.2.1.getD [])[i]else J 11)else lE d (pL d (p.2.1.getD [])[i]) (p.2.1.getD [])[i]:=by
 have c:=afY hi g;have j:=dq hi;unfold tF aW cG aN cw aJ ag al bg;dsimp-proj only[aj];simp only[j,bH,cS hi,c];have l:∀h:0<i,a7.wrap ((i:L)-1)=((i-1:U):L):=λh=>by grind [bV]
 unfold pL;generalize D:(p.2.1.getD [])[i]=s at *;let⟨⟨k,hk,hd⟩,t,E,F,u⟩:=x;have y:k<(p.1.getD []).length:=(ik.1 hd).1;have f:=w d (fG hd);have m:(p.1.getD []).getD s.2.1.toNat ((0:L),O)=d:=by grind
 have n:decide ((0:L)<=s.2.1/\s.2.1<ah (p.1.getD []))=W:=by simp;omega
 rw[aU (show ¬decide (s.2.1<0)=W by simp;omega),aU (show ¬decide (s.2.1>=ah (p.1.getD []))=W by simp;omega)];simp only[m,n,bH];have z:=f.2.1;rw[afT (by omega),aB,t];let⟨b,A,_⟩:=w8.1 t;let⟨B,e,c1,G⟩:=Cu f b;rw[A]at u ⊢;rw[fB]at u ⊢;rw[c1];simp only[jI,bM,ca,aB];rw[mg (by omega),aB];by_cases h1:s.1<1;grind;rw[aU (show ¬decide (s.1<1)=W by simpa using h1),aU h1];by_cases h2:s.1>=p.2.2;grind;rw[aU (show ¬decide (s.1>=p.2.2)=W by simpa using h2),aU h2];rw[aU (show ¬decide (s.2.2.2.1.1<0)=W by simp;omega),aU (show ¬decide (s.2.2.2.1.2<=s.2.2.2.1.1)=W by simp;omega),aU (show ¬decide (s.2.2.2.1.2>(bL ((iF d b).getD []):L))=W by simp;omega)];rw[aF (show decide ((0:L)<=0/\(0:L)<=(i:L)/\(i:L)<=ah (p.2.1.getD []))=W by simp;omega)];cases C:np (.int .i64) s.1 (mU (p.2.1.getD []) i)with
 |true=>simp|false=>
  simp only[bM,ca,aB,pr];rw[jF (by omega),aB];have v:∀o:Q L,(aq o λr=>J r)=o:=λo=>by cases o<;>rfl
  by_cases a:0<i;have q:i-1<(p.2.1.getD []).length:=by omega
  rw[aF (show decide ((i:L)>0)=W by simpa using a),aF a,l a,aF (dq q)];simp_all [bI,axm];grind
def zL(bB:M Dc)(a:M dx)(nx:L)(i:U):Prop:=∃d,Cx bB (bI a i) d/\1<=(bI a i).1/\(bI a i).1<nx/\(∀j,j<i->(bI a j).1≠(bI a i).1)/\(0<i->gS (bI a (i-1)) (bI a i))/\lE d (pL d (bI a i)) (bI a i)=J 0
def axn{a:M dx}{i:U}(hi:i<a.length):np (.int .i64) a[i].1 (mU a i)=W↔ ∃j,j<i/\(bI a j).1=(bI a i).1:=by rw[UU,eW,UV _ _ _ (by omega)];unfold bI;rw[iS hi];constructor;rintro ⟨j,h1,h2,h3⟩;exact⟨j,h1,by grind⟩;grind
theorem agd{p:dy}(a:dH p)(c:1<=p.2.2/\p.2.2<=1073741824){i:U}(hi:i<(p.2.1.getD []).length):tF p (i:L)=J 0↔zL (p.1.getD []) (p.2.1.getD []) p.2.2 i:=by have g:∀d∈p.1.getD [],kH d:=λd hd=>(a.bB d hd).1;have l:=a.ns;have m:bI (p.2.1.getD []) i=(p.2.1.getD [])[i]:=iS hi;have f:=axn hi;rw[m]at f;constructor;intro h;let⟨e,_,h2,h3⟩:=UW a.b g c hi;rw[h2]at h;cases h;let⟨k,d,n,o,q,r,s,t,_,_⟩:=h3 rfl;have j:Cx (p.1.getD []) (p.2.1.getD [])[i] d:=⟨⟨k,n,o⟩,q,r,s,t⟩;rw[agc g (by omega) hi j]at h2;unfold zL;grind;rintro ⟨d,j,u,v,w,x,y⟩;grind [agc]
def U7{p:dy}(c:dH p):dR p=0↔(1<=p.2.2/\p.2.2<=1073741824)/\∀i,i<(p.2.1.getD []).length->zL (p.1.getD []) (p.2.1.getD []) p.2.2 i:=by
 have g:fX (λi=>jb (vD ((p.1.getD []).getD i (0,O)))) 0 (p.1.getD []).length=O:=by
  rw[wK];intro j _ d;have d:j<(p.1.getD []).length:=by omega
  simp only[iS d];unfold jb;rw[aF (c.bB _ (eE d)).2]
 have k:=c.nd;have l:=c.ns;constructor;intro h;have a:=(kI c.b).2.2 h;refine⟨a.nx,λi f=>(agd c a.nx f).1 ?_⟩;let⟨e,_,h2,_⟩:=UW c.b a.bB a.nx f;grind [dR,oE,tN,Ni,Nj,Hg];grind [dR,jb,oE,wK,agd]
def zL.like{bB:M Dc}{a b:M dx}{nx:L}{i:U}(h:zL bB a nx i)(c:∀j,(bI b j).1=(bI a j).1/\(bI b j).2.1=(bI a j).2.1/\(bI b j).2.2.1=(bI a j).2.2.1/\(bI b j).2.2.2.1=(bI a j).2.2.2.1) (hd:∀d,Cx bB (bI a i) d->lE d (pL d (bI a i)) (bI a i)=J 0->lE d (pL d (bI a i)) (bI b i)=J 0):zL bB b nx i:=by
 let⟨d,h1,h2,h3,m,f,n⟩:=h;let⟨e,o,g,k⟩:=c i;have p:pL d (bI b i)=pL d (bI a i):=by unfold pL;rw[g,k]
 refine⟨d,?_,by rw[e];exact h2,by rw[e];exact h3,λj q=>by grind,λl=>?_,by grind⟩;unfold Cx at h1 ⊢;grind;have:=f l;let⟨r,m2,m3,s⟩:=c (i-1);unfold gS at this ⊢;grind
def age{a:M dx}{i:U}{x:dx}(j:U):bI (a.set i x) j=if j=i/\i<a.length then x else bI a j:=by grind [bI]
theorem axo{p o:dy}(h:dH p)(x:dH o)(hv:dR p=0){s:dx}(a:rQ p s=J (o,0)):dR o=0:=by
 have y:=h.ns;have z:=h.nd;have P:∀d∈p.1.getD [],kH d:=λd hd=>(h.bB d hd).1;let⟨q,c⟩:=(U7 h).1 hv;unfold rQ cG aN au aJ ag al at a;dsimp-proj only[aj]at a;rcases Cv (p:=p) (by omega) s.1 with u|⟨i,g,u⟩
 grind [aB];let⟨d,v,A,B,R,S,C⟩:=c i g;have l:bI (p.2.1.getD []) i=(p.2.1.getD [])[i]:=iS g;rw[l]at v A B C;let⟨f,D,E⟩:=Nq h g;let⟨⟨k,hk,hd⟩,F,T,V,X⟩:=id v;have G:k<(p.1.getD []).length:=(ik.1 hd).1;have r:(p.1.getD []).getD (p.2.1.getD [])[i].2.1.toNat ((0:L),O)=d:=by grind
 have H:f=pL d (p.2.1.getD [])[i]:=by let⟨b,Y,_⟩:=w8.1 F;grind [Cu,tx,dq,aB,jF,pL,fB]
 rw[u,aB,aU (by simp),aF (dq g)]at a;split at a;rotate_left;cases a;simp only[cS g,D,r]at a;rw[aF (by simp;omega),aB]at a;cases t:lE d f ((p.2.1.getD [])[i].1,(p.2.1.getD [])[i].2.1,(p.2.1.getD [])[i].2.2.1,(p.2.1.getD [])[i].2.2.2.1,s.2.2.2.2.1,J ([]++s.2.2.2.2.2.1.getD []),s.2.2.2.2.2.2)with
 |none=>simp_all|some e=>
  rw[t,aB]at a;by_cases K:e=0;rotate_left;grind;subst K;rw[aU (by simp)]at a;unfold KQ au al at a;rw[aF (by simp;omega),aF (by simp[bX];omega),aF (by simp;omega),aB]at a;cases a;rw[U7 x];refine⟨q,λj w=>?_⟩;simp only[fk,xg,List.length_set,fB,sj]at w ⊢;refine(c j w).like (λm=>?_) λd2 n h2=>?_;rw[age];split;grind;grind;rw[age];split;rename_i N;obtain rfl:=N.1;rw[l]at n ⊢;let⟨⟨k2,Z,e2⟩,_⟩:=n;have:k2=k:=by omega
  grind;exact h2
def Ns(bB:M Dc)(nx:L)(s:dx):Prop:=∃d,Cx bB s d/\1<=s.1/\s.1<nx/\lE d (pL d s) s=J 0
def tZ(bB:M Dc)(c:M dx)(nx:L):Prop:=(∀s∈c,Ns bB nx s)/\c.Pairwise λa b=>a.1≠b.1/\gS a b
def axp{a b c:dx}(h1:gS a b)(h2:gS b c)(d:b.2.2.2.1.1<b.2.2.2.1.2):gS a c:=by unfold gS at *;omega
def axq{bB:M Dc}{a:M dx}{nx:L}:(∀i,i<a.length->zL bB a nx i)↔tZ bB a nx:=by
 have g:∀{i:U}(h:i<a.length),bI a i=a[i]:=λh=>iS h;constructor;intro h;refine⟨λs p=>?_,?_⟩;obtain⟨i,c,rfl⟩:=qV p;let⟨d,h1,h2,h3,_,_,k⟩:=h i c;rw[g c]at h1 h2 h3 k;exact⟨d,h1,h2,h3,k⟩;have key:∀(i j:U)(b:i<j)(e:j<a.length),gS (bI a i) (bI a j):=by
   intro i j;induction j with
   |zero=>intro b;omega
   |succ j q=>intro b e;let⟨d,_,_,_,_,r,_⟩:=h (j+1) e;have f:=r (Nat.succ_pos j);rw[Nat.add_sub_cancel]at f;by_cases t:i=j;subst t;exact f;let⟨d2,h1,_⟩:=h j (by omega);exact axp (q (by omega) (by omega)) f h1.2.2.2.1
 rw[xc];intro i j c e b;have hk:=key i j b e;let⟨d,_,_,_,u,_⟩:=h j e;grind;rintro ⟨h1,h2⟩ i c;rw[xc]at h2;let⟨d,l,m,n,o⟩:=h1 _ (eE c);rw[<-g c]at l m n o;refine⟨d,l,m,n,λj e=>?_,λv=>?_,o⟩;grind;grind
def Cy{p:dy}(a:dH p):dR p=0↔(1<=p.2.2/\p.2.2<=1073741824)/\tZ (p.1.getD []) (p.2.1.getD []) p.2.2:=by rw[U7 a,axq]
def tZ.cut{bB:M Dc}{c:M dx}{nx Nt:L}(h:tZ bB c nx){k n:U}(i:k<=n){l:M dx}(j:nx<=Nt)(t:∀s∈l,Ns bB Nt s)(m:l.Pairwise λa b=>a.1≠b.1/\gS a b)(h1:∀x∈c.take k,∀s∈l,x.1≠s.1/\gS x s)(h2:∀s∈l,∀y∈c.drop n,s.1≠y.1/\gS s y):tZ bB (c.take k++l++c.drop n) Nt:=by
 have u:∀s∈c,Ns bB Nt s:=λs g=>by let⟨d,o,p,v,q⟩:=h.1 s g;exact⟨d,o,p,by omega,q⟩
 refine⟨λs g=>?_,?_⟩;grind;have e:=h.2;rw[<-mZ k c,sf]at e;rw[sf,sf];refine⟨⟨e.1,m,h1⟩,h.2.sublist (List.drop_sublist n c),λa f b r=>?_⟩;rcases mm.1 f with f|f
 refine e.2.2 a f b ?_;have:c.drop n=(c.drop k).drop (n-k):=by grind [List.drop_drop]
 grind;exact h2 a f b r
def xa:M aK->M aK->Prop|_,[]=>dL|a,x::f=>kF a x=0/\xa (a++[x]) f
theorem agf:∀(f a:M aK),xa a f↔ ∀i(h:i<f.length),kF (a++f.take i) f[i]=0
 |[],a=>by simp[xa]|x::f,a=>by
  rw[xa,agf f];constructor;rintro ⟨h1,h2⟩ i b;cases i with|zero=>simpa using h1|succ i=>grind
  intro h;refine⟨?_,λi b=>?_⟩;have:=h 0 (Nat.succ_pos _);grind;simpa only[CJ,agS,List.take_succ_cons,List.getElem_cons_succ]using h (i+1) (Nat.succ_lt_succ b)
theorem axr(f:M aK):gR f=0↔f.length<=512/\bL f<=1024/\xa [] f:=by grind [agf,afl,gR,tN]
theorem U8(a b:U):∀(f d c:M aK)(at':U),xa d f->(∀y∈c,y.1=1\/y∈d)->(c=[]\/b<=at'\/(c.getLast?.map (·.1)=d.getLast?.map (·.1)/\a<=at'))->xa c (fE a b at' f)
 |[],_,_,_,_,_,_=>trivial|x::f,d,c,at',h,h1,h2=>by
  let⟨j,g⟩:=h;have l:1<=wid x:=by grind [kF,wid]
  rw[fE];unfold nH;split;rename_i e;rw[agS,xa];have m:c=[]\/c.getLast?.map (·.1)=d.getLast?.map (·.1):=by grind
  refine⟨?_,U8 a b f _ _ _ g (λy hy=>?_) (.inr (.inr ⟨?_,by omega⟩))⟩;unfold kF at j ⊢;have i:∀z:aK,z.1=x.1->z.2.2=x.2.2->z.2.1=x.2.1->d.all (mh x)=W->c.all (mh z)=W:=λz n o p k=>by
   rw[gT]at k ⊢;intro y hy;rcases h1 y hy with h|h
   simp[mh,fa,h];grind
  have q:x.1=1->(x.2.1.take (min b (at'+wid x)-at')).drop (max a at'-at')≠[]:=λh1=>by have:wid x=x.2.1.length:=(by unfold wid;rw[aF h1]);rw[<-List.length_pos_iff,zP,List.length_take];omega
  grind;grind;simp;rename_i e;rw[xg];refine U8 a b f _ _ _ g (λy hy=>?_) ?_;grind;grind
theorem agh(a b:U):∀(f:M aK)(at':U),bL (fE a b at' f)<=bL f|[],at'=>by simp[fE]|x::f,at'=>by have:=agh a b f (at'+wid x);grind [bL,nH,wid,fE.eq_2]
def agi{f:M aK}(h:gR f=0)(a b:L):gR ((eT f a b).1.getD [])=0:=by unfold eT;split;rfl;grind [ch,axr,MU,agh,U8]
def Nu{d:Dc}{src:Q (M aK)}{s:dx}(a:kC s=J W)(b:bf (s.2.2.2.2.2.1.getD [])<=67108864)(hv:gR (s.2.2.2.2.2.1.getD [])=0)(h3:s.2.2.2.2.1≠3):lE d src s=J 0:=by grind [lE,aB,Cq]
def U9{d:Dc}{src:Q (M aK)}{s:dx}(a:bf (s.2.2.2.2.2.1.getD [])<=67108864)(h:lE d src s=J 0):kC s=J W/\gR (s.2.2.2.2.2.1.getD [])=0:=by unfold lE ag at h;let⟨b,_,c⟩:=afR s;grind [aB,Cq]
def agj{x:dx}{z:L×M ao}(a:kC x=J W)(c:zj x=J z)(i dd f:L)(g:L×L)(t:Q (M aK))(h:ay)(k:x.2.2.2.2.2.1.getD []=[]->t.getD []=[]):kC (i,dd,f,g,z.1,t,z.2,0,h)=J W/\z.1≠3:=by
 unfold zj ag at c;unfold kC ag al at a;dsimp-proj only[aj]at a;by_cases c0:x.2.2.2.2.1=0;rw[aF (by simpa using c0)]at c a;cases c;simp_all [kC,aj,ag,al]
 ·rw[aU (by simpa using c0)]at c a;by_cases c1:x.2.2.2.2.2.2.1=[];rw[aU (by simp[c1])]at c;cases c;exact⟨rfl,by decide⟩
  ·rw[aF (by simp[c1])]at c;cases c;refine⟨?_,show(2:L)≠3 by decide⟩;show(aq (mc x.2.2.2.2.2.2.1) λj=>J (j&&(0:L)==0))=J W;have d:decide (x.2.2.2.2.2.2.1=[])=I:=(by simpa using c1);simp only[d,Ab]at a;cases e:mc x.2.2.2.2.2.2.1 with
   |none=>rw[e]at a;repeat' split at a<;>first|cases a|skip
   |some b=>
    rw[e]at a;cases b with|true=>rfl|false=>simp_all
def axs{a:M dx}{i:U}(hi:i<a.length):a=a.take i++a[i]::a.drop (i+1):=by simp_all
def Va{a b:Prop}(x:a)(y:a->b):a/\b:=⟨x,y x⟩
def axt{p:dy}(h:dH p)(id at' tg:L):∃t e,B7 p id at' tg=J (t,e)/\(e=0->dH t/\dR t=0):=by
 have P:=h.ns;have R:=h.nd;unfold B7 cG aN au aJ ag al ax bg iO;dsimp-proj only[aj];rw[(kI h.b).1,aB];by_cases hv:dR p=0;rotate_left;rw[aF (by simpa using hv)];grind;rw[aU (by simp[hv])];rcases Cv (p:=p) (by omega) id with u|⟨i,l,u⟩
 rw[u,aB,aF (by decide)];grind;let⟨v,f⟩:=(Cy h).1 hv;let⟨⟨k,hk,m⟩,S⟩:=h.sg _ (eE l);let⟨d,T,V,o2,X⟩:=f.1 _ (eE l);rw[u,aB,aU (by simp),aF (dq l)];simp only[cS l];have o:=f.2;rw[axs l,sf,xf]at o;let⟨_,⟨w,_⟩,g⟩:=o;have g:∀y∈(p.2.1.getD []).take i,y.1≠(p.2.1.getD [])[i].1/\gS y (p.2.1.getD [])[i]:=λy hy=>g y hy _ List.mem_cons_self;generalize c:(p.2.1.getD [])[i]=x at *;let⟨z,A⟩:=af5 x;rw[mg (by omega)];simp only[aB,A];rw[jF (by omega),jF (by omega)];simp only[aB];have Y:=di (i:=i) (by omega);simp only[Y,Nl,Nn,Np];have B:=T;let⟨j,D,Z,r2,r3⟩:=B;have hct:bL ((iF d x.2.2.1.toNat).getD [])<=134217730:=by let⟨kk,_,hd⟩:=j;have:=(Cu ((h.bB d (fG hd)).1) x.2.2.1.toNat).1;grind [jE]
 rw[bV (n:=x.2.2.2.1.2-x.2.2.2.1.1) (by omega) (by omega)];by_cases c1:at'<1;simp only[iV c1,bH];grind;simp only[ip c1,bM,ca];by_cases E:at'>=x.2.2.2.1.2-x.2.2.2.1.1;simp only[iV E,bH];grind;simp only[ip E,bM,ca];by_cases F:tg<0;simp only[iV F,bH];grind;simp only[ip F,bM,ca];by_cases G:tg>(bL (x.2.2.2.2.2.1.getD []):L);simp only[iV G,bH];grind;simp only[ip G,bM,ca];by_cases r:(decide (ah (p.2.1.getD [])>=512)||decide (p.2.2>=1073741824))=W;simp only[r,bH];grind;simp only[r,bM,ca];have r:(p.2.1.getD []).length<512/\p.2.2<1073741824:=by simp at r;omega
 rw[aF (by simp;omega),aF (by simp;omega)];have t1:=kY (x.2.2.2.2.2.1.getD []) 0 tg;have t2:=kY (x.2.2.2.2.2.1.getD []) tg (bL (x.2.2.2.2.2.1.getD []):L);let⟨H,K⟩:=U9 (by omega) X;have v1:=agi K 0 tg;have v2:=agi K tg (bL (x.2.2.2.2.2.1.getD []):L);rw[bV (n:=x.2.2.2.1.1+at') (by omega) (by omega),bV (n:=p.2.2+1) (by omega) (by omega)];refine⟨_,0,rfl,λ_=>Va (h.cut (λs c=>?_) (by simp;omega)) λhI=>?_⟩;rcases iG.1 c with rfl|c
 exact⟨⟨k,hk,m⟩,by simp only[];omega⟩;rw[js]at c;subst c;exact⟨⟨k,hk,m⟩,by simp only[];omega⟩;rw[Cy hI];simp only[fk,xg];refine⟨by omega,f.cut (k:=i) (n:=i+1) (by omega) (by omega) (λs c=>?_) ?_ (λy hy s c=>?_) λs c y hy=>?_⟩;have q:∀a b:L,x.2.2.2.2.2.1.getD []=[]->(eT (x.2.2.2.2.2.1.getD []) a b).1.getD []=[]:=λa b he=>by rw[he];unfold eT;split<;>rfl
 rcases iG.1 c with rfl|c
 let⟨f1,f2⟩:=agj H A x.1 x.2.1 x.2.2.1 (x.2.2.2.1.1,x.2.2.2.1.1+at') (eT (x.2.2.2.2.2.1.getD []) 0 tg).1 x.2.2.2.2.2.2.2.2 (q _ _);exact⟨d,⟨j,D,Z,by simp only[];omega,by simp only[];omega⟩,V,by simp only[];omega,Nu f1 (by simp only[];omega) v1 f2⟩;rw[js]at c;subst c;let⟨f1,f2⟩:=agj H A p.2.2 x.2.1 x.2.2.1 (x.2.2.2.1.1+at',x.2.2.2.1.2) (eT (x.2.2.2.2.2.1.getD []) tg (bL (x.2.2.2.2.2.1.getD []):L)).1 x.2.2.2.2.2.2.2.2 (q _ _);exact⟨d,⟨j,D,by simp only[];omega,by simp only[];omega,r3⟩,v.1,by simp only[];omega,Nu f1 (by simp only[];omega) v2 f2⟩;rw[xf];refine⟨λb N=>?_,List.pairwise_singleton _ _⟩;rw[js]at N;subst N;exact⟨by simp only[];omega,.inr ⟨rfl,.inr ⟨rfl,sr _⟩⟩⟩;let⟨q1,C⟩:=g y hy;let⟨_,_,_,q3,_⟩:=f.1 y (List.mem_of_mem_take hy);unfold gS at C;rcases iG.1 c with rfl|c
 unfold gS;simp only[];omega;rw[js]at c;subst c;unfold gS;simp only[];omega;let⟨q1,C⟩:=w y hy;let⟨_,_,_,q3,_⟩:=f.1 y (List.mem_of_mem_drop hy);unfold gS at C;rcases iG.1 c with rfl|c
 unfold gS;simp only[];omega;rw[js]at c;subst c;unfold gS;simp only[];omega
def axu{p:dy}(a:(p.2.1.getD []).length<=1048576){i:U}(hi:i<(p.2.1.getD []).length)(h:B5 p (i:L)=J W):(bI (p.2.1.getD []) (i+1)).2.1=(bI (p.2.1.getD []) i).2.1/\(bI (p.2.1.getD []) (i+1)).2.2.1=(bI (p.2.1.getD []) i).2.2.1:=by let⟨b,h1,h2⟩:=U0 a hi;rw[h]at h1;cases h1;have c:=h2 rfl;have d:=di (i:=i) (by omega);simp_all [B5,bI,aj,aN,au,al,ax]
def axv{p q:dy}(h:dH p)(F:dH q)(hv:dR p=0){i:U}(hi:i+1<(p.2.1.getD []).length){x y z:dx}(hx:(p.2.1.getD [])[i]'(by omega)=x)(hy:(p.2.1.getD [])[i+1]=y)(Y:y.2.1=x.2.1)(s2:y.2.2.1=x.2.2.1)(r:q=(J ([]++p.1.getD []),J ((p.2.1.getD []).take i++[z]++(p.2.1.getD []).drop (i+2)),p.2.2)) (Z:z.1=x.1)(G:z.2.1=x.2.1)(H:z.2.2.1=x.2.2.1)(K:z.2.2.2.1=(x.2.2.2.1.1,y.2.2.2.1.2))(f1:kC z=J W)(f2:z.2.2.2.2.1≠3)(f3:bf (z.2.2.2.2.2.1.getD [])<=67108864)(f4:gR (z.2.2.2.2.2.1.getD [])=0):dR q=0:=by
 let⟨t,a⟩:=(Cy h).1 hv;have e:i<(p.2.1.getD []).length:=by omega
 let⟨d,⟨⟨k,hk,hd⟩,B,C,N,P⟩,R,S,_⟩:=a.1 _ (eE e);let⟨d2,⟨⟨k2,u,l⟩,_,T,V,D⟩,_⟩:=a.1 _ (eE hi);have b:=a.2;rw[xc]at b;have f:=b i (i+1) e hi (by omega);have m:∀w∈(p.2.1.getD []).take i,w.1≠x.1/\gS w x:=λw g=>by obtain⟨j,E,rfl⟩:=qV g;grind
 have o:∀w∈(p.2.1.getD []).drop (i+2),x.1≠w.1/\gS y w:=λw g=>by obtain⟨j,E,rfl⟩:=qV g;rw[zP]at E;rw[List.getElem_drop,<-hx,<-hy];exact⟨(b i (i+2+j) e (by omega) (by omega)).1,(b (i+1) (i+2+j) hi (by omega) (by omega)).2⟩
 rw[hx]at hk B C N P R S f;rw[hy]at u T V D f;obtain rfl:k2=k:=by omega
 rw[hd]at l;cases l;rw[s2]at D;have v:=f.2;unfold gS at v;rw[Cy F,r];simp only[fk,xg];refine⟨t,a.cut (k:=i) (n:=i+2) (by omega) (sr _) (λs c=>?_) (List.pairwise_singleton _ _) (λw g s c=>?_) λs c w g=>?_⟩;rw[js]at c;subst c;refine⟨d,⟨⟨k2,by rw[G];exact hk,hd⟩,by rw[H];exact B,?_,?_,?_⟩,by omega,by omega,Nu f1 f3 f4 f2⟩;rw[K];exact C;grind;grind;rw[js]at c;subst c;let⟨X,A⟩:=m w g;unfold gS at A ⊢;grind;rw[js]at c;subst c;let⟨X,A⟩:=o w g;unfold gS at A ⊢;grind
theorem axw{x:dx}(a:kC x=J W)(e:x.2.2.2.2.2.2.1≠[]):mc x.2.2.2.2.2.2.1=J W:=by
 unfold kC ag al at a;dsimp-proj only[aj]at a;have c:decide (x.2.2.2.2.2.2.1=[])=I:=by simpa using e
 simp only[c,Ab,Bool.and_false]at a;cases d:mc x.2.2.2.2.2.2.1 with
 |none=>rw[d]at a;repeat' split at a<;>first|cases a|skip
 |some b=>
  rw[d]at a;cases b with|true=>rfl|false=>simp_all
def axx{x y:dx}(hx:kC x=J W)(hy:kC y=J W)(i dd c:L)(d:L×L)(t:Q (M aK))(e:ay):kC (i,dd,c,d,if(!decide ((if decide (x.2.2.2.2.2.2.1=[])=W then y.2.2.2.2.2.2.1 else x.2.2.2.2.2.2.1)=[]))=W then 2 else 1,t,if decide (x.2.2.2.2.2.2.1=[])=W then y.2.2.2.2.2.2.1 else x.2.2.2.2.2.2.1,0,e)=J W:=by
 have g:∀b:M ao,(b=[]\/mc b=J W)->kC (i,dd,c,d,if(!decide (b=[]))=W then 2 else 1,t,b,0,e)=J W:=λb a=>by by_cases h:b=[];subst h;rfl;have a:=a.resolve_left h;simp only[ip h,qQ,bH];show(aq (mc b) λf=>J (f&&(0:L)==0))=J W;rw[a];rfl
 grind [axw]
def axy{p:dy}(h:dH p)(id:L):∃u e,B6 p id=J (u,e)/\(e=0->dH u/\dR u=0):=by
 have V:=h.ns;have X:=h.nd;unfold B6 cG aN au aJ ag al ax bg bu;dsimp-proj only[aj];rw[(kI h.b).1,aB];by_cases hv:dR p=0;rotate_left;rw[aF (by simpa using hv)];grind;rw[aU (by simp[hv])];rcases Cv (p:=p) (by omega) id with C|⟨i,q,C⟩
 rw[C,aB,aF (by decide)];grind;let⟨b,N,D⟩:=U0 (by omega) q;rw[C,aB,aU (by simp),N,aB];cases b with
 |false=>exact⟨(O,O,0),8,rfl,λh=>by cases h⟩
 |true=>
  have g:=D rfl;have d:=axu (by omega) q N;have Y:=di (i:=i) (by omega);have E:a7.wrap ((i:L)+2)=((i+2:U):L):=by grind [bV]
  let⟨⟨k,hk,l⟩,Z⟩:=h.sg _ (eE q);let⟨_,P⟩:=h.sg _ (eE g);let⟨hnx,v⟩:=(Cy h).1 hv;let⟨d1,_,_,_,o1⟩:=v.1 _ (eE q);let⟨d2,_,_,_,o2⟩:=v.1 _ (eE g);have w:=(U9 (by omega) o1).1;have A:=(U9 (by omega) o2).1;unfold bI at d;rw[iS q,iS g]at d;simp only[Y,E,Nl,Nn,Np,jI,bM,ca,ite_self];rw[aF (by rw[dq q,dq g];rfl)];simp only[cS q,cS g];have j:=λ{z:dx}{u:dy}(B:dH u)=>axv (z:=z) h B hv g rfl rfl d.1 d.2;have n:∀z:dx,((p.2.1.getD []).take i++[z]++(p.2.1.getD []).drop (i+2)).length<=512:=λz=>by simp;omega
  generalize t:(p.2.1.getD [])[i]=x at *;generalize hs2:(p.2.1.getD [])[i+1]=y at *;have F:(p.1.getD []).getD x.2.1.toNat ((0:L),O)=(p.1.getD [])[k]:=by rw[hk,fB,iS l]
  have hd:=(h.bB _ (eE l)).1;have R:∀z:dx,(decide ((0:L)<=0/\(0:L)<=(i:L)/\(i:L)<=ah (p.2.1.getD []))&&(decide (((p.2.1.getD []).take i).length<=68719476736)&&(decide (0+((p.2.1.getD []).take i).length=((p.2.1.getD []).take i).length)&&(decide (((p.2.1.getD []).take i).length+1<=68719476736)&&((dW ((p.2.1.getD []).take i)).isSome==(dW ((p.2.1.getD []).take i)).isSome&&(decide ((0:L)<=((i+2:U):L)/\((i+2:U):L)<=ah (p.2.1.getD [])/\ah (p.2.1.getD [])<=ah (p.2.1.getD []))&&(decide (0+((p.2.1.getD []).take i++[z]).length=((p.2.1.getD []).take i++[z]).length)&&decide (((p.2.1.getD []).take i++[z]).length+((p.2.1.getD []).drop (i+2)).length<=68719476736))))))))=W:=λz=>by simp;omega
  by_cases r:(x.2.2.2.2.1 !=0||y.2.2.2.2.1 !=0)=W;rw[aF r];let⟨f,e,g1,g2⟩:=UZ hd x.2.2.1;rw[aF (by simp_all),F,g1,aB];simp only[];have hsl:=kY (f.getD []) x.2.2.2.1.2 y.2.2.2.1.1;rw[jF (by omega),aB,lG (by omega),aB];have G:=pI (x.2.2.2.2.2.1.getD []++(eT (f.getD []) x.2.2.2.1.2 y.2.2.2.1.1).1.getD []) [];have t0:bf ([]:M aK)=0:=rfl;rw[iE]at G;have S:bf ((aY (df (x.2.2.2.2.2.1.getD []++(eT (f.getD []) x.2.2.2.1.2 y.2.2.2.1.1).1.getD []))).getD [])+bf (y.2.2.2.2.2.1.getD [])<=536870912:=by rw[ch];unfold df;omega
  rw[lG S,aB,ch];have H:=pI (df (x.2.2.2.2.2.1.getD []++(eT (f.getD []) x.2.2.2.1.2 y.2.2.2.1.1).1.getD [])++y.2.2.2.2.2.1.getD []) [];rw[ch]at S;rw[iE]at H;generalize hW:df (df (x.2.2.2.2.2.1.getD []++(eT (f.getD []) x.2.2.2.1.2 y.2.2.2.1.1).1.getD [])++y.2.2.2.2.2.1.getD [])=a at *;have hWt:bf a<=1073741824:=by grind [df]
  rw[Cq (by simp_all),aB,ch];by_cases m:gR a=0;rw[aU (by simp[m]),aF (by simp;omega),aF (R _)];have hWs:=(wY m).1;refine⟨_,0,rfl,λ_=>Va (h.cut (λs t=>?_) (n _)) λB=>?_⟩;rw[js]at t;subst t;exact⟨⟨k,hk,l⟩,by simp only[ch];omega⟩;refine j B rfl rfl rfl rfl rfl (axx w A _ _ _ _ _ _) ?_ (by simp only[ch];omega) (by simp only[ch];exact m);have K:∀(c:Prop)[Decidable c],(if c then(2:L)else 1)≠3:=λc _=>by split<;>decide
  exact K _;rw[aF (by simpa using m)];grind;rw[aU r];rw[aF (by simp;omega),aF (R _)];refine⟨_,0,rfl,λ_=>Va (h.cut (λs t=>?_) (n _)) λB=>?_⟩;rw[js]at t;subst t;exact⟨⟨k,hk,l⟩,by simp[bf]⟩;have o:x.2.2.2.2.1=0/\y.2.2.2.2.1=0:=by simpa using r
  have T:∀{s:dx},kC s=J W->s.2.2.2.2.1=0->s.2.2.2.2.2.2.1=[]:=λ{s}hf h0=>by grind [kC]
  have n1:=T w o.1;have n2:=T A o.2;refine j B rfl rfl rfl rfl rfl ?_ (by simp) (by simp[bf]) rfl;simp only[n1,n2];rfl
def se(x:aK):M aK:=if x.1=1 then x.2.1.map (λc=>(1,[c],x.2.2))else[x]
def fl(f:M aK):M aK:=f.flatMap se
def Vb(x:aK):(se x).length=wid x:=by unfold se wid;split<;>simp
def Nv:∀f:M aK,(fl f).length=bL f|[]=>rfl|x::f=>by simp_all [Vb,fl,bL]
def axz(a b at':U)(x:aK):fl (nH a b at' x)=((se x).take (b-at')).drop (a-at'):=by
 have e:=Vb x;unfold nH;split;rename_i h;unfold fl se;by_cases c:x.1=1;have d:wid x=x.2.1.length:=by unfold wid;rw[aF c]
 simp only[c,bH,kK,CD,ug];grind [List.map_drop,List.map_take,NE];have d:wid x=1:=by unfold wid;rw[aU c]
 simp only[c,ca,kK,CD,ug];rw[d]at h;rw[show a-at'=0 by omega,List.drop_zero,NE (by simp;omega)];rename_i h;symm;apply List.eq_nil_of_length_eq_zero;grind
def Hn(a b:U):∀(f:M aK)(at':U),fl (fE a b at' f)=((fl f).take (b-at')).drop (a-at')|[],at'=>by simp[fE,fl]|x::f,at'=>by have d:=Hn a b f (at'+wid x);have e:=axz a b at' x;have c:=Vb x;rw[fE,show fl (nH a b at' x++fE a b (at'+wid x) f)=fl (nH a b at' x)++fl (fE a b (at'+wid x) f)from uy,e,d,show fl (x::f)=se x++fl f from kK,List.take_append,List.drop_append,c,List.length_take,c];congr 1;by_cases h:b-at'<=wid x;rw[show b-(at'+wid x)=0 by omega,show b-at'-wid x=0 by omega];simp;grind
def Vc:∀f:M aK,ko f=(fl f).flatMap oR
 |[]=>rfl|x::f=>by
  have a:=Vc f;have h1:(se x).flatMap oR=oR x:=by unfold se;split;simp_all [List.flatMap_map,oR];simp
  simp_all [ko,fl]
def Ho(c:ao):Prop:=vW (fQ c.toNat)=J 2
def axA{f:Q (M aK)}(hB:bf (f.getD [])<=536870912){q:U}(g:q<(fl (f.getD [])).length):aQ (λb=>b=W->∀c∈oR (fl (f.getD []))[q],Ho c) (py f q):=by
 have k:=Nv (f.getD []);have l:=jE (f.getD []);unfold py cG au ag al ax fA;dsimp-proj only[aj];rw[eY (by omega),jF (by omega),aB];unfold eT;rw[aU (show ¬((q:L)<0\/(q:L)+1<(q:L)\/(q:L)+1>(bL (f.getD []):L)) by omega)];simp only[bH,ch];have a:=Hn (q:L).toNat ((q:L)+1).toNat (f.getD []) 0;have hd:(((fl (f.getD [])).take (((q:L)+1).toNat-0)).drop ((q:L).toNat-0))=[(fl (f.getD []))[q]]:=by rw[show((q:L)+1).toNat-0=q+1 by omega,show(q:L).toNat-0=q by omega,iU g,List.drop_left' (by simp;omega)]
 rw[hd]at a;have i:=UM (q:L).toNat ((q:L)+1).toNat (f.getD []) 0;generalize fE (q:L).toNat ((q:L)+1).toNat 0 (f.getD [])=r at *;generalize (fl (f.getD []))[q]=y at *;refine aQ.ite (λh1=>aQ.ite (λ_=>aQ.ite (λh2=>aQ.ite (λ_=>aQ.ite (λ_=>aQ.call λv hv=>aQ.ret λd=>?_) λ_=>aQ.nil) λ_=>aQ.nil) λ_=>aQ.ret λh=>by cases h) λ_=>aQ.nil) λ_=>aQ.ret λh=>by cases h
 obtain⟨x,rfl⟩:=ayG.1 (show r.length=1 by simp at h1;omega);simp at h2 d hv;have h3:=i x (by simp) h2;unfold fl at a;rw[kK,CD,ug]at a;unfold se at a;rw[aF h2]at a;let⟨c,j⟩:=ayG.1 (show x.2.1.length=1 by have:=congrArg List.length a;simpa using this);rw[j]at a hv;simp at a hv;subst a d;intro m e;simp[oR]at e;subst e;exact hv
def axB{s:List ao}(l:s.length<=1073741824):aQ (λr=>r.1<r.2->∃c∈s,¬Ho c) (vX s):=by
 unfold vX aW ag;refine aQ.call λd h1=>aQ.ite (λ_=>aQ.ret λh=>cJ h (by decide)) λa=>aQ.call λm _=>aQ.ret λ_=>?_;have:=aQ.loop (f:=Bv s) (I:=λy=>∃k:U,y=(k:L)/\k<=s.length) (Q:=λr=>∃k:U,r=(k:L)/\k<=s.length/\∀h:k<s.length,¬Ho s[k]) (λy hy=>by
  obtain⟨k,rfl,hk⟩:=hy
  unfold Bv iC aJ ag cy ax aH aA fA
  refine aQ.ite (λh=>aQ.ite (λ_=>aQ.ite (λ_=>aQ.call λv hv=>aQ.ite (λ_=>aQ.ret ?_) λe=>aQ.ret ?_) λ_=>aQ.nil) λ_=>aQ.nil) λh=>aQ.ret ?_
  have h:k<s.length:=by simpa using h
  exact⟨k+1,by grind [bV],h⟩
  refine⟨k,rfl,hk,λh b=>e ?_⟩
  unfold Ho at b
  grind
  exact⟨k,rfl,hk,λg=>cJ g (by simpa using h)⟩) ⟨0,rfl,fZ _⟩ d h1
 obtain⟨k,rfl,hk,n⟩:=this;have i:k<s.length:=by have:k≠s.length:=λj=>a (by simp[j]);omega
 grind
section
variable{f:Option (List aK)}(hB:bf (f.getD [])<=536870912)
include hB
def axC{q:U}(d:q<(fl (f.getD [])).length){c:ao}(e:c∈oR (fl (f.getD []))[q])(g:¬Ho c):py f q=J I:=by
 have h:=Nv (f.getD []);have i:=jE (f.getD []);let⟨b,a,_⟩:=UN hB (p:=(q:L)) (by omega) (by omega);cases b with|false=>exact a|true=>exact cJ (axA hB d _ a rfl c e) g
def axD{x:L}{q:U}(hx:0<=x)(a:x<=q)(d:q<bL (f.getD []))(e:py f q=J false):aQ (λr=>x<=r/\r<=q) (bR (vZ f) x):=by
 have g:=jE (f.getD []);refine aQ.loop (I:=λy=>x<=y/\y<=q) (λy hy=>?_) ⟨sr _,a⟩;unfold vZ ag ax aH aA;refine aQ.call λb i=>aQ.ite (λh=>aQ.ret ?_) λh=>aQ.ret hy;subst h;have c:y≠q:=λj=>by grind
 rw[eY (by omega)];show x<=y+1/\y+1<=(q:L);omega
def axE{x:L}{q:U}(hx:(q:L)<x)(a:x<=bL (f.getD []))(d:py f q=J false):aQ (λr=>(q:L)<r/\r<=x) (bR (v7 f) x):=by
 have e:=jE (f.getD []);refine aQ.loop (I:=λy=>(q:L)<y/\y<=x) (λy hy=>?_) ⟨hx,sr _⟩;unfold v7 ag bg aH aA;rw[eY (by omega)];refine aQ.call λb g=>aQ.ite (λh=>aQ.ret ?_) λh=>aQ.ret hy;subst h;have c:y-1≠q:=λi=>by grind
 show(q:L)<y-1/\y-1<=x;omega
def agk{a b:L}{p:Option (List aK)×ay}{s:List ao}{t:L×L}{x y:L}(h1:l9 f a b=J p)(h2:tf p.1=J s)(h3:vX s=J t)(h:t.1<t.2)(j:bR (vZ f) a=J x)(k:bR (v7 f) b=J y):0<=a/\a<=x/\x<y/\y<=b/\b<=bL (f.getD []):=by
 have v:=Nv (f.getD []);have w:=jE (f.getD []);rw[jF (by omega)]at h1;cases h1;have l:=kY (f.getD []) a b;rw[zI (by omega)]at h2;cases h2;have m:=Hh ((eT (f.getD []) a b).1.getD []);let⟨c,e,n⟩:=axB (by omega) _ h3 h;unfold eT at e;by_cases hk:a<0\/b<a\/b>(bL (f.getD []):L);grind [ko];rw[aU hk,ch,Vc,Hn]at e;let⟨z,o,d⟩:=List.mem_flatMap.1 e;obtain⟨i,r,rfl⟩:=List.getElem_of_mem o;rw[List.length_drop,List.length_take]at r;rw[List.getElem_drop,List.getElem_take]at d;have u:a.toNat-0+i<(fl (f.getD [])).length:=by omega
 have g:=axC hB u d n;have A:=axD hB (x:=a) (q:=a.toNat-0+i) (by omega) (by omega) (by omega) g _ j;have hd:=axE hB (x:=b) (q:=a.toNat-0+i) (by omega) (by omega) g _ k;omega
end
def axF{a:Option (List sc)}{text:List ao}:aQ (λr=>(r.getD []).Pairwise (·< ·)/\∀b∈r.getD [],0<=b) (Bz a text):=by
 unfold Bz aW au aJ;refine aQ.ite (λ_=>aQ.ret ⟨List.Pairwise.nil,λb h=>by cases h⟩) λd=>aQ.call λr e=>aQ.ite (λ_=>aQ.ite (λ_=>aQ.ret ?_) λ_=>aQ.nil) λ_=>aQ.nil;have d:text.length<=1024:=by simp at d;omega
 refine aQ.loop (f:=Bx a text) (I:=λy=>∃k:U,y.2=(k:L)/\k<=text.length+1/\(y.1.getD []).Pairwise (·< ·)/\∀b∈y.1.getD [],0<=b/\b<(k:L)) (Q:=λr=>(r.getD []).Pairwise (·< ·)/\∀b∈r.getD [],0<=b) (λy hy=>?_) ⟨1,rfl,by omega,List.Pairwise.nil,λb h=>by cases h⟩ r e;let⟨o,i⟩:=y;obtain⟨k,rfl,hk,h1,h2⟩:=hy;simp only[]at h1 h2;unfold Bx au aJ ag al ax aH aA bu;refine aQ.ite (λc=>aQ.call λv _=>aQ.ite (λ_=>aQ.ret ?_) λ_=>aQ.nil) λ_=>aQ.ret ⟨h1,λb d=>(h2 b d).1⟩;have c:k<text.length:=by simpa using c
 refine⟨k+1,by grind [bV],by omega,?_,?_⟩;grind;grind
def pM(f:List aK)(k:U):U:=(((fl f).take k).flatMap oR).length
def axG(f:List aK){a b:U}(h:a<=b):pM f a<=pM f b:=by grind [pM,List.take_append_drop]
def axH(f:List aK)(k:U):(ko (fE 0 k 0 f)).length=pM f k:=by rw[Vc,Hn];simp[pM]
section
variable{f:Option (List aK)}(hB:bf (f.getD [])<=536870912)
include hB
def axI{off:L}{k:U}(hk:k<=bL (f.getD []))(h:(pM (f.getD []) k:L)=off):aQ (λr=>∃j:U,r=(j:L)/\j<=bL (f.getD [])/\(pM (f.getD []) j:L)=off) (bR (BA f (bL (f.getD []):L)) (k:L)):=by
 have i:=jE (f.getD []);have l:=Nv (f.getD []);refine aQ.loop (I:=λy=>∃j:U,y=(j:L)/\j<=bL (f.getD [])/\(pM (f.getD []) j:L)=off) (λy hy=>?_) ⟨k,rfl,hk,h⟩;obtain⟨j,rfl,c,b⟩:=hy;unfold BA au aJ ag al ax aH aA;refine aQ.ite (λa=>?_) λ_=>aQ.ret ⟨j,rfl,c,b⟩;have a:j<bL (f.getD []):=by simpa using a
 rw[eY (by omega),jF (by omega),aB];unfold eT;rw[aU (show ¬((j:L)<0\/(j:L)+1<(j:L)\/(j:L)+1>(bL (f.getD []):L)) by omega)];simp only[ch];refine aQ.ite (λ_=>aQ.ite (λ_=>aQ.ret ⟨j,rfl,c,b⟩) λd=>aQ.ret ⟨j+1,by omega,a,?_⟩) λ_=>aQ.nil;have e:=Hn (j:L).toNat ((j:L)+1).toNat (f.getD []) 0;have hd:(((fl (f.getD [])).take (((j:L)+1).toNat-0)).drop ((j:L).toNat-0))=[(fl (f.getD []))[j]]:=by rw[show((j:L)+1).toNat-0=j+1 by omega,show(j:L).toNat-0=j by omega,List.take_succ_eq_append_getElem (by omega),List.drop_left' (by simp;omega)]
 rw[hd]at e;generalize fE (j:L).toNat ((j:L)+1).toNat 0 (f.getD [])=r at *;simp only[pP,bne_iff_ne,ne_eq,not_or,Decidable.not_not]at d;obtain⟨x,rfl⟩:=List.length_eq_one_iff.1 (show r.length=1 by grind [ef]);have h3:x.1=3:=d.2;have g:fl [x]=[x]:=by simp[fl,se,h3]
 rw[g]at e;have hy:(fl (f.getD []))[j]=x:=by grind
 rw[<-b];unfold pM;rw[List.take_succ_eq_append_getElem (by omega),List.flatMap_append,hy];simp[oR,h3]
def agl(off:L):aQ (λr=>r= -1\/∃k:U,r=(k:L)/\k<=bL (f.getD [])/\(pM (f.getD []) k:L)=off) (vY f off):=by
 have e:=jE (f.getD []);unfold vY aW aJ;refine aQ.ite (λ_=>aQ.ret (.inl rfl)) λ_=>aQ.call λg _=>aQ.ite (λ_=>aQ.ret (.inl rfl)) λ_=>?_;rw[mg (by omega),aB];refine aQ.call λr c=>aQ.sum (λz b=>aQ.ret (.inr ?_)) λ_ _=>aQ.ret (.inl rfl);have:=aQ.loop (f:=BB f off (bL (f.getD []):L)) (I:=λy=>∃k:U,y=(k:L)) (Q:=tU (λz:L=>∃k:U,z=(k:L)/\k<=bL (f.getD [])/\(pM (f.getD []) k:L)=off) λ_=>dL) (λy hy=>by
  obtain⟨k,rfl⟩:=hy
  unfold BB aW aJ ag ax aH aA
  refine aQ.ite (λhk=>?_) λ_=>aQ.ret trivial
  have hk:k<=bL (f.getD []):=by simpa using hk
  rw[jF (by omega),aB]
  unfold eT
  rw[aU (show ¬((0:L)<0\/(k:L)<0\/(k:L)>(bL (f.getD []):L)) by omega)]
  have d:=Up (0:L).toNat (k:L).toNat (f.getD []) 0
  rw[zI (by rw[ch];omega),aB,ch]
  refine aQ.ite (λ_=>aQ.ret ⟨k+1,by grind [bV]⟩) λa=>aQ.call λz b=>aQ.ret ?_
  have a:((ko (fE 0 k 0 (f.getD []))).length:L)=off:=by simpa using a
  rw[axH]at a
  exact axI hB hk a _ b) ⟨0,rfl⟩ r c
 subst b;exact this
end
def zM(l:List (L×L))(m:L):Prop:=(∀x∈l,0<=x.1/\x.1<x.2/\x.2<=m)/\l.Pairwise λx y=>x.2<=y.1
def zM.snoc{l:List (L×L)}{m m' x y:L}(h:zM l m)(f:0<=m)(h1:m<=x)(h2:x<y)(h3:y<=m'):zM (l++[(x,y)]) m':=by
 refine⟨λz c=>?_,?_⟩;rcases List.mem_append.1 c with c|c
 have:=h.1 z c;omega;grind;rw[List.pairwise_append];exact⟨h.2,List.pairwise_singleton _ _,λa e b d=>by rw[List.mem_singleton]at d;subst d;have:=h.1 a e;simp only[];omega⟩
def axJ{m:Option (M sc)}{f:Option (M aK)}(hB:bf (f.getD [])<=536870912):aQ (λr=>zM (r.getD []) (bL (f.getD []))) (BE m f):=by
 have F:=jE (f.getD []);unfold BE aW au al bu;refine aQ.call λs G=>aQ.call λbr K=>aQ.ite (λN=>aQ.call λr hr=>aQ.ite (λ_=>aQ.ite (λ_=>aQ.ret ?_) λ_=>aQ.nil) λ_=>aQ.nil) λ_=>aQ.nil;let⟨ha,h0⟩:=axF _ K;obtain⟨bs,A⟩:∃bs,br.getD []=bs:=⟨_,rfl⟩;rw[A]at ha h0 N;have N:bs.length<=68719476735:=by simp at N;omega
 refine aQ.loop (f:=BD f br) (I:=λy=>∃(k:U)(E:L),y.2.2=(k:L)/\k<=bs.length+1/\zM (y.1.getD []) E/\0<=E/\E<=bL (f.getD [])/\(y.2.1= -1\/E<=y.2.1)/\∀j(h:j<bs.length),k<=j->∀z:U,vY f bs[j]=J (z:L)->E<=z) (Q:=λr=>zM (r.getD []) (bL (f.getD []))) (λy hy=>?_) ⟨0,0,rfl,fZ _,⟨λx h=>(by cases h),VB⟩,sr _,by omega,.inr (sr _),λ_ _ _ _ _=>by omega⟩ r hr;let⟨o,fr,i⟩:=y;obtain⟨k,E,rfl,hk,n,c,P,R,S⟩:=hy;simp only[]at n R;unfold BD aW au aJ al ax aH aA bu;dsimp-proj only[aj];simp only[A];refine aQ.ite (λq=>aQ.ite (λ_=>?_) λ_=>aQ.nil) λ_=>aQ.ret ⟨λx B=>by have:=n.1 x B;omega,n.2⟩;have q:k<bs.length+1:=by simp at q;omega
 have hw:=di (i:=k) (by omega);have u:∀i j(C:i<j)(d:j<bs.length),bs[i]<bs[j]:=λi j C d=>xc.1 ha i j (by omega) d C;rw[mg (by omega),aB];simp only[sj,fB,hw];refine aQ.ite (λhc=>?_) λhc=>?_;have T:k<bs.length:=by grind
 have hb:(bs++[(-1:L)]).getD k 0=bs[k]:=by grind
 rw[hb];refine aQ.call λto V=>?_;have e:=agl hB bs[k] to V;have H:∀z:U,to=(z:L)->∀j(h:j<bs.length),k+1<=j->∀z':U,vY f bs[j]=J (z':L)->z<=z':=λz hz j d g z' D=>by
  rcases e with e|⟨l,e1,_,e2⟩
  omega;rcases agl hB bs[j] _ D with hp'|⟨z2,e3,_,e4⟩
  omega;have q:=u k j (by omega) d;apply Decidable.by_contra;intro hn;have:=axG (f.getD []) (a:=z2) (b:=l) (by omega);omega
 have X:to= -1\/E<=to:=by
  rcases e with e|⟨l,e1,_,_⟩
  exact .inl e;grind
 refine aQ.call λp v=>aQ.call λs G=>aQ.call λt F=>aQ.ite (λw=>aQ.call λx B=>aQ.call λy hy=>aQ.ite (λ_=>aQ.ret ?_) λ_=>aQ.nil) λ_=>aQ.ret ?_;have w:t.1<t.2:=by simpa using w
 let⟨g1,g2,Y,Z,g5⟩:=agk hB v G F w B hy;obtain⟨l,rfl,_,_⟩:∃l:U,to=(l:L)/\l<=bL (f.getD [])/\(pM (f.getD []) l:L)=bs[k]:=by
  rcases e with e|e
  omega;exact e
 exact⟨k+1,l,rfl,by omega,by simp only[fk];exact n.snoc c (by omega) Y Z,by omega,g5,.inr (sr _),λj d g z' D=>by grind⟩;exact⟨k+1,E,rfl,by omega,n,c,P,X,λj d g=>S j d (by omega)⟩;have T:k=bs.length:=by grind
 refine aQ.call λp v=>aQ.call λs G=>aQ.call λt F=>aQ.ite (λw=>aQ.call λx B=>aQ.call λy hy=>aQ.ite (λ_=>aQ.ret ?_) λ_=>aQ.nil) λ_=>aQ.ret ?_;have w:t.1<t.2:=by simpa using w
 let⟨g1,g2,Y,Z,g5⟩:=agk hB v G F w (show bR (vZ f) fr=J x from B) (show bR (v7 f) (bL (f.getD []):L)=J y from hy);exact⟨k+1,bL (f.getD []),rfl,by omega,by simp only[fk];exact n.snoc c (by omega) Y Z,by omega,sr _,.inr (sr _),λj d g=>by omega⟩;exact⟨k+1,E,rfl,by omega,n,c,P,.inr P,λj d g=>by omega⟩
def BV(D:M Dc)(b:pK)(Q:dx->Prop):Prop:=b.1=D/\b.2.2=((b.2.1.getD []).length:L)+1/\tZ D (b.2.1.getD []) b.2.2/\∀s∈b.2.1.getD [],Q s
def tZ.snoc{D:M Dc}{l:M dx}{nx:L}{s:dx}(h:tZ D l nx)(h1:Ns D (nx+1) s)(h2:∀x∈l,x.1≠s.1/\gS x s):tZ D (l++[s]) (nx+1):=by
 refine⟨λx c=>?_,?_⟩;rcases mm.1 c with c|c
 let⟨d,e,f,i,g⟩:=h.1 x c;exact⟨d,e,f,by omega,g⟩;grind;rw[sf];exact⟨h.2,List.pairwise_singleton _ _,λa j b k=>by grind⟩
def axK{D:M Dc}{i:U}{d:Dc}(hd:D[i]?=J d){x:pK}{r1:Q (M L)}{s2:L×pK}{r2:Q (M (L×L))}{u:U}(m:(r1.getD []).getD s2.1.toNat 0=(u:L))(o:w7 (d.2.getD []) (u:L)=W)(l:zM (r2.getD []) (bL ((iF d u).getD [])))(p:(r2.getD []).length<=1025){y:pK}(hy:BV D y λs=>s.2.1<(i:L)\/(s.2.1=(i:L)/\s.2.2.1<(u:L))):aQ (λr=>BV D r λs=>s.2.1<(i:L)\/(s.2.1=(i:L)/\s.2.2.1<=(u:L))) (bR (yW ((i:L),x) r1 s2 r2) (0,y)):=by
 refine aQ.loop (f:=yW ((i:L),x) r1 s2 r2) (I:=λz=>∃k:U,z.1=(k:L)/\BV D z.2 λs=>(s.2.1<(i:L)\/(s.2.1=(i:L)/\s.2.2.1<(u:L)))\/(s.2.1=(i:L)/\s.2.2.1=(u:L)/\∀k'(h:k'<(r2.getD []).length),k<=k'->s.2.2.2.1.2<=(r2.getD [])[k'].1)) (λz t=>?_) ⟨0,rfl,hy.1,hy.2.1,hy.2.2.1,λs b=>.inl (hy.2.2.2 s b)⟩;let⟨c,z⟩:=z;obtain⟨k,rfl,h1,h2,h3,g⟩:=t;simp only[]at h1 h2 h3 g;unfold yW aN au aJ al ax aH aA bu;refine aQ.ite (λa=>aQ.ite (λv=>aQ.ret ?_) λ_=>aQ.nil) λ_=>aQ.ret ⟨h1,h2,h3,λs b=>by have:=g s b;omega⟩;have a:k<(r2.getD []).length:=by simpa using a
 have w:(z.2.1.getD []).length+1<=68719476736:=by simp at v;omega
 rw[bV (n:=z.2.2+1) (by omega) (by omega)];simp only[m,cS a];rw[bV (n:=(k:L)+1) (by omega) (by omega)];have e:=l.1 _ (eE a);have j:=l.2;rw[xc]at j;refine⟨k+1,by omega,h1,?_,?_,λs b=>?_⟩;grind;simp only[fk];refine h3.snoc ⟨d,⟨⟨i,rfl,hd⟩,o,e.1,e.2.1,e.2.2⟩,by simp only[];omega,by simp only[];omega,Nu rfl (by simp[bf]) rfl (show(0:L)≠3 by decide)⟩ λs b=>⟨?_,?_⟩;let⟨_,_,_,q,_⟩:=h3.1 s b;simp only[];omega;have:=g s b;unfold gS;grind;grind
def axL{bB:Q (M Dc)}{a:Q (M sc)}(A:w6 a){i:U}{d:Dc}(hd:(bB.getD [])[i]?=J d)(m:kH d){x:pK}{r1:Q (M L)}(B:r1.getD []=(km (d.2.getD []) (d.2.getD []).length).map fQ){y:pK}(hy:BV (bB.getD []) y λs=>s.2.1<(i:L)):aQ (λr=>BV (bB.getD []) r λs=>s.2.1<((i+1:U):L)) (bR (yX bB a ((i:L),x) r1) (0,y)):=by
 have C:=m.2.1;have D:=Co (d.2.getD []) (d.2.getD []).length;have E:(r1.getD []).length<=131075:=by grind
 have v:∀j o(h:j<o)(F:o<(r1.getD []).length),(r1.getD [])[j]<(r1.getD [])[o]:=λj o h F=>by grind [US,xc]
 refine aQ.loop (f:=yX bB a ((i:L),x) r1) (I:=λz=>∃k:U,z.1=(k:L)/\BV (bB.getD []) z.2 λs=>s.2.1<(i:L)\/(s.2.1=(i:L)/\∀k'(h:k'<(r1.getD []).length),k<=k'->s.2.2.1<(r1.getD [])[k'])) (λz b=>?_) ⟨0,rfl,hy.1,hy.2.1,hy.2.2.1,λs g=>.inl (hy.2.2.2 s g)⟩;let⟨c,z⟩:=z;obtain⟨k,rfl,b⟩:=b;unfold yX bS aW aN al ax aH aA;refine aQ.ite (λl=>aQ.ite (λ_=>?_) λ_=>aQ.nil) λ_=>aQ.ret ⟨b.1,b.2.1,b.2.2.1,λs g=>by have:=b.2.2.2 s g;omega⟩;have l:k<(r1.getD []).length:=by simpa using l
 simp only[cS l];obtain⟨u,G,p⟩:∃u:U,(r1.getD [])[k]=(u:L)/\u∈km (d.2.getD []) (d.2.getD []).length:=by grind
 have q:(bB.getD []).getD ((i:L)).toNat ((0:L),O)=d:=by grind
 rw[q,G];let⟨H,e,c1,_⟩:=Cu m u;rw[c1,aB];simp only[];refine aQ.call λrg n=>aQ.call λr t=>aQ.ret ?_;have K:=axJ (by omega) _ n;let⟨N,w,P⟩:=afs A (f:=iF d u) (by omega);rw[n]at w;cases w;have h3:=axK hd (x:=x) (r1:=r1) (s2:=((k:L),z)) (r2:=rg) (u:=u) (by grind) (w8.2 ⟨u,rfl,p⟩) K P (y:=z) ⟨b.1,b.2.1,b.2.2.1,λs g=>by
  rcases b.2.2.2 s g with h|⟨R,S⟩
  exact .inl h
  grind⟩ _ t
 refine⟨k+1,by grind [bV],h3.1,h3.2.1,h3.2.2.1,λs g=>?_⟩;rcases h3.2.2.2 s g with h|⟨R,S⟩
 exact .inl h;grind
def axM{bB:Option (M Dc)}{b:Option (M sc)}(w:w6 b)(m:∀d∈bB.getD [],(d.2.getD []).length<=1048576/\(ep (d.2.getD [])).length<=1073741824){p:dy}(x:dH p):aQ (λr=>r.1=p->r.2=0->dR p=0) (wm bB b):=by
 unfold wm aW au aJ al;refine aQ.ite (λ_=>aQ.ret λ_ h=>cJ h (show(3:L)≠0 by decide)) λt=>aQ.call λy h1=>?_;have t:(bB.getD []).length<=16:=by simp at t;omega
 have hv:=aQ.loop (f:=BN bB) (I:=λz=>∃k:U,z=(k:L)/\∀j(h:j<(bB.getD []).length),j<k->vD (bB.getD [])[j]=0) (Q:=tU (λz:L×dy=>z.1≠0) λ_=>∀d∈bB.getD [],vD d=0) (λz g=>by
  obtain⟨k,rfl,hk⟩:=g
  unfold BN bS aN ag al ax aH aA
  refine aQ.ite (λa=>aQ.ite (λ_=>?_) λ_=>aQ.nil) λa=>aQ.ret λd hd=>?_
  have a:k<(bB.getD []).length:=by simpa using a
  have l:=m _ (eE a)
  rw[cS a,(Hj l.1 l.2).1,aB]
  refine aQ.ite (λh=>aQ.ret (show vD (bB.getD [])[k]≠0 by simpa using h)) λh=>aQ.ret ⟨k+1,by grind [bV],λj u A=>?_⟩
  grind
  obtain⟨j,u,rfl⟩:=qV hd
  exact hk j u (by simp at a;omega)) ⟨0,rfl,λ_ _ h=>by omega⟩ y h1
 refine aQ.sum (λz g=>aQ.ite (λ_=>aQ.ite (λ_=>aQ.ret λ_ h=>?_) λ_=>aQ.nil) λ_=>aQ.nil) λz g=>aQ.ite (λ_=>aQ.call λv B=>aQ.ite (λ_=>aQ.ret λ_ h=>cJ h (show(3:L)≠0 by decide)) λi=>aQ.ite (λ_=>aQ.ite (λ_=>aQ.ret λe _=>?_) λ_=>aQ.nil) λ_=>aQ.nil) λ_=>aQ.nil;subst g;exact cJ h hv;subst g;have hv:∀d∈bB.getD [],vD d=0:=hv;have n:∀d∈bB.getD [],kH d:=λd hd=>(Hj (m d hd).1 (m d hd).2).2.2 (hv d hd);have:=aQ.loop (f:=EY bB b) (I:=λz=>∃k:U,z.1=(k:L)/\BV (bB.getD []) z.2 λs=>s.2.1<(k:L)) (Q:=λr=>BV (bB.getD []) r λ_=>dL) (λz g=>by
  let⟨c,z⟩:=z
  obtain⟨k,rfl,g⟩:=g
  unfold EY bS aW aN al ax aH aA
  refine aQ.ite (λa=>aQ.ite (λ_=>?_) λ_=>aQ.nil) λ_=>aQ.ret ⟨g.1,g.2.1,g.2.2.1,λ_ _=>trivial⟩
  have a:k<(bB.getD []).length:=by simpa using a
  have hd:=n _ (eE a)
  have C:=hd.2.1
  simp only[cS a]
  rw[M2,Cp (by omega),aB]
  refine aQ.call λr o=>aQ.ret ⟨k+1,by grind [bV],?_⟩
  exact axL w (eD a) hd (by rw[ch]) g _ o) ⟨0,rfl,by simp,by simp,⟨λs q=>(by cases q),VB⟩,λs q=>(by cases q)⟩ v B
 have i:(v.2.1.getD []).length<=512:=by simp at i;omega
 rw[Cy x,<-e];let⟨D,E,F,_⟩:=this;grind
def Vd{p:dy}(h:dH p)(hv:dR p=0){r:dy×L}(b:r.2=0->dH r.1/\dR r.1=0)(a:U):∃q,(if(r.2 !=0)=W then J (p,(a:L))else J (r.1,(a:L)))=J (q,(a:L))/\dH q/\dR q=0:=by grind
def Vf{p:dy}(h:dH p)(hv:dR p=0){s:dx}(c:bf (s.2.2.2.2.2.1.getD [])<=67108864)(a:U):∃q,(aq (me p s) λr=>if(r.2 !=0)=W then J (p,(a:L))else J (r.1,(a:L)))=J (q,(a:L))/\dH q/\dR q=0:=by unfold me ag;rw[(kI h.b).1,aB,aU (by simp[hv])];let⟨d,e,f,g⟩:=af4 h c;rw[f,aB,aB];exact Vd h hv (r:=(d,e)) (λi=>⟨g i,by grind [axo]⟩) a
set_option maxHeartbeats 1000000 in
def axN{p:dy}(h:dH p)(hv:dR p=0)(o:Q (M L)){N:U}(X:N<=1000000000000):∃(g:dy)(u:U),B8 p (o,(N:L))=J (g,(u:L))/\(dH g/\dR g=0)/\u<=N+1000010:=by
 have H:=h.ns
 unfold B8 cG aN ag al ax bg;dsimp-proj only[aj]
 by_cases Y:(p.2.1.getD []).length=0
 ·rw[aF (by simp_all)];grind
 rw[aU (by simp_all)]
 obtain⟨i,l,n1⟩:=hO (n:=ah (p.2.1.getD [])) (by simp;omega) (by simp;omega) o (N:=N) (by omega)
 have l:i<(p.2.1.getD []).length:=by simp at l;exact l
 obtain⟨f,K,w⟩:=Nq h l
 obtain⟨_,P⟩:=h.sg _ (eE l)
 obtain⟨c,Z,n2⟩:=hO (n:=8) (by omega) (by omega) o (N:=N+1) (by omega)
 rw[n1,aB,aF (dq l)]
 simp only[cS l,K,aB]
 rw[n2,aB]
 generalize (p.2.1.getD [])[i]=x at *
 simp only[]
 have R:=jE (f.getD [])
 have S:=jE (x.2.2.2.2.2.1.getD [])
 by_cases c0:((c:L)==0)=W
 ·rw[aF c0,mg (by omega),aB]
  have C:0<lX 1 (a7.wrap ((bL (f.getD []):L)-1))/\lX 1 (a7.wrap ((bL (f.getD []):L)-1))<=1099511627776:=by
   grind [bV,lX]
  obtain⟨a,_,y⟩:=hO C.1 C.2 o (N:=N+1+1) (by omega)
  rw[y,aB,mg (by omega),aB]
  have E:a7.wrap ((bL (x.2.2.2.2.2.1.getD []):L)+1)=(bL (x.2.2.2.2.2.1.getD []):L)+1:=eY (by omega)
  obtain⟨b,_,T⟩:=hO (n:=a7.wrap ((bL (x.2.2.2.2.2.1.getD []):L)+1)) (by rw[E];omega) (by rw[E];omega) o (N:=N+1+1+1) (by omega)
  rw[T,aB]
  obtain⟨g,e,z,A⟩:=axt h x.1 (a7.wrap (1+(a:L))) (b:L)
  rw[z,aB]
  obtain⟨q,j,k⟩:=Vd h hv (r:=(g,e)) A (N+1+1+1+1)
  exact⟨q,_,j,k,by omega⟩
 rw[aU c0]
 by_cases c1:((c:L)==1)=W
 ·rw[aF c1]
  obtain⟨g,e,z,A⟩:=axy h x.1
  rw[z,aB]
  obtain⟨q,j,k⟩:=Vd h hv (r:=(g,e)) A (N+1+1)
  exact⟨q,_,j,k,by omega⟩
 rw[aU c1]
 by_cases F:((c:L)==2)=W
 ·rw[aF F]
  obtain⟨q,j,k⟩:=Vf h hv (s:=(x.1,x.2.1,x.2.2.1,x.2.2.2.1,0,O,[],0,x.2.2.2.2.2.2.2.2)) (by simp[bf]) (N+1+1)
  exact⟨q,_,j,k,by omega⟩
 rw[aU F]
 by_cases G:((c:L)==3)=W
 ·rw[aF G]
  obtain⟨q,j,k⟩:=Vf h hv (s:=(x.1,x.2.1,x.2.2.1,x.2.2.2.1,x.2.2.2.2.1,x.2.2.2.2.2.1,x.2.2.2.2.2.2.1,x.2.2.2.2.2.2.2.1,!x.2.2.2.2.2.2.2.2)) (by simp only[];omega) (N+1+1)
  exact⟨q,_,j,k,by omega⟩
 rw[aU G]
 obtain⟨a,ha,y⟩:=hO (n:=3) (by omega) (by omega) o (N:=N+1+1) (by omega)
 obtain⟨t,v,t1,t2,t3⟩:=af7 w o 0 (N:=N+1+1+1) (by omega)
 obtain⟨nm,V⟩:=af6 o (N:=v) (by omega)
 rw[y,aB]
 simp only[]
 rw[t1,aB]
 simp only[]
 rw[V,aB]
 simp only[]
 obtain⟨z1,_,k1⟩:=hO (n:=5) (by omega) (by omega) o (N:=v+1) (by omega)
 obtain⟨z2,_,k2⟩:=hO (n:=3) (by omega) (by omega) o (N:=v+1) (by omega)
 obtain⟨z3,_,k3⟩:=hO (n:=5) (by omega) (by omega) o (N:=v+1+1) (by omega)
 simp only[k1,k2,aB]
 simp only[k3,aB]
 have D:∀(st:L)(m:M ao)(fr:L)(B:ay)(d:U),d<=N+1000010->∃(g:dy)(u:U),(aq (me p (x.1,x.2.1,x.2.2.1,x.2.2.2.1,st,t,m,fr,B)) λr=>if(r.2 !=0)=W then J (p,(d:L))else J (r.1,(d:L)))=J (g,(u:L))/\(dH g/\dR g=0)/\u<=N+1000010:=λst m fr B d hM=>by
  obtain⟨q,j,k⟩:=Vf h hv (s:=(x.1,x.2.1,x.2.2.1,x.2.2.2.1,st,t,m,fr,B)) (by simp only[];omega) d
  grind
 repeat' split
 all_goals
  refine D _ _ _ _ _ ?_
  omega
def axO(o:Q (M L)):∃(p:dy)(b:U),Ca 10 (o,0)=J (p,(b:L))/\dH p/\dR p=0:=by
 unfold Ca aW au ag ax;let⟨l,g,A,u,F⟩:=af3 o (N:=0) (by omega);let⟨G,B,v⟩:=af9;rw[show((o,0):Q (M L)×L)=(o,((0:U):L))from rfl,A,aB,B,aB,aF (by simp)];let⟨p,e,w,C⟩:=af1 v (bB:=l) u;simp only[];rw[w,aB];by_cases t:e=0;rotate_left;rw[aF (by simpa using t)];exact⟨(O,O,1),g,rfl,⟨by simp,λd hd=>by simp at hd,by simp,λs D=>by simp at D⟩,by decide⟩;rw[aU (by simp[t])];have x:=C t;have hv:dR p=0:=axM v u x _ w rfl t;let⟨k,hk,n1⟩:=hO (n:=a7.wrap (10+1)) (by decide) (by decide) o (N:=g) (by omega);have hk:(k:L)<11:=hk;rw[n1,aB];simp only[];let⟨r,H,b,K,P⟩:=gl (f:=Gi (o,((0:U):L))) (λy=>∃i a:U,y.1=(i:L)/\i<=10/\y.2.1=(a:L)/\a<=g+1+1000010*(10-i)/\dH y.2.2/\dR y.2.2=0) (λy=>y.1.toNat) (λr=>∃b:U,r.1=(b:L)/\dH r.2/\dR r.2=0) (λy h=>by
  let⟨c,m,q⟩:=y
  obtain⟨i,a,rfl,R,rfl,S,z,j⟩:=h
  simp only[]at z j
  unfold Gi aJ bg aH aA
  simp only[]
  by_cases E:0<i
  have hd:a7.wrap ((i:L)-1)=((i-1:U):L):=by grind [bV]
  let⟨T,b,V,X,Y⟩:=axN z j o (N:=a) (by omega)
  grind [aB]
  grind) ((k:L),((g+1:U):L),p) ⟨k,g+1,rfl,by omega,rfl,by omega,x,hv⟩ (cM (cC (by simp;omega)))
 grind [aB]
theorem agm{a:L->M U}{rg:U->L×L}{tg:U->Q (M (L×M ao×L))}:∀(us:M L)(d:Dc),(∀u,a u=[])->kl a rg tg us d=J (d,0)|[],d,_=>rfl|u::us,d,h=>by rw[kl,aF (h u)];exact agm us d h
theorem axP{p:dy}(a:dH p)(hv:dR p=0){n:U}(d:n<(p.1.getD []).length)(k:∀s∈p.2.1.getD [],s.2.1=(n:L)->s.2.2.2.2.1≠3):tE p n=J (ep ((p.1.getD [])[n].2.getD []),0):=by
 let⟨_,_,f⟩:=U4 (preview:=I) (num:=(n:L)) (keep:=U6 (p.2.1.getD [])) a.b (kI a.b).2.2 (λi g _=>aga g);let⟨b,l,m,o⟩:=Nr a.b (n:L);let⟨q,e,r,t,_,_⟩:=f hv (by omega) (by omega);have c:=(kI a.b).2.2 hv;have hd:=c.bB _ (eE d);have h:=hd.2.1;have j:=hd.2.2;have hk:∀u,md (p.2.1.getD []) (U6 (p.2.1.getD [])) n u=[]:=λu=>by grind [md,List.filter_eq_nil_iff,U6,bI]
 grind [zh,ch,agm,Hl,aB,Ck]
def ago(l:Q (M L)):∃b,Gg (J [l])=J b:=by
 unfold Gg aW;have:bR (abx (J [l])) (0,0)=J (aaX a7 (0+ah (X l []))):=by rfl
 simp_all
def agp{p:dy}(a:Nk p){i:U}(hi:i<Y (X p.2.1 [])):∃k d,(X p.2.1 [])[i].2.1=((k:U):L)/\k<16/\(X p.1 [])[k]?=J d/\kH d/\∃f,bf (X f [])<=268435462/\
  f=(eT (X (iF d (G (X p.2.1 [])[i].2.2.1)) []) (X p.2.1 [])[i].2.2.2.1.1 (X p.2.1 [])[i].2.2.2.1.2).1/\tx p (i:L)=J f/\ww (i:L) (mV p)=J f:=by
 obtain⟨k,d,hk,hd,j,n,h1,h2,hv,o⟩:=a.sg _ (eE hi)
 have g:k<Y (X p.1 []):=(ik.1 hd).1
 have h:(X p.1 [])[k]=d:=(ik.1 hd).2
 have c:kH d:=h▸a.bB _ (eE g)
 refine⟨k,d,hk,by have:=a.nd;omega,hd,c,_,?_,rfl,?_,?_⟩
 all_goals
  obtain⟨b,q,_⟩:=w8.1 j
  obtain⟨l,e,c1,r⟩:=Cu c b
  have m:=kY (X (iF d b) []) (X p.2.1 [])[i].2.2.2.1.1 (X p.2.1 [])[i].2.2.2.1.2
 ·grind
 ·grind [tx,dq,fB,aB,jF]
 ·unfold ww wu mV cG aN au al;dsimp-proj only[aj]
  grind [dq,afU,ch,aB,fB,MV]
def agq{p:dy}(h:qL p)(a:Nk p){i:U}(hi:i<Y (X p.2.1 [])):∃b,rX (mV p) i=J b/\tY p (i:L) W=J b:=by
 let⟨k,d,hk,e,hd,j,f,l,c,hT,w⟩:=agp a hi;let⟨_,m,n,o,_,_,_,_,_,q⟩:=a.sg _ (eE hi);have:m=d:=by grind
 subst this;rw[<-c]at q;have r:=eP (X f []);have u:=h.tg _ (eE hi);have g:=eP (X (X p.2.1 [])[i].2.2.2.2.2.1 []);let⟨b,c1,x⟩:=afG (s:=f) (t:=(X p.2.1 [])[i].2.2.2.2.2.1) (by omega) (by omega);have v:bI (X (mV p).2.1 []) i=(X p.2.1 [])[i]:=by unfold bI mV;simp_all
 grind [rX,LW,tY,dq,aB,cS]
def axT{p:dy}(a:qL p)(num:L):∃b e,LX p num=J (b,e)/\U5 p num=J (b,e):=by
 have g:dR p=0->∀i,i<Y (X p.2.1 [])->(bI (X p.2.1 []) i).2.1=num->tY p (i:L) W=J (X (rX (mV p) i) I):=λh i c _=>by let⟨b,h1,h2⟩:=agq a ((kI a).2.2 h) c;rw[h1,h2];rfl
 let⟨w,x,l⟩:=Hm a num;unfold LX U5 au ag;by_cases h:dR p=0;rotate_left;have m:w9 p num W=J ((0,O),dR p):=by grind [w9,kI,aB]
 simp_all;let⟨m,y,n⟩:=U4 (preview:=W) (num:=num) (keep:=λi=>X (rX (mV p) i) I) a (kI a).2.2 (g h);by_cases o:num<0\/(Y (X p.1 []):L)<=num;simp_all;rw[l h o,aB];let⟨q,e,r,s,t,u⟩:=n h (by omega) (by omega);have v:zi num (mV p)=J (q,e):=by
  unfold zi;rw[aF];exact s;rw[gT];intro i c;have c:i<Y (X p.2.1 []):=by simpa[mV]using c
  let⟨b,h1,h2⟩:=agq a ((kI a).2.2 h) c;let⟨k,d,hk,j,_⟩:=agp ((kI a).2.2 h) c;grind [bI,mV,ch,rW]
 rw[r,aB];simp only[bH,sq,bM,ca];rw[v,aB];by_cases f:e=0;let⟨z,A⟩:=t f;subst f;simp only[];rw[Cl (by omega) (by omega),aB,aU (by simp),Ck (by omega) (by omega),aB];grind;rw[aF (by simpa using f),u f];grind [Cl,ep,aB]
def kD:Dc:=(3,J [(I,[],[116,101,120,116,10,34]),(W,[49],[79,110,101,46,32,84,119,111,46]),(I,[],[34])])
def kP0:dy:=(J [kD],J [(1,0,1,(0,4),0,O,[],0,I),(2,0,1,(5,9),0,O,[],0,I)],3)
def kP1:dy:=(J [kD],J [(1,0,1,(0,4),3,J [(1,[85,34,110,46],0)],[97,110,110],0,I),(2,0,1,(5,9),0,O,[],0,I)],3)
def qM:dy:=(J [kD],J [(1,0,1,(0,4),3,J [(1,[85,34,110,46],0)],[97,110,110],0,I),(2,0,1,(5,9),2,J [(1,[68,101,117,120,46],0)],[97,110,110],0,I)],3)
def axU:qx 3 [116,101,120,116,10,34,79,110,101,46,32,84,119,111,46,34]=J (kD,0,0):=by kernel_rfl
def axV:(aq yO λr2=>wm (J [kD]) r2)=J (kP0,0):=by kernel_rfl
def axW:rQ kP0 (1,0,0,(0,0),3,J [(1,[85,34,110,46],0)],[97,110,110],0,I)=J (kP1,0):=by kernel_rfl
def axX:rQ kP1 (2,0,0,(0,0),2,J [(1,[68,101,117,120,46],0)],[97,110,110],0,I)=J (qM,0):=by kernel_rfl
def Vg:qL qM:=⟨by intro d hd;rw[show X qM.1 []=[kD]from rfl,js]at hd;subst hd;exact⟨by decide,by decide⟩,by intro s a;rw[show X qM.2.1 []=[(1,0,1,(0,4),3,J [(1,[85,34,110,46],0)],[97,110,110],0,I),(2,0,1,(5,9),2,J [(1,[68,101,117,120,46],0)],[97,110,110],0,I)]from rfl]at a;simp only[iG,List.not_mem_nil,or_false]at a;rcases a with rfl|rfl<;>simp[bf],by decide,by decide⟩
def axY:dR qM=0:=by kernel_rfl
def axZ:Hl qM 0=J ([116,101,120,116,10,34,85,34,34,110,46,32,84,119,111,46,34],0):=by kernel_rfl
def ax0:U5 qM 0=J ([116,101,120,116,10,34,85,34,34,110,46,32,68,101,117,120,46,34],0):=by kernel_rfl
def agt:rV qM 0=J (0,W,mV qM):=(Hm Vg 0).2.2 axY (by decide)
def ax1:LY qM 0=J (J [(1,6,11),(2,12,16)],0):=by unfold LY aW cG au ag al;rw[agt,aB];kernel_rfl
def ax2:wB qM 0=J (J [2]):=by unfold wB aW au ag;rw[agt,aB];kernel_rfl
def agu:wC=J W:=by
 unfold wC au aJ ag;rw[axU,aB];have a:=axV;cases c:yO with
 |none=>rw[c]at a;cases a
 |some f=>rw[c,aB]at a;rw[aB,aF (by simp)];simp only[];rw[a,aB];simp only[];rw[axW,aB];simp only[];rw[axX,aB];let⟨b,e,h1,h2⟩:=Nr Vg 0;rw[axZ]at h2;cases h2;let⟨b,e,h3,d⟩:=axT Vg 0;rw[ax0]at d;cases d;simp only[];rw[h1,aB,h3,aB,ax1,aB,ax2];rfl
def zN(num:L)(s:dx):ay:=s.2.1==num&&s.2.2.2.2.1 !=3
def lJ(a:M dx)(num:L):M L:=(a.filter (zN num)).map (·.1)
def ax3{a:M dx}{num:L}{i:U}(hi:i<a.length):lJ (a.take (i+1)) num=if zN num a[i]=W then lJ (a.take i) num++[a[i].1]else lJ (a.take i) num:=by grind [lJ,iU]
def agv(a:M dx)(num:L)(i:U):(lJ (a.take i) num).length<=i:=by grind [lJ]
theorem agw{a:M dx}(g:a.length<=512){num:L}{F:Q (M L)×L->Q ((Q (M L)×L)⊕Q (M L))}(d:∀b,F b=if decide (b.2<ah a)=W then if(decide ((0:L)<=b.2/\b.2<ah a)&&((!((a.getD b.2.toNat (0,0,0,(0,0),0,O,[],0,I)).2.1==num&&(a.getD b.2.toNat (0,0,0,(0,0),0,O,[],0,I)).2.2.2.2.1 !=3)||decide (0+(b.1.getD []).length=(b.1.getD []).length)&&(decide ((b.1.getD []).length+1<=68719476736)&&b.1.isSome==b.1.isSome))))=W then J (mr (if((a.getD b.2.toNat (0,0,0,(0,0),0,O,[],0,I)).2.1==num&&(a.getD b.2.toNat (0,0,0,(0,0),0,O,[],0,I)).2.2.2.2.1 !=3)=W then J (b.1.getD []++[(a.getD b.2.toNat (0,0,0,(0,0),0,O,[],0,I)).1])else b.1,a7.wrap (b.2+1)))else O else J (Sum.inr b.1)):bR F (O,0)=J (aY (lJ a num)):=by
 have:=eZ (f:=F) a.length (λi=>(aY (lJ (a.take i) num),(i:L))) (r:=aY (lJ a num)) (λi c=>by
  have e:=di (i:=i) (by omega)
  have j:=agv a num i
  rw[d,ax3 c]
  simp only[ch,cS c,e]
  rw[dX c,aF (by rw[dq c];simp;omega)]
  show J (mr (if zN num a[i]=W then _ else _,_))=_
  by_cases h:zN num a[i]=W
  rw[aF h,aF h,<-MO,ch]
  grind) (by
  rw[d]
  simp) (cM (cC (by omega)))
 simpa[lJ,aY]using this
def agx{p:dy}(a:dH p)(hv:dR p=0)(num:L):wB p num=J (aY (lJ (p.2.1.getD []) num))/\Gj p num=J (aY (lJ (p.2.1.getD []) num)):=by
 have e:=a.ns;have c:=(kI a.b).2.2 hv;have f:Gj p num=J (aY (lJ (p.2.1.getD []) num)):=by grind [Gj,kI,dH.b,aB,agw,aby]
 refine⟨?_,f⟩;let⟨l,g,m⟩:=Hm a.b num;unfold wB aW au ag;by_cases h:num<0\/((p.1.getD []).length:L)<=num;have i:lJ (p.2.1.getD []) num=[]:=by unfold lJ;rw[List.map_eq_nil_iff,List.filter_eq_nil_iff];intro s j n;let⟨k,d,h1,h2,_⟩:=c.sg s j;grind [zN]
 rw[g hv h,aB,i];rfl;grind [aB,agw,abu,mV,ch]
theorem ax4{l:M L}(a:l.length<=1000000000):tz (aY l) (aY l)=J W:=by
 have:bR (BO (aY l) (aY l)) 0=J (.inr ()):=by refine eZ (f:=BO (aY l) (aY l)) l.length (λi=>(i:L)) (λi b=>?_) ?_ (cM (cC (by omega)));have c:=di (i:=i) (by omega);unfold BO aN au aJ ag al ax aH aA;simp_all;unfold BO aN au aJ ag al ax aH aA;simp_all
 unfold tz aW ag al;rw[this];simp
def ax5(l:Q (M L)):∃p,zk l=J p/\dH p/\dR p=0:=by let⟨p,N,h1,h2⟩:=axO l;simp_all [zk,LZ]
def ax6{p:dy}(b:dH p)(hv:dR p=0)(a:L):bR (Mh a p) 0=J (.inr ()):=by have c:=b.ns;refine eZ (f:=Mh a p) 4 (λi=>(i:L)) (λi e=>?_) ?_ (cM (cC (by omega)));let⟨h1,h2⟩:=agx b hv ([a,(0:L),1,2].getD (0+i) 0);have d:=agv (p.2.1.getD []) ([a,(0:L),1,2].getD (0+i) 0) (p.2.1.getD []).length;rw[List.take_length]at d;unfold Mh au aJ ag ax aH aA;dsimp-proj only[aj];rw[aF (by rw[eW];show(i:L)<4;omega),aF (by rw[cr,eW];refine⟨⟨by omega,by show(i:L)<4;omega⟩,?_⟩;unfold bX;rw[iJ];simp;omega)];grind [aB,ax4,bV];rfl
def ax7{p:dy}(e:(p.2.1.getD []).length<=512)(d:L):bR (Gk p d) (0,0)=J ((((p.2.1.getD []).filter λs=>s.2.1==d).length:U):L):=by
 have b:∀i,(((p.2.1.getD []).take i).filter λs=>s.2.1==d).length<=i:=λi=>Nat.le_trans (CM _ _) (by simp;omega);have:=eZ (f:=Gk p d) (p.2.1.getD []).length (λi=>(((((p.2.1.getD []).take i).filter λs=>s.2.1==d).length:L),(i:L))) (r:=((((p.2.1.getD []).filter λs=>s.2.1==d).length:U):L)) (λi a=>by
  have c:=di (i:=i) (by omega)
  have:=b i
  unfold Gk bS aN ag al ax aH aA
  simp only[cS a,c]
  rw[dX a,aF (dq a),iU a,List.filter_append,mo]
  grind [bV]) (by
  unfold Gk bS aN ag al ax aH aA
  simp_all) (cM (cC (by omega)))
 simpa using this
def ax8{p:dy}(a:dH p)(hv:dR p=0):bR (Gl p) 0=J (.inr ()):=by
 have d:=a.ns;have h:=a.nd;refine eZ (f:=Gl p) (p.1.getD []).length (λi=>(i:L)) (λi g=>?_) ?_ (cM (cC (by omega)));have j:=di (i:=i) (by omega);let⟨b,e,k,_⟩:=Nr a.b (i:L);have hd:=(a.bB _ (eE g)).1;have l:=hd.2.1;have m:=hd.2.2;unfold Gl aW cG aN aJ ag al ax aH aA;rw[dX g,ax7 d,aB,k,aB,(agx a hv (i:L)).1,aB,ch,j];by_cases c:ah (lJ (p.2.1.getD []) (i:L))=((((p.2.1.getD []).filter λs=>s.2.1==(i:L)).length:U):L);have n:∀s∈p.2.1.getD [],s.2.1=(i:L)->s.2.2.2.2.1≠3:=by have o:((p.2.1.getD []).filter (zN (i:L)))=((p.2.1.getD []).filter λs=>s.2.1==(i:L)).filter λs=>s.2.2.2.2.1 !=3:=(by rw[List.filter_filter];congr 1;funext s;unfold zN;rw[Bool.and_comm]);rw[ef]at c;unfold lJ at c;rw[jS,o]at c;have c:(((p.2.1.getD []).filter λs=>s.2.1==(i:L)).filter λs=>s.2.2.2.2.1 !=3).length=((p.2.1.getD []).filter λs=>s.2.1==(i:L)).length:=(by omega);rw[List.length_filter_eq_length_iff]at c;intro s q h1 h2;grind
 grind [axP,dq,Ck,aB];grind;unfold Gl aW cG aN aJ ag al ax aH aA;rw[gm]
def ax9(l:Q (M L))(a:L):Gm l a=J W:=by
 unfold Gm aW ag;let⟨b,c⟩:=ago l;rw[c,aB];cases b with|true=>rw[aF rfl,agu];rfl|false=>rw[aU (by simp)];let⟨p,h1,d,hv⟩:=ax5 l;simp_all [ax6,ax8,agu]
end Go.Fd
