/- The statement ExportSpansUptoCardSaid of the given program is proved here: for every input whose bulk is at most the bound of its row, the law returns true and changes nothing. Part 5 of 7. -/
import Derived.Test.YtgbmhohlapmgbaaGreatDoorS4
set_option linter.unusedVariables false
set_option linter.unusedSimpArgs false
set_option linter.unusedSectionVars false
set_option linter.constructorNameAsVariable false
set_option linter.defProp false
open Bool renaming and_eq_true->ck,and_self->zN,false->I,false_eq_true->bL,not_true->kF,or_eq_true->qY,true->W,true_and->uz
open Classical renaming byContradiction->ay0
open Go.IntKind renaming i64->a7,wrap->aby
open Go.Lib renaming decDigits->zS
open Go.Op renaming bytesLess->nN
open Int renaming eq_ofNat_of_zero_le->nW,ofNat->fW,toNat_natCast->fq,toNat->G
open List renaming all_eq_true->gy,count_le_length->ahU,drop_eq_getElem_cons->xe,flatMap_append->xb,getElem?_eq_some_iff->iO,getElem_mem->eF,getElem_of_mem->zU,length_append->lg,length_filter_le->HO,length_map->kE,length_mergeSort->ayY,map_append->mj,map_cons->eU,mem_append->nP,mem_cons->jQ,mem_cons_of_mem->i7,mem_map->mh,mem_of_getElem?->fK,mem_singleton->m7,nodup_cons->wW,pairwise_append->Hv,pairwise_cons->Cq,pairwise_map->Hu,perm_iff_count->ayZ,range->iz,range_succ->xc,replicate->ep,sum_append->Cv,takeWhile_append_dropWhile->ahT,takeWhile_cons->HQ,take_length->ur,take_succ_eq_append_getElem->iP,Nodup->adF,getD->H,length->Y
open List.Pairwise renaming nil->ayX
open List.Perm renaming refl->ay1
open Nat renaming ble_eq->iJ,le_refl->dR,lt_of_succ_lt->cM,zero_add->wZ,zero_le->fV
open Option renaming getD_some->fL,isSome_some->HI,map->gj,none->O,some->J,getD->X,isSome->V
open Sum renaming inl->mo
open _root_ renaming Bool->az,Int->L,List->M,Nat->U,Option->Q,True->dK,UInt8->ao,absurd->cO,bne_self_eq_false->sE,decide_eq_false->jC,decide_eq_true->ke,decide_eq_true_eq->eY,if_false->ch,if_neg->aV,if_pos->aF,if_true->bI
namespace Go.Fd
open Go Go.Vs Go.Ve Go.PL
structure ld(rs:List (Int×Int))(ts:List (Option (List aN)))(cs:List Nat)(raw:List UInt8)(f:List aN):Prop where
 n1:Y rs≤1024
 n2:Y ts=Y rs
 asc:zw rs f=true
 rw':Y raw≤65536
 tt:bm f≤2*Y raw
 len:Y cs=cx f+1
 up:cs.Pairwise (·≤ ·)
 le:∀c∈cs,c≤Y raw
 tg:∀t∈ts,bm (X t [])≤67108864
section
variable{rs:List (Int×Int)}{ts:List (Option (List aN))}{cs:List Nat}{raw:List UInt8}{f:List aN}
def ld.ok(h:ld rs ts cs raw f){i:Nat}(hi:i<Y rs):gw rs i≤(rs[i]).1∧(rs[i]).1≤(rs[i]).2∧(rs[i]).2≤cx f:=by have:=h.asc;simp_all [zw,Cc]
def ld.la(h:ld rs ts cs raw f):∀i,i≤Y rs→∃k:Nat,gw rs i=(k:Int)∧k≤cx f|0,_=>⟨0,rfl,Nat.zero_le _⟩|i+1,hi=>by let⟨k,h1,h2⟩:=ld.la h i (by omega);have:=h.ok (i:=i) (by omega);rw[Nz,iH (show i<Y rs by omega)];exact⟨G (rs[i].2),by omega,by omega⟩
def ld.cut(h:ld rs ts cs raw f){a b:Nat}(c:a≤b)(e:b≤cx f):H cs a 0≤H cs b 0∧H cs b 0≤Y raw:=by
 have g:=h.len;rw[iH (show a<Y cs by omega),iH (show b<Y cs by omega)];refine⟨?_,h.le _ (List.getElem_mem _)⟩;rcases Nat.eq_or_lt_of_le c with rfl|d
 exact Nat.le_refl _;exact(List.pairwise_iff_getElem.1 h.up) a b (by omega) (by omega) d
def ld.at'(h:ld rs ts cs raw f):∀i,i≤Y rs→∃a k:Nat,mT rs cs i=(a:Int)∧gw rs i=(k:Int)∧k≤cx f∧a≤H cs k 0∧a≤Y raw|0,_=>⟨0,0,rfl,rfl,Nat.zero_le _,Nat.zero_le _,Nat.zero_le _⟩|i+1,hi=>by let⟨k,h1,h2⟩:=h.la (i+1) hi;have e:=Nz rs i;rw[h1]at e;refine⟨H cs k 0,k,?_,h1,h2,Nat.le_refl _,(h.cut (Nat.le_refl k) h2).2⟩;show((H cs (G (H rs i (0,0)).2) 0:Nat):Int)=_;rw[←e];rfl
theorem nM(f:List aN)(a b:Int):bm (X (ib f a b).1 [])≤bm f:=by grind [ib,bm,cw,afq]
def jN(fmt:Int)(ts:List (Option (List aN)))(i:Nat):Option Int:=if(iN fmt (lN ts i)).2=0 then O else J (iN fmt (lN ts i)).2
def NA{fmt:Int}{g:List aN}(h:(iN fmt g).2=0):jB g=0∧Y (iN fmt g).1≤39424:=by unfold iN at h ⊢;by_cases hv:jB g=0;rw[aF hv]at h ⊢;refine⟨hv,?_⟩;split;exact Nat.zero_le _;exact(sy hv).2 fmt;grind
def agp{fmt:Int}{i:Nat}(h:jN fmt ts i=O):(iN fmt (lN ts i)).2=0:=by simp_all [jN]
theorem NB{l:List UInt8}{a b:Nat}(h:a≤b)(c:b≤Y l):Y (bu (a:Int) (b:Int) l)=b-a:=by rw[gX];simp;omega
def ld.bounds(h:ld rs ts cs raw f)(fmt:Int):∀i,i≤Y rs→(∀j,j<i→jN fmt ts j=O)→(∃a:Nat,mT rs cs i=(a:Int)∧Y (sS rs ts cs raw fmt i)≤a+39424*i)∧bm (wS rs ts f i)≤(bm f+34304)*i
 |0,_,_=>⟨⟨0,rfl,Nat.le_refl _⟩,Nat.le_refl _⟩|i+1,hi,g=>by
  have c:i<Y rs:=by omega
  let⟨⟨a,n,r⟩,s⟩:=ld.bounds h fmt i (by omega) λj t=>g j (by omega);let⟨hv,u⟩:=NA (agp (g i (by omega)));let⟨a',k,o,v,w,x,y⟩:=h.at' i (by omega);let⟨l,k2,m,p,z,A,B⟩:=h.at' (i+1) hi;have C:=h.ok c;rw[n]at o;have:a=a':=by omega
  subst this;refine⟨⟨l,m,?_⟩,?_⟩;let⟨fr,q⟩:=Int.eq_ofNat_of_zero_le (show 0≤rs[i].1 by omega);let⟨to,d⟩:=Int.eq_ofNat_of_zero_le (show 0≤rs[i].2 by omega);have e:k2=to:=by rw[Nz,iH c,d]at p;omega
  subst e;have ea:(l:Int)=((H cs k2 0:Nat):Int):=by rw[←m];show((H cs (G (H rs i (0,0)).2) 0:Nat):Int)=_;grind
  have c1:=h.cut (a:=k) (b:=fr) (by omega) (by omega);have D:=h.cut (a:=fr) (b:=k2) (by omega) (by omega);grind [sS,NB];grind [bm,dq,wS,sw,nM,sy]
end
def VK{cs:List Nat}{k:Nat}:H (cs.map Int.ofNat) k 0=((H cs k 0:Nat):Int):=by grind
def awS{rs:Option (List (Int×Int))}{ts:Option (List (Option (List aN)))}{cs:List Nat}{q:df}{f:List aN}{d:Dc}{k:Nat}{c:Option (List Int)}{e:Int}(h:ld (rs.getD []) (ts.getD []) cs q.2.2 f)(z:fJ d.1)(N:(d.2.getD [])[k]?=J q)(v:c.getD []=cs.map Int.ofNat):bR (FV d (k:Int) rs ts (c,e)) ([],0,0)=J (match gv (jN d.1 (ts.getD [])) 0 (rs.getD []).length with|some r=>.inl (r,0,O)|none=>.inr (sS (rs.getD []) (ts.getD []) cs q.2.2 d.1 (rs.getD []).length,mT (rs.getD []) cs (rs.getD []).length)):=by
 have A:=h.n1;have w:=h.rw';have m:(d.2.getD []).getD ((k:Int)).toNat (I,[],[])=q:=by grind
 have:=zu (F:=FV d (k:Int) rs ts (c,e)) (rs.getD []).length (λi=>(sS (rs.getD []) (ts.getD []) cs q.2.2 d.1 i,mT (rs.getD []) cs i,(i:Int))) (λi=>(jN d.1 (ts.getD []) i).map λr=>(r,(0:Int),(O:Option (List df)))) (sS (rs.getD []) (ts.getD []) cs q.2.2 d.1 (rs.getD []).length,mT (rs.getD []) cs (rs.getD []).length) (λi hi B=>by
  have n:∀j,j<i→jN d.1 (ts.getD []) j=O:=λj C=>by simpa using B j C
  have hit:i<(ts.getD []).length:=by rw[h.n2];exact hi
  let⟨⟨a,x,P⟩,_⟩:=h.bounds d.1 i (by omega) n
  let⟨a',D,E,R,S,T,V⟩:=h.at' i (by omega)
  have X:=h.ok hi
  rw[x]at E
  obtain rfl:a=a':=by omega
  have G:=di (i:=i) (by omega)
  have o:(ts.getD [])[i].getD []=lN (ts.getD []) i:=by unfold lN;rw[iH hit]
  have y:=af7 z (h.tg _ (List.getElem_mem hit))
  rw[o]at y
  unfold FV bJ cJ aM au ah al ay aH aA c9;dsimp-proj only[aj]
  simp only[]
  rw[dQ hi,aF (dA hi),aF (dA hit)]
  simp only[cW hi,cW hit,m,G,y,aG]
  by_cases p:(iN d.1 (lN (ts.getD []) i)).2=0
  have s:jN d.1 (ts.getD []) i=O:=by unfold jN;rw[aF p]
  let⟨_,H⟩:=NA p
  rw[s,aV (by simp[p])]
  let⟨fr,t⟩:=Int.eq_ofNat_of_zero_le (show 0≤(rs.getD [])[i].1 by omega)
  let⟨to,u⟩:=Int.eq_ofNat_of_zero_le (show 0≤(rs.getD [])[i].2 by omega)
  have c1:=h.cut (a:=D) (b:=fr) (by omega) (by omega)
  have Y:=h.cut (a:=fr) (b:=to) (by omega) (by omega)
  have K:(c.getD []).length=cx f+1:=by rw[v,List.length_map,h.len]
  have g:=NB (l:=q.2.2) (a:=a) (b:=cs.getD fr 0) (by omega) (by omega)
  rw[t,u,x]
  simp only[Int.toNat_natCast,v,VK]
  rw[aF (by
   simp only[ck,eY,dv,List.length_append,g,List.length_map,h.len]
   omega)]
  simp_all [sS,mT]
  grind [jN]) (λ_=>by
  unfold FV bJ cJ aM au ah al ay aH aA c9;dsimp-proj only[aj]
  simp_all) (Nat.lt_of_succ_lt (cA (by omega)))
 rw[show(([],0,0):List UInt8×Int×Int)=(sS (rs.getD []) (ts.getD []) cs q.2.2 d.1 0,mT (rs.getD []) cs 0,((0:Nat):Int))from rfl,this];have Z:∀k i,gv (λi=>(jN d.1 (ts.getD []) i).map λr=>(r,(0:Int),(O:Option (List df)))) i k=(gv (jN d.1 (ts.getD [])) i k).map λr=>(r,(0:Int),(O:Option (List df))):=by
  intro k;induction k with
  |zero=>intro i;rfl
  |succ k ih=>grind [gv]
 grind
def Ha{ρ a:Type}(b:U→Q ρ)(g:ρ→a):∀k i,gv (λi=>(b i).map g) i k=(gv b i k).map g
 |0,i=>rfl|k+1,i=>by
  unfold gv;cases b i with|some r=>rfl|none=>exact Ha b g k (i+1)
def awT{rs:Q (M (L×L))}{ts:Q (M (Q (M aN)))}{cs:M U}{q:df}{g:Q (M aN)}{d:Dc}{k:U}{A:Q (M aN)}{c:Q (M L)}{e m B:L}(h:ld (rs.getD []) (ts.getD []) cs q.2.2 (g.getD []))(H:fJ d.1)(hq:(d.2.getD [])[k]?=J q)(C:c.getD []=cs.map fW):
  bR (E5 d (k:L) rs ts (g,e) (A,c,m,B)) (0,[],0,O,0)=J (match gv (jN d.1 (ts.getD [])) 0 (rs.getD []).length with|some r=>.inl (r,0,O)|none=>.inr (gw (rs.getD []) (rs.getD []).length,sS (rs.getD []) (ts.getD []) cs q.2.2 d.1 (rs.getD []).length,mT (rs.getD []) cs (rs.getD []).length,aT (wS (rs.getD []) (ts.getD []) (g.getD []) (rs.getD []).length))):=by
 have K:=h.n1
 have D:=h.rw'
 have N:=h.tt
 have p:(d.2.getD []).getD ((k:L)).toNat (I,[],[])=q:=by grind
 have:=zu (F:=E5 d (k:L) rs ts (g,e) (A,c,m,B)) (rs.getD []).length (λi=>(gw (rs.getD []) i,sS (rs.getD []) (ts.getD []) cs q.2.2 d.1 i,mT (rs.getD []) cs i,aT (wS (rs.getD []) (ts.getD []) (g.getD []) i),(i:L))) (λi=>(jN d.1 (ts.getD []) i).map λr=>(r,(0:L),(O:Q (M df))))
  (gw (rs.getD []) (rs.getD []).length,sS (rs.getD []) (ts.getD []) cs q.2.2 d.1 (rs.getD []).length,mT (rs.getD []) cs (rs.getD []).length,aT (wS (rs.getD []) (ts.getD []) (g.getD []) (rs.getD []).length)) (λi hi P=>by
  have s:∀j,j<i→jN d.1 (ts.getD []) j=O:=λj R=>by simpa using P j R
  have hit:i<(ts.getD []).length:=by rw[h.n2];exact hi
  obtain⟨⟨a,m,b1⟩,b2⟩:=h.bounds d.1 i (by omega) s
  obtain⟨a',S,T,g2,g3,g4,g5⟩:=h.at' i (by omega)
  have ho:=h.ok hi
  rw[m]at T
  obtain rfl:a=a':=by omega
  have V:=di (i:=i) (by omega)
  have f:(ts.getD [])[i].getD []=lN (ts.getD []) i:=by unfold lN;rw[iH hit]
  have t:=h.tg _ (eF hit)
  have E:=VH H t
  rw[f]at E
  unfold E5 bJ cJ aM au ah al ay aH aA c9;dsimp-proj only[aj]
  simp only[]
  rw[dQ hi,aF (dA hi),aF (dA hit)]
  simp only[cW hi,cW hit,p,V,E,aG]
  by_cases u:(iN d.1 (lN (ts.getD []) i)).2=0
  ·have v:jN d.1 (ts.getD []) i=O:=by unfold jN;rw[aF u]
   obtain⟨hv,X⟩:=NA u
   rw[v,aV (by simp[u])]
   obtain⟨fr,w⟩:=nW (show 0≤(rs.getD [])[i].1 by omega)
   obtain⟨to,x⟩:=nW (show 0≤(rs.getD [])[i].2 by omega)
   have c1:=h.cut (a:=S) (b:=fr) (by omega) (by omega)
   have c2:=h.cut (a:=fr) (b:=to) (by omega) (by omega)
   have Y:(c.getD []).length=cx (g.getD [])+1:=by rw[C,kE,h.len]
   have n:=NB (l:=q.2.2) (a:=a) (b:=cs.getD fr 0) (by omega) (by omega)
   have Z:=nM (g.getD []) (gw (rs.getD []) i) (fr:L)
   have G:(bm (g.getD [])+34304)*i≤(131072+34304)*1024:=Nat.mul_le_mul (by omega) (by omega)
   have y:bm ((aT (wS (rs.getD []) (ts.getD []) (g.getD []) i)).getD [])+bm ((ib (g.getD []) (gw (rs.getD []) i) (fr:L)).1.getD [])≤536870912:=by rw[cw];omega
   have o:=sw (wS (rs.getD []) (ts.getD []) (g.getD []) i++(ib (g.getD []) (gw (rs.getD []) i) (fr:L)).1.getD []) []
   have t0:bm ([]:M aN)=0:=rfl
   have hvs:=(sy hv).1
   rw[jl]at o
   have z:bm ((aT (dq (wS (rs.getD []) (ts.getD []) (g.getD []) i++(ib (g.getD []) (gw (rs.getD []) i) (fr:L)).1.getD []))).getD [])+bm ((ts.getD [])[i].getD [])≤536870912:=by
    rw[cw,f];unfold dq;omega
   rw[w,x,m]
   simp only[fq,C,VK]
   rw[aF (by
    simp only[ck,eY,dv,lg,n,kE,h.len]
    omega),aF (by
    grind [dv]),oW (by omega),aG,mR y,aG,aF (dA hit),cw,mR z,aG,cw,f]
   grind [sS,mT,wS,Nz,fq]
  grind [jN]) (λ_=>by
  unfold E5 bJ cJ aM au ah al ay aH aA c9;dsimp-proj only[aj]
  simp_all) (cM (cA (by omega)))
 rw[show((0,[],0,O,0):L×M ao×L×Q (M aN)×L)=(gw (rs.getD []) 0,sS (rs.getD []) (ts.getD []) cs q.2.2 d.1 0,mT (rs.getD []) cs 0,aT (wS (rs.getD []) (ts.getD []) (g.getD []) 0),((0:U):L))from rfl,this,Ha]
 cases gv (jN d.1 (ts.getD [])) 0 (rs.getD []).length<;>rfl
def awU{rs:Q (M (L×L))}{ts:Q (M (Q (M aN)))}{cs:M U}{raw:M ao}{g:Q (M aN)}{fmt:L}(h:ld (X rs []) (X ts []) cs raw (X g []))(c:∀j,j<Y (X rs [])→jN fmt (X ts []) j=O):L1 g rs ts=J (aT (dq (wS (X rs []) (X ts []) (X g []) (Y (X rs []))++X (ib (X g []) (gw (X rs []) (Y (X rs []))) (cx (X g []):L)).1 []))):=by
 have l:=h.n1;have k:=h.rw';have m:=h.tt;have a:∀i,i≤Y (X rs [])→(bm (X g [])+34304)*i≤(131072+34304)*1024:=λi hi=>Nat.mul_le_mul (by omega) (by omega);unfold L1 aX;have:bR (FO g rs ts) (O,0,0)=J (aT (wS (X rs []) (X ts []) (X g []) (Y (X rs []))),gw (X rs []) (Y (X rs []))):=by
  refine eS (f:=FO g rs ts) (Y (X rs [])) (λi=>(aT (wS (X rs []) (X ts []) (X g []) i),gw (X rs []) i,(i:L))) (λi hi=>?_) ?_ (cM (cA (by omega)));have d:∀j,j<i→jN fmt (X ts []) j=O:=λj u=>c j (by omega);have hit:i<Y (X ts []):=by rw[h.n2];exact hi
  let⟨_,n⟩:=h.bounds fmt i (by omega) d;let⟨hv,_⟩:=NA (agp (c i hi));have o:=di (i:=i) (by omega);have e:X (X ts [])[i] []=lN (X ts []) i:=by unfold lN;rw[iH hit]
  have p:=a i (by omega);have q:=nM (X g []) (gw (X rs []) i) (X rs [])[i].1;have r:bm (X (aT (wS (X rs []) (X ts []) (X g []) i)) [])+bm (X (ib (X g []) (gw (X rs []) i) (X rs [])[i].1).1 [])≤268435456:=by rw[cw];omega
  have b:=sw (wS (X rs []) (X ts []) (X g []) i++X (ib (X g []) (gw (X rs []) i) (X rs [])[i].1).1 []) [];have t0:bm ([]:M aN)=0:=rfl;have s:=(sy hv).1;rw[jl]at b;have t:bm (X (aT (dq (wS (X rs []) (X ts []) (X g []) i++X (ib (X g []) (gw (X rs []) i) (X rs [])[i].1).1 []))) [])+bm (X (X ts [])[i] [])≤268435456:=by rw[cw,e];unfold dq;omega
  unfold FO bJ cJ aM al ay aH aA;simp only[];rw[dQ hi,aF (dA hi)];simp only[cW hi,cW hit,o];grind [Nk,aG,afU,dA,cw,wS,gw];unfold FO bJ cJ aM al ay aH aA;simp_all
 have p:=a _ (dR _);let⟨_,n⟩:=h.bounds fmt _ (dR _) c;grind [nM,aG,GV,Nk,afU,cw]
theorem Hb{ρ:Type}{e:U→Q ρ}{k:U}(h:gv e 0 k=O):∀j,j<k→e j=O:=λj a=>(B4 k 0).1 h j (fV _) (by omega)
def agq{P:M df}{k:U}{q q':df}(h:P[k]?=J q):(dO (P.set k q')).length+q.2.2.length=(dO P).length+q'.2.2.length:=by grind [xe,List.take_append_drop,List.set_eq_take_append_cons_drop,dO]
def jm(fmt:L)(raw:M ao)(x:L):L:=H (X (X (gW fmt raw) (O,O,0,0)).2.1 []) (G x) 0
def Cd(fmt:L)(ts:M (Q (M aN)))(rs:M (L×L))(c:L→L)(j:U):L:=ag (iN fmt (lN ts j)).1-(c (H rs j (0,0)).2-c (H rs j (0,0)).1)
def agr{rs:M (L×L)}{ts:M (Q (M aN))}{cs:M U}{raw:M ao}{f:M aN}(h:ld rs ts cs raw f)(fmt:L):∀i,i≤Y rs→(Y (sS rs ts cs raw fmt i):L)=mT rs cs i+((iz i).map (Cd fmt ts rs λx=>((H cs (G x) 0:U):L))).sum
 |0,_=>rfl|i+1,hi=>by
  have g:=agr h fmt i (by omega);let⟨a,k,j,m,n,o,p⟩:=h.at' i (by omega);let⟨q,r,s⟩:=h.ok (i:=i) (by omega);let⟨x,d⟩:=nW (show 0≤(rs[i]'(by omega)).1 by omega);have l:=h.cut (a:=k) (b:=x) (by omega) (by omega);show(Y ((sS rs ts cs raw fmt i)++(bu (mT rs cs i) ((H cs (G (H rs i (0,0)).1) 0:U):L) raw++(iN fmt (lN ts i)).1)):L)=((H cs (G (H rs i (0,0)).2) 0:U):L)+_;rw[xc,mj,Cv];rw[j]at g ⊢;have e:Cd fmt ts rs (λx=>((H cs (G x) 0:U):L)) i=ag (iN fmt (lN ts i)).1-(((H cs (G (H rs i (0,0)).2) 0:U):L)-(H cs x 0:U)):=by unfold Cd;rw[iH (show i<Y rs by omega),d];rfl
  have c:G (H rs i (0,0)).1=x:=by rw[iH (show i<Y rs by omega),d,fq]
  rw[dv]at e;simp only[lg,eU,List.map_nil,List.sum_cons,List.sum_nil,e,c];rw[NB (by omega) l.2];omega
def VL{d:Dc}(h1:(d.2.getD []).length≤1048576)(h2:(dO (d.2.getD [])).length≤1073741824)(part:L){rs:Q (M (L×L))}{ts:Q (M (Q (M aN)))}(hn:(rs.getD []).length≤1024)(hnt:(ts.getD []).length≤1073741824)(ht:∀t∈ts.getD [],bm (t.getD [])≤67108864):∃n e,BE d part rs ts=J (n,e)∧oP d part rs ts=J (n,e)∧(e=0→n.1=d.1∧(n.2.getD []).length=(d.2.getD []).length∧(dO (n.2.getD [])).length≤65536∧∃(k:U)(q:df)(S:M ao),part=(k:L)∧(d.2.getD [])[k]?=J q∧n.2.getD []=(d.2.getD []).set k (q.1,q.2.1,S)∧(S.length:L)=q.2.2.length+((iz (rs.getD []).length).map (Cd d.1 (ts.getD []) (rs.getD []) (jm d.1 q.2.2))).sum):=by
 let⟨Z,v1,v2,v3⟩:=afY (d:=d) (by omega) h2;unfold BE oP aX cJ aM au aK ah al bd c9;dsimp-proj only[aj];rw[v1,v2];simp only[aG];by_cases i:Z=0;rotate_left;have p:(Z !=0)=W:=by simpa using i
 simp only[p,bI];grind;let⟨A,hpl,hjl⟩:=v3 i;subst i;simp only[show((0:L) !=0)=I from rfl,bL,ch];let⟨g,e,c1,c2,c3⟩:=G3 (d:=d) (λq c=>by have:=Cb c;omega) part;rw[c1,c2];simp only[aG];by_cases B:e=0;rotate_left;have p:(e !=0)=W:=by simpa using B
 simp only[p,bI];grind;have C:=B;subst C;simp only[show((0:L) !=0)=I from rfl,bL,ch];obtain⟨_,k,rfl,q,c,hu,s,at',g1,g2,g3⟩:=c3 B;have hk:k<(d.2.getD []).length:=(iO.1 c).1;have D:q∈d.2.getD []:=fK c;have asu:=Cb D;let⟨g4,cs,z,g6,g7,g8⟩:=g3 rfl;simp only[]at g4 z g6;have E:(d.2.getD []).getD ((k:L)).toNat (I,[],[])=q:=by grind
 have F:(d.2.getD []).getD k (I,[],[])=q:=by grind
 have u:decide ((0:L)≤(k:L)∧(k:L)<ag (d.2.getD []))=W:=by simp;omega
 simp only[E,u,bI,g1,g2,aG];by_cases j:(ts.getD []).length=(rs.getD []).length;rotate_left;have G:(ag (rs.getD []) !=ag (ts.getD []))=W:=by rw[bne_iff_ne];simp;omega
 have H:(ag (ts.getD []) !=ag (rs.getD []))=W:=by grind
 simp only[G,H,bI];grind;have G:(ag (rs.getD []) !=ag (ts.getD []))=I:=by simp[j]
 have H:(ag (ts.getD []) !=ag (rs.getD []))=I:=by simp[j]
 simp only[G,H,bL,ch];rw[awQ (by omega) (by omega),GV (by omega)];simp only[aG];rw[awP (by omega)];simp only[aG];simp only[show((0:L) !=0)=I from rfl,bL,ch];cases v:zw (rs.getD []) (g.getD [])with
 |false=>exact⟨((0,O):Dc),(1:L),rfl,rfl,λh=>by cases h⟩
 |true=>
  have o:ld (rs.getD []) (ts.getD []) cs q.2.2 (g.getD []):=⟨hn,j,v,by omega,g4,g6,g7,g8,ht⟩;rw[aF rfl,awT o A c z];simp only[kF,bL,ch,pz,aG];rw[awS o A c z];simp only[aG];cases hs:gv (jN d.1 (ts.getD [])) 0 (rs.getD []).length with
  |some r=>have hr:r≠0:=(by grind [wD,jN]);exact⟨((0,O):Dc),r,rfl,rfl,λh=>cO h hr⟩|none=>
   have hb:=Hb hs;let⟨⟨a,b1,b2⟩,b3⟩:=o.bounds d.1 _ (dR _) hb;let⟨a',k',b4,b5,b6,b7,b8⟩:=o.at' _ (dR _);rw[b1]at b4;obtain rfl:a=a':=(by omega);simp only[pz];rw[b1,show bu (a:L) (ag q.2.2) q.2.2=q.2.2.drop a from iY q.2.2 a];have K:(q.2.2.drop a).length=q.2.2.length-a:=(by simp);have hc:(decide ((0:L)≤(a:L)∧(a:L)≤ag q.2.2∧ag q.2.2≤ag q.2.2)&&decide ((sS (rs.getD []) (ts.getD []) cs q.2.2 d.1 (rs.getD []).length).length+(q.2.2.drop a).length≤1152921504606846976))=W:=(by simp only[ck,eY,dv];omega);rw[aF hc,aF hc,sq (by omega),aG];generalize hS:sS (rs.getD []) (ts.getD []) cs q.2.2 d.1 (rs.getD []).length++q.2.2.drop a=S;have hSl:S.length≤40501248:=(by grind);have hm:(bm (g.getD [])+34304)*(rs.getD []).length≤(131072+34304)*1024:=Nat.mul_le_mul (by omega) hn;have hsl:=nM (g.getD []) (gw (rs.getD []) (rs.getD []).length) (cx (g.getD []):L);let⟨f2,cut2,at2,N,q1,q2,_,q4⟩:=VB A (raw:=S) (by omega);rw[oW (by omega),aG];rw[mR (by rw[cw];omega),aG,cw,q1,q2,awU o hb];simp only[aG];by_cases m:N=0;rotate_left;have p:(N !=0)=W:=(by simpa using m);simp only[p,bI];grind;have zz:(N !=0)=I:=(by simp[m]);simp only[zz,bL,ch];have P:=sw (wS (rs.getD []) (ts.getD []) (g.getD []) (rs.getD []).length++(ib (g.getD []) (gw (rs.getD []) (rs.getD []).length) (cx (g.getD []):L)).1.getD []) [];have t0:bm ([]:M aN)=0:=rfl;rw[jl]at P;have aAd:bm (dq (wS (rs.getD []) (ts.getD []) (g.getD []) (rs.getD []).length++(ib (g.getD []) (gw (rs.getD []) (rs.getD []).length) (cx (g.getD []):L)).1.getD []))≤536870912:=(by unfold dq;omega);have w:(f2.getD []).length≤1073741824:=(by have:bm (f2.getD [])≤2*S.length:=(q4 m).1;grind [eT]);rw[awK (by simp_all),awJ (by simp_all),aG,aG,af8 w,aww w,aG,aG];simp only[cw];by_cases b:f2.getD []=VJ (dq (wS (rs.getD []) (ts.getD []) (g.getD []) (rs.getD []).length++(ib (g.getD []) (gw (rs.getD []) (rs.getD []).length) (cx (g.getD []):L)).1.getD []));rotate_left;simp only[jC b,Bool.not_false,bI];grind;simp only[ke b,kF,bL,ch];have hP:d.2=J (d.2.getD []):=by
    cases hd:d.2 with|none=>grind|some l=>rfl
   have R:Mb d.2=J (J (d.2.getD [])):=(by grind [Mb]);have y:(eo (d.2.getD [])).getD []=d.2.getD []:=(by cases d.2.getD []<;>rfl);have hset:(dO ((d.2.getD []).set k (q.1,q.2.1,S))).length+q.2.2.length=(dO (d.2.getD [])).length+S.length:=agq (q':=(q.1,q.2.1,S)) c;rw[R,aG,GH (by omega) h2,aG];simp only[fL,wZ,fq,F,y,HI];have T:bT k (d.2.getD []).length=W:=(by unfold bT;rw[iJ];exact hk);rw[aF (show((W:az)==W)=W from rfl)];simp only[u,T,zN,bI];rw[B6 (d:=(d.1,J ((d.2.getD []).set k (q.1,q.2.1,S)))) (by simp;omega) (by grind),aG];simp only[fL,dv];have V:a7.wrap (((dO (d.2.getD [])).length:L)-(q.2.2.length:L))=((dO (d.2.getD [])).length:L)-(q.2.2.length:L):=eh (by omega);have X:a7.wrap (((dO (d.2.getD [])).length:L)-(q.2.2.length:L)+(S.length:L))=((dO ((d.2.getD []).set k (q.1,q.2.1,S))).length:L):=(by grind [cf]);rw[V,X];by_cases f:((dO ((d.2.getD []).set k (q.1,q.2.1,S))).length:L)>65536;simp only[ke f,bI];grind;simp only[jC f,bL,ch];rw[aF (by rw[ck,eY];exact⟨by omega,by simp⟩)];refine⟨_,_,rfl,rfl,λ_=>⟨rfl,by simp,by simp;omega,k,q,S,rfl,c,rfl,?_⟩⟩;have Y:jm d.1 q.2.2=λx=>((cs.getD x.toNat 0:U):L):=funext λx=>(by unfold jm;rw[g1];show(s.getD []).getD _ _=_;rw[z,VK]);have:=agr o d.1 _ (dR _);rw[Y,←hS,lg,K];omega
abbrev wP:=Sd×L×az
abbrev Ce:=az×Q (M wP)×Q (M wP)
def awV(a:wP)(b:ao):∃v,yF a (fW b.toNat)=J v:=by unfold yF;have h1:=auE b;have h2:=auF b;have h1:(0:L)≤fW b.toNat:=h1;have h2:fW b.toNat<256:=h2;simp_all
def zx{α:Type}{l:M α}{k:U}(h:k<Y l):bT (0+G ((k:L))) (Y l)=W:=by grind [bT,iJ]
def VM{α:Type}{l:M α}{k:U}(h:k<Y l):bT (G ((k:L))) (Y l)=W:=by grind [bT,iJ]
def awW{p:Q (M wP)}{s:M ao}{a:Q (M az)}{j:U}(D:s.length≤1048576)(E:(a.getD []).length=s.length+1)(g:j<(p.getD []).length){x:M az}(hx:x.length=s.length+1):∃r,bR (Ev p s (a,(j:L))) (x,0)=J r∧r.length=s.length+1:=by
 refine gs (f:=Ev p s (a,(j:L))) (λy=>∃k:U,y.2=(k:L)∧k≤s.length∧y.1.length=s.length+1) (λy=>s.length-y.2.toNat) (λr=>r.length=s.length+1) (λy h=>?_) (x,0) ⟨0,rfl,fV _,hx⟩ (cM (cA (by simp;omega)));let⟨y,i⟩:=y;obtain⟨k,rfl,hk,hy⟩:=h;have hy:y.length=s.length+1:=hy;by_cases d:k<s.length;have m:=di (i:=k) (by omega);have n1:∃k':U,((k+1:U):L)=(k':L)∧k'≤s.length:=⟨k+1,rfl,d⟩;have c:∀e:M az,e.length=s.length+1→(∃k':U,((k+1:U):L)=(k':L)∧k'≤s.length∧e.length=s.length+1)∧s.length-(((k+1:U):L)).toNat<s.length-((k:L)).toNat:=λe h=>⟨⟨k+1,rfl,d,h⟩,by omega⟩;let⟨v,hv⟩:=awV ((p.getD []).getD ((j:L)).toNat ((0,0,0,0,0,0,0,0,0,0,0,0,0,0,0,0,0,0,0,0,0,0,0,0,0,0,0,0,0,0,0,0),0,I)) (s.getD ((k:L)).toNat 0);have n:decide ((0:L)≤(k:L)∧(k:L)<ag (a.getD []))=W:=dA (by omega);have o:decide ((0:L)≤(j:L)∧(j:L)<ag (p.getD []))=W:=dA g;have q:decide ((0:L)≤(k:L)∧(k:L)<ag y)=W:=dA (by omega);have t:decide ((0:L)≤((k+1:U):L)∧((k+1:U):L)<ag y)=W:=dA (by omega);have u:decide ((0:L)≤(k:L))=W:=by simp
 have w:=zx (l:=a.getD []) (k:=k) (by omega);have A:=VM (l:=s) (k:=k) d;have B:=zx (l:=y) (k:=k) (by omega);have C:=zx (l:=y) (k:=k+1) (by omega);unfold Ev iW cJ aM au aK ah cz al ay aH aA fE;dsimp-proj only[aj];simp only[];rw[dQ d];simp only[n,o,q,t,u,w,A,B,C,m,hv,bI,aG,zN,Bool.or_true];cases(a.getD []).getD (0+((k:L)).toNat) I with|true=>exact c _ (by cases v<;>simp[hy])|false=>simp only[bL,ch];split;rename_i z b;split at b;split at b;cases b;exact c _ (by cases v<;>simp[hy]);grind;grind;rename_i z b;split at b;split at b<;>cases b;cases b;rename_i b;split at b;split at b<;>cases b;cases b
 obtain rfl:k=s.length:=by omega
 simp_all [Ev,aj,iW,cJ,aM,au,aK,ah,cz,al,ay,aH,aA,fE]
def awX{p:Q (M wP)}{n:U}{a:Q (M az)}{j:U}(hn:n≤2097152)(s:Y (X a [])=n)(c:j<Y (X p [])){x:M az}(hx:Y x=n):∃r,bR (Ew p (a,(j:L)) x) (x,0)=J r∧Y r=n:=by
 refine gs (f:=Ew p (a,(j:L)) x) (λy=>∃k:U,y.2=(k:L)∧k≤n∧Y y.1=n) (λy=>n-G y.2) (λr=>Y r=n) (λy h=>?_) (x,0) ⟨0,rfl,fV _,hx⟩ (cM (cA (by simp;omega)));let⟨y,i⟩:=y;obtain⟨k,rfl,hk,hy⟩:=h;have hy:Y y=n:=hy;by_cases b:k<Y x;have d:=di (i:=k) (by omega);have e:decide ((0:L)≤(k:L)∧(k:L)<ag (X a []))=W:=dA (by omega);have g:decide ((0:L)≤(j:L)∧(j:L)<ag (X p []))=W:=dA c;have m:decide ((0:L)≤(k:L)∧(k:L)<ag y)=W:=dA (by omega);have o:=zx (l:=X a []) (k:=k) (by omega);have q:=zx (l:=y) (k:=k) (by omega);unfold Ew aM au aK ah al ay aH aA;dsimp-proj only[aj];simp only[];rw[dQ b];simp only[e,g,m,o,q,d,zN,uz,ite_self,bI];refine⟨⟨k+1,rfl,by omega,?_⟩,by simp;omega⟩;grind;obtain rfl:k=Y x:=by omega
 simp_all [Ew,aj,aM,au,aK,ah,al,ay,aH,aA]
def ags{p:Q (M wP)}{s:M ao}{a:Q (M az)}(hp:Y (X p [])≤1048576)(c:Y s≤1048576)(d:Y (X a [])=Y s+1):∃r,Ey p s a=J r∧Y (X r [])=Y s+1:=by
 unfold Ey aX au al;have e:X (eo (X a [])) []=X a []:=by cases X a []<;>rfl
 let⟨r,h1,h2⟩:=gs (f:=KH p s) (λy=>∃k:U,y.2=(k:L)∧k≤Y (X p [])∧Y (X y.1 [])=Y s+1) (λy=>Y (X p [])-G y.2) (λr=>Y (X r [])=Y s+1) (λy h=>by
  let⟨y,i⟩:=y
  obtain⟨k,rfl,hk,hy⟩:=h
  have hy:Y (X y [])=Y s+1:=hy
  by_cases b:k<Y (X p [])
  have m:=di (i:=k) (by omega)
  have g:aby a7 (ag s+1)=((Y s+1:U):L):=by grind [dv,cf]
  let⟨o,q,l⟩:=awW (p:=p) (j:=k) c hy b (x:=ep (Y s+1) I) (by simp)
  let⟨t,u,v⟩:=awX (p:=p) (n:=Y s+1) (j:=k) (by omega) hy b l
  unfold KH aX cr aK al ay aH aA
  grind [fq,aG]
  obtain rfl:k=Y (X p []):=by omega
  simp_all [KH,aX,cr,aK,al,ay,aH,aA]) (eo (X a []),0) ⟨0,rfl,fV _,by rw[e];exact d⟩ (cM (cA (by simp;omega)))
 grind [aG]
def VN{s:M ao}(a:Y s≤1048576):aby a7 (ag s+1)=((Y s+1:U):L):=by grind [dv,cf]
def awY{p:Q (M wP)}{s:M ao}(hp:Y (X p [])≤1048576)(c:Y s≤1048576):∃b,KK p s=J b:=by
 unfold KK aX cJ aM cr al ay;let⟨r,h1,h2⟩:=gs (f:=Si s) (λy=>∃k:U,y.2=(k:L)∧k≤Y s+1∧Y y.1=Y s+1) (λy=>Y s+1-G y.2) (λr=>Y r=Y s+1) (λy h=>by
  let⟨y,i⟩:=y
  obtain⟨k,rfl,hk,hy⟩:=h
  have hy:Y y=Y s+1:=hy
  have d:Y (ep (Y s+1) I)=Y s+1:=by simp
  unfold Si au aK ay aH aA
  simp only[VN c,fq]
  by_cases e:k<Y s+1
  have j:=di (i:=k) (by omega)
  have g:=zx (l:=y) (k:=k) (by omega)
  simp only[fq]at g
  grind [dA]
  grind [ag]) (ep (Y s+1) I,0) ⟨0,rfl,fV _,by simp⟩ (cM (cA (by simp;omega)))
 rw[VN c,aF (by simp;omega),fq,h1,aG];let⟨m,h3,n⟩:=ags hp c (a:=J r) h2;simp_all
def awZ{p:Q (M wP)}{s:M ao}(hp:Y (X p [])≤1048576)(c:Y s≤1048576):∃b,KJ p s=J b:=by
 unfold KJ Sf Se aX cr au ay;dsimp-proj only[aj];have e:Y (ep (Y s+1) I)=Y s+1:=by simp
 rw[VN c,aF (by simp;omega),fq,aF (by simp[bT])];simp only[aG];let⟨r,h1,h2⟩:=ags hp c (a:=J ((ep (Y s+1) I).set 0 W)) (by simp);rw[h1,aG];let⟨z,h3,_⟩:=gs (f:=KI r) (λy=>∃k:U,y.2=(k:L)∧k≤Y s+1) (λy=>Y s+1-G y.2) (λr=>dK) (λy h=>by
  let⟨y,i⟩:=y
  obtain⟨k,rfl,hk⟩:=h
  by_cases d:k<Y (X r [])
  grind [cf,KI]
  obtain rfl:k=Y (X r []):=by omega
  unfold KI bJ aM ah al ay aH aA
  simp_all) (-1,0) ⟨0,rfl,fV _⟩ (cM (cA (by simp;omega)))
 simp_all
def Cf(a:Q (M Ce)):Prop:=Y (X a [])≤1048576∧∀r∈X a [],Y (X r.2.1 [])≤1048576∧Y (X r.2.2 [])≤1048576
def aw0{a:Q (M Ce)}(d:Cf a){text:M ao}(q:Y text≤1048576)(at':L):∃b,KN a text at'=J b:=by
 unfold KN aX ah;by_cases t:at'≤0∨at'≥(Y text:L);simp_all;rw[aV (by simp;omega)];obtain⟨n,rfl⟩:=nW (show 0≤at' by omega);let⟨z,h3,_⟩:=gs (f:=KL a text (n:L)) (λy=>∃k:U,y=(k:L)∧k≤Y (X a [])) (λy=>Y (X a [])-G y) (λr=>dK) (λy h=>by
  obtain⟨k,rfl,hk⟩:=h
  by_cases c:k<Y (X a [])
  have g:=d.1
  have j:=di (i:=k) (by omega)
  have e:=d.2 _ (eF c)
  let⟨u,l⟩:=awY (p:=((X a [])[k]).2.1) (s:=bu 0 (n:L) text) e.1 (by have:=gX text 0 n;grind)
  let⟨v,m⟩:=awZ (p:=((X a [])[k]).2.2) (s:=bu (n:L) (ag text) text) e.2 (by rw[iY];simp;omega)
  have c1:decide ((0:L)≤0∧(0:L)≤(n:L)∧(n:L)≤ag text)=W:=by simp;omega
  have o:decide ((0:L)≤(n:L)∧(n:L)≤ag text∧ag text≤ag text)=W:=by simp;omega
  unfold KL bJ cJ aM cr ah al ay aH aA
  rw[dQ c]
  simp only[dA c,c1,o,bI,cW c,l,m,aG,j]
  grind
  obtain rfl:k=Y (X a []):=by omega
  unfold KL bJ cJ aM cr ah al ay aH aA
  rw[gb]
  trivial) 0 ⟨0,rfl,fV _⟩ (cM (cA (by have:=d.1;simp;omega)))
 rw[h3,aG];cases z<;>exact⟨_,rfl⟩
def aw1{a:Q (M Ce)}(d:Cf a)(text:M ao):∃r,KP a text=J r∧Y (X r [])≤1024:=by unfold KP aX au aK;by_cases e:Y text>1024;rw[aF (by grind [dv])];grind;rw[aV (by grind [dv])];let⟨r,h1,h2⟩:=gs (f:=KO a text) (λy=>∃k:U,y.2=(k:L)∧k≤Y text+1∧Y (X y.1 [])≤k∧(k≤Y text∨Y (X y.1 [])≤1)) (λy=>Y text+1-G y.2) (λr=>Y (X r [])≤1024) (λy h=>by let⟨y,i⟩:=y;obtain⟨k,rfl,hk,hy,c⟩:=h;simp only[]at hy c;by_cases g:k<Y text;have j:=di (i:=k) (by omega);let⟨b,e⟩:=aw0 d (text:=text) (by omega) (k:L);grind [KO,aG];unfold KO au aK ah al ay aH aA bv;simp only[];rw[aV (by simp;omega)];simp only[];omega) (O,1) ⟨1,rfl,by omega,by simp,.inr (by simp)⟩ (cM (cA (by simp;omega)));simp_all
def NC(x:aN):M ao:=if x.1=1 then x.2.1 else if x.1=5 then[255]else[]
def mU(f:M aN):M ao:=f.flatMap NC
def ND:∀f:M aN,Y (mU f)≤bm f|[]=>by simp[mU]|x::f=>by have:=ND f;grind [bm,mU,NC]
theorem Hc{o:Q (M aN)}(c:bm (X o [])≤1073741824):vW o=J (mU (X o [])):=by
 unfold vW aX;have d:=eT (X o []);have:bR (Et o) ([],0)=J (mU (X o [])):=by
  rw[show(([],0):M ao×L)=(mU ((X o []).take 0),((0:U):L)) by simp[mU]];refine eS (f:=Et o) (Y (X o [])) (λi=>(mU ((X o []).take i),(i:L))) (λi hi=>?_) ?_ (cM (cA (by omega)));have a:=di (i:=i) (by omega);have h1:=ND ((X o []).take i);have h2:=zr (X o []) i;have h3:=wM hi;have b:mU ((X o []).take (i+1))=mU ((X o []).take i)++NC (X o [])[i]:=by unfold mU;rw[iP hi,xb];simp
  unfold Et aM au aK ah al ay aH aA c9 bv;dsimp-proj only[aj];simp only[];rw[dQ hi,b];simp only[dA hi,cW hi,a,uz];grind [NC];unfold Et aM au aK ah al ay aH aA c9 bv;dsimp-proj only[aj];simp_all
 rw[this];rfl
def VO(b:L):∃v,yE b=J v:=by
 unfold yE aK ah;dsimp-proj only[aj];repeat' split
 all_goals exact⟨_,rfl⟩
def aw2{a b at':U}{x y:aN}(h:y∈wJ a b at' x)(hy:y.1=1):0<Y y.2.1:=by grind [wJ,wid]
def agt(a b:U):∀(f:M aN)(at':U)(y:aN),y∈iZ a b at' f→y.1=1→0<Y y.2.1
 |[],_,y,h,_=>by simp[iZ]at h|x::f,at',y,h,hy=>by
  rw[iZ]at h;rcases nP.1 h with h|h
  exact aw2 h hy;exact agt a b f _ y h hy
def agu{f:Q (M aN)}(m:bm (X f [])≤536870912){p:L}(hp: -4≤p)(d:p≤1073741824):∃b,yG f p=J b∧(b=W→0≤p∧p+1≤cx (X f [])):=by
 unfold yG cJ au ah al ay fE;dsimp-proj only[aj];rw[eh (by omega),oW (by omega),aG];unfold ib;by_cases g:p<0∨p+1<p∨p+1>(cx (X f []):L);simp_all;rw[aV g];simp only[bI,cw];have h:0≤p∧p+1≤(cx (X f []):L):=by omega
 have c:=agt (G p) (G (p+1)) (X f []) 0;generalize iZ (G p) (G (p+1)) 0 (X f [])=a at *;match a,c with
 |[],_=>simp_all|[y],c=>
  have e:(ag [y]==(1:L))=W:=by simp
  have i:decide ((0:L)≤0∧(0:L)<ag [y])=W:=by simp
  rw[e,i];simp only[bI];by_cases h1:y.1=1;have j:=c y (by simp) h1;have k:((H [y] 0 ((0:L),([]:M ao),(0:L))).1==(1:L))=W:=by simp[h1]
  have l:bT 0 (Y (H [y] 0 ((0:L),([]:M ao),(0:L))).2.1)=W:=by unfold bT;rw[iJ];exact j
  rw[k,l];simp only[bI];let⟨v,hv⟩:=VO (fW ((H (H [y] 0 ((0:L),([]:M ao),(0:L))).2.1 0 0)).toNat);simp_all;simp_all
 |y::z::a,_=>
  have e:(ag (y::z::a)==(1:L))=I:=by simp;omega
  simp_all
def aw3{f:Q (M aN)}(c:bm (X f [])≤536870912){x:L}(hx: -1≤x)(a:x≤cx (X f [])):∃r,bR (KT f) x=J r:=by have d:=qL (X f []);let⟨r,h,_⟩:=gs (f:=KT f) (λy=>-1≤y∧y≤cx (X f [])) (λy=>G ((cx (X f []):L)+1-y)) (λr=>dK) (λy hy=>by let⟨b,h1,h2⟩:=agu c (p:=y) (by omega) (by omega);grind [KT,aG,cf]) x ⟨hx,a⟩ (cM (cA (by omega)));exact⟨r,h⟩
def agv{f:Q (M aN)}(c:bm (X f [])≤536870912){x:L}(hx: -1≤x)(a:x≤cx (X f [])):∃r,bR (KU f) x=J r:=by have d:=qL (X f []);let⟨r,h,_⟩:=gs (f:=KU f) (λy=>-1≤y∧y≤cx (X f [])) (λy=>G (y+1)) (λr=>dK) (λy hy=>by have e:aby a7 (y-1)=y-1:=eh (by omega);let⟨b,h1,h2⟩:=agu c (p:=y-1) (by omega) (by omega);grind [KU,aG]) x ⟨hx,a⟩ (cM (cA (by omega)));exact⟨r,h⟩
def agw{s:M ao}(l:Y s≤1073741824):∃r,Er s=J r:=by
 unfold Er aX ah;let⟨r,h1,k,e,hk,b⟩:=gs (f:=KG s) (λy=>∃k:U,y=(k:L)∧k≤Y s) (λy=>Y s-G y) (λr=>∃k:U,r=(k:L)∧k≤Y s∧(k<Y s→yE (fW (H s k 0).toNat)≠J 2)) (λy h=>by
  obtain⟨k,rfl,hk⟩:=h
  by_cases a:k<Y s
  have d:=di (i:=k) (by omega)
  let⟨v,hv⟩:=VO (fW (H s (G ((k:L))) 0).toNat)
  unfold KG iW aK ah cz ay aH aA fE
  rw[dQ a,aF (by simp),aF (VM a),hv,aG]
  grind
  obtain rfl:k=Y s:=by omega
  unfold KG iW aK ah cz ay aH aA fE
  rw[gb]
  grind) 0 ⟨0,rfl,fV _⟩ (cM (cA (by simp;omega)))
 rw[h1,aG];subst e;by_cases m:k=Y s;simp_all;rw[aV (by simp;omega)];have c:k<Y s:=by omega
 let⟨n,h2,_⟩:=gs (f:=Sb s) (λy=>∃j:U,y=(j:L)∧k<j∧j≤Y s) (λy=>G y) (λr=>dK) (λy h=>by
  obtain⟨j,rfl,o,g⟩:=h
  have d:aby a7 ((j:L)-1)=((j-1:U):L):=by grind [cf]
  let⟨v,hv⟩:=VO (fW (H s (G (((j-1:U):L))) 0).toNat)
  unfold Sb iW ah cz bd aH aA fE
  rw[d,aF (by simp),aF (VM (by omega)),hv,aG]
  grind) (ag s) ⟨Y s,by simp,c,dR _⟩ (cM (cA (by simp;omega)))
 simp_all
theorem aw4{f:Q (M aN)}(c:bm (X f [])≤536870912){k:U}(hk:k≤cx (X f [])):∃r,bR (KQ f (cx (X f []):L)) (k:L)=J r∧ -1≤r∧r≤(cx (X f []):L):=by have a:=qL (X f []);refine gs (f:=KQ f (cx (X f []):L)) (λy=>∃j:U,y=(j:L)∧j≤cx (X f [])) (λy=>cx (X f [])-G y) (λr=>-1≤r∧r≤(cx (X f []):L)) (λy h=>?_) (k:L) ⟨k,rfl,hk⟩ (cM (cA (by simp;omega)));obtain⟨j,rfl,d⟩:=h;unfold KQ au aK ah al ay aH aA;by_cases b:j<cx (X f []);grind [cf,oW,aG];grind
def aw5{f:Q (M aN)}(d:bm (X f [])≤536870912)(off:L):∃r,KS f off=J r∧ -1≤r∧r≤cx (X f []):=by
 have a:=qL (X f []);unfold KS aX aK;by_cases b:off<0;simp_all;rw[aV (by simpa using b),Hc (by omega),aG];by_cases h1:off>(Y (mU (X f [])):L);simp_all;rw[aV (by simpa using h1),sq (by omega),aG];let⟨r,h2,h3⟩:=gs (f:=KR f off (cx (X f []):L)) (λy=>∃k:U,y=(k:L)∧k≤cx (X f [])+1) (λy=>cx (X f [])+1-G y) (λr=>match r with|.inl z=>-1≤z∧z≤(cx (X f []):L)|.inr _=>dK) (λy h=>by obtain⟨k,rfl,hk⟩:=h;by_cases c:k≤cx (X f []);grind [cf,nM,aw4,KR,oW,aG,Hc];simp_all [KR,aV,aX,aK,ah,ay,aH,aA]) 0 ⟨0,rfl,fV _⟩ (cM (cA (by simp;omega)))
 rw[h2,aG];cases r with|inl z=>exact⟨z,rfl,h3⟩|inr z=>simp_all
def aw6{a:Q (M Ce)}(w:Cf a){f:Q (M aN)}(g:bm (X f [])≤536870912):∃r,KX a f=J r∧Y (X r [])≤1025:=by
 have A:=qL (X f []);unfold KX aX au al bv;rw[Hc (by omega),aG];let⟨br,B,C⟩:=aw1 w (mU (X f []));rw[B,aG,aF (by simp;omega)];have j:Y (X br []++[(-1:L)])≤1025:=by simp;omega
 let⟨r,h1,h2⟩:=gs (f:=KW f br) (λy=>∃k:U,y.2.2=(k:L)∧k≤Y (X br []++[(-1:L)])∧Y (X y.1 [])≤k∧ -1≤y.2.1∧y.2.1≤cx (X f [])) (λy=>Y (X br []++[(-1:L)])-y.2.2.toNat) (λr=>Y (X r [])≤1025) (λy h=>by
  let⟨acc,fr,i⟩:=y
  obtain⟨k,rfl,hk,D,c,d⟩:=h
  simp only[]at D c d
  by_cases b:k<Y (X br []++[(-1:L)])
  have E:=di (i:=k) (by omega)
  have F:(decide ((0:L)≤(k:L)∧(k:L)<ag (X br []++[(-1:L)]))&&bT (0+((k:L)).toNat) (Y (X br []++[(-1:L)])))=W:=by rw[dA b,zx b];rfl
  let⟨x,u⟩:=aw3 g c d
  unfold KW aX au aK al ay aH aA bv;dsimp-proj only[aj]
  simp only[]
  rw[dQ b,aF F,sq (by omega),aG,E]
  have e:∀z:L×L,(decide (0+Y (X acc [])=Y (X acc []))&&(decide (Y (X acc [])+1≤68719476736)&&V acc==V acc))=W:=λz=>by simp;omega
  have e:=e (0,0)
  have l:bR (acs f) fr=J x:=u
  by_cases v:(X br []++[(-1:L)]).getD (0+((k:L)).toNat) 0≥0
  rw[aF (by simpa using v)]
  let⟨to,G,H,K⟩:=aw5 g ((X br []++[(-1:L)]).getD (0+((k:L)).toNat) 0)
  have m:=nM (X f []) fr to
  have n:=ND (X (ib (X f []) fr to).1 [])
  let⟨t,o⟩:=agw (s:=mU (X (ib (X f []) fr to).1 [])) (by omega)
  let⟨z,p⟩:=agv g H K
  rw[G,aG,oW (by omega),aG,Hc (by omega),aG,o,aG,u,p]
  grind [aG]
  rw[aV (by simpa using v)]
  have m:=nM (X f []) fr (cx (X f []):L)
  have n:=ND (X (ib (X f []) fr (cx (X f []):L)).1 [])
  let⟨t,o⟩:=agw (s:=mU (X (ib (X f []) fr (cx (X f []):L)).1 [])) (by omega)
  let⟨z,p⟩:=agv g (x:=(cx (X f []):L)) (by omega) (Int.le_refl _)
  have q:bR (act f) (cx (X f []):L)=J z:=p
  rw[oW (by omega),aG,Hc (by omega),aG,o,aG,l,q]
  grind [aG]
  obtain rfl:k=Y (X br []++[(-1:L)]):=by omega
  unfold KW aX au aK al ay aH aA bv;dsimp-proj only[aj]
  simp only[]
  rw[gb]
  omega) (O,0,0) ⟨0,rfl,fV _,by simp,by simp,by simp⟩ (cM (cA (by simp at j ⊢;omega)))
 simp_all
def NE{α:Type}[DecidableEq α]{F:L→Q (L⊕az⊕Unit)}{a b:M α}{d:α}(h:Y a≤1073741824) (i:∀s:L,F s=if decide (s<ag a)=W then(if(decide ((0:L)≤s∧s<ag a)&&decide ((0:L)≤s∧s<ag b))=W then(if(!decide (H a (G s) d=H b (G s) d))=W then J (.inr (.inl I))else J (.inl (aby a7 (s+1))))else O)else J (.inr (.inr ()))):(if(ag a !=ag b)=W then J I else aq (bR F 0) λr1=>dc r1 (λc=>J c) λ_=>J W)=J (decide (a=b)):=by
 by_cases f:Y a=Y b;grind [ag,Ni,cM,cA,cf,cW];have g:(ag a !=ag b)=W:=by simp;omega
 rw[aF g,jC (λe=>f (by rw[e]))]
def agx(a b:L):(a !=b)= !decide (a=b):=by by_cases h:a=b<;>simp[h]
def agy{a b:Q (M L)}(c:Y (X a [])≤1073741824):FZ a b=J (decide (X a []=X b [])):=by unfold FZ aX ah al;exact NE (d:=0) c λs=>by unfold acy aM au aK ah al ay aH aA;rw[agx]
def agz{a b:Q (M L)}(c:Y (X a [])≤1073741824):Bv a b=J (decide (X a []=X b [])):=by unfold Bv aX ah al;exact NE (d:=0) c λs=>by unfold acu aM au aK ah al ay aH aA;rw[agx]
def aw7{a b:Q (M (M ao))}(c:Y (X a [])≤1073741824):Me a b=J (decide (X a []=X b [])):=by unfold Me aX ah al;exact NE (d:=[]) c λs=>rfl
def aw8{a b:Q (M (M ao))}(c:Y (X a [])≤1073741824):Ld a b=J (decide (X a []=X b [])):=by unfold Ld aX ah al;exact NE (d:=[]) c λs=>rfl
def zy(s:M ao)(l:M (M ao)):M (M ao):=l.takeWhile (λx=>decide (x≤s))++[s]++l.dropWhile (λx=>decide (x≤s))
theorem agA:∀(x y:M ao),nN x y=decide (x<y)|[],[]=>by simp[nN]|_::_,[]=>by simp[nN]|[],_::_=>by simp[nN]|a::x,b::y=>by have:=agA x y;grind [nN,List.cons_lt_cons_iff]
theorem agB(a s:M ao):(nN a s||decide (a=s))=decide (a≤s):=by grind [agA]
def agC{α:Type}(p:α→az)(l:M α):Y (l.takeWhile p)≤Y l:=(List.takeWhile_sublist p).length_le
def aw9{α:Type}(p:α→az)(l:M α):l.takeWhile p=l.take (Y (l.takeWhile p))∧l.dropWhile p=l.drop (Y (l.takeWhile p)):=by grind [ahT]
def VP{α:Type}(p:α→az):∀(l:M α)(i:U)(h:i<Y l),i<Y (l.takeWhile p)→p l[i]=W|a::l,0,h,hi=>by grind [HQ]|a::l,i+1,h,hi=>by by_cases hp:p a=W;simp[HQ,hp]at hi;exact VP p l i (by simpa using h) hi;simp_all
theorem agD{α:Type}(p:α→az):∀(l:M α)(h:(l.takeWhile p).length<l.length),p l[(l.takeWhile p).length]=I|a::l,h=>by by_cases hp:p a=W;simp only[HQ,hp,bI,List.length_cons,List.getElem_cons_succ]at h ⊢;exact agD p l (by omega);simp_all
def axa{l:M (M ao)}{o:Q (M (M ao))}(b:X o []=l)(n:Y l≤1073741824)(s:M ao):Le o s=J (J (zy s l)):=by
 have p:=agC (λx=>decide (x≤s)) l;let⟨d,e⟩:=aw9 (λx=>decide (x≤s)) l;have a:bR (EO o s) 0=J ((Y (l.takeWhile (λx=>decide (x≤s))):U):L):=by
  refine eS (f:=EO o s) (Y (l.takeWhile (λx=>decide (x≤s)))) (λi=>(i:L)) (λi hi=>?_) ?_ (cM (cA (by omega)));have c:i<Y l:=by omega
  have g:=di (i:=i) (by omega);have hp:=VP (λx=>decide (x≤s)) l i c hi;unfold EO aM au ah al ay aH aA;rw[b,aF (by simp;try omega),cW c,agB,hp,aF (by simp;try omega),g];unfold EO aM au ah al ay aH aA;rw[b];by_cases h:Y (l.takeWhile (λx=>decide (x≤s)))<Y l;grind [agD,cW,agB];rw[aF (by simp;try omega),aV (by simp;try omega)]
 unfold Le aX au al bv;dsimp-proj only[aj];rw[a,aG];generalize hk:Y (l.takeWhile (λx=>decide (x≤s)))=k at *;have j:∀x:M (M ao),X (eo x) []=x:=λx=>by cases x<;>rfl
 have m:X (gj (bu 0 (k:L)) o) []=l.take k:=by
  cases o with|none=>grind|some x=>simp only[fL]at b;subst b;exact gX x 0 k
 have m2:X (gj (bu (k:L) (ag (X o []))) o) []=l.drop k:=by
  cases o with|none=>grind|some x=>grind [iY]
 rw[m2];simp only[m,j,b];rw[aF (by simp;omega),aF (by simp;omega)];unfold zy;rw[d,e]
def kA(l:M (M ao)):M (M ao):=l.mergeSort λx y=>decide (x≤y)
theorem axb(s:M ao)(l:M (M ao)):(zy s l).Perm (s::l):=by grind [zy,ahT]
theorem axc{s:M ao}{l:M (M ao)}(h:l.Pairwise (·≤ ·)):(zy s l).Pairwise (·≤ ·):=by
 unfold zy;have d:=ahT (p:=λx=>decide (x≤s)) (l:=l);rw[←d]at h;have h1:=(Hv.1 h);rw[List.append_assoc,Hv];have e:∀x∈l.takeWhile (λx=>decide (x≤s)),x≤s:=λx c=>by obtain⟨i,hi,rfl⟩:=zU c;have a:i<l.length:=Nat.lt_of_lt_of_le hi (agC _ l);have:=VP (λx=>decide (x≤s)) l i a hi;grind
 have hd:∀x∈l.dropWhile (λx=>decide (x≤s)),s≤x:=λx c=>by
  cases b:l.dropWhile (λx=>decide (x≤s))with|nil=>grind|cons y r=>have hy:s≤y:=(by have:=List.head_dropWhile_not (λx=>decide (x≤s)) (l:=l) (by rw[b];simp);grind);grind [Cq]
 grind
def axd(s:M ao)(l:M (M ao)):zy s (kA l)=kA (l++[s]):=by grind [kA,List.mergeSort_perm,List.pairwise_mergeSort,List.Perm.eq_of_pairwise,axc,axb]
theorem axe(l:M (M ao)):Mc l=aT (kA l):=by
 cases l with
 |nil=>simp[kA,Mc,aT]|cons a l=>
  have:kA (a::l)≠[]:=λe=>by grind [kA,ayY]
  cases h:kA (a::l)with|nil=>exact cO h this|cons b r=>show J (kA (a::l))=_;rw[h];rfl
theorem NF(l:M (M ao)):Y (kA l)=Y l:=ayY l
def agE{o:Q (M aN)}(a:Y (X o [])≤1073741824):wu o=J (aT (kA (jz (X o [])))):=by grind [wu,axe]
def axf{f:M aN}{i:U}(h:i<Y f):jz (f.take (i+1))=jz (f.take i)++if f[i].1==5 then[f[i].2.1]else[]:=by grind [jz,iP]
def agF(f:M aN):Y (jz f)≤Y f:=by simp_all [jz,HO]
def agG{o:Q (M aN)}(k:Y (X o [])≤1073741824):ER o=J (aT (kA (jz (X o [])))):=by
 unfold ER aX;have:bR (EP o) (O,0)=J (aT (kA (jz (X o [])))):=by
  rw[show((O,0):Q (M (M ao))×L)=(aT (kA (jz ((X o []).take 0))),((0:U):L)) by simp[kA,jz,aT]];refine eS (f:=EP o) (Y (X o [])) (λi=>(aT (kA (jz ((X o []).take i))),(i:L))) (λi hi=>?_) ?_ (cM (cA (by omega)));have d:=di (i:=i) (by omega);have g:=agF ((X o []).take i);have j:Y ((X o []).take i)≤i:=by simp;omega
  unfold EP bJ cJ aM ah al ay aH aA;rw[dQ hi,aF (dA hi),axf hi];simp only[cW hi,d];by_cases c:((X o [])[i].1==5)=W;rw[aF c,aF c,aF (dA hi),axa (cw _) (by rw[NF];omega),axd];have b:kA (jz ((X o []).take i)++[(X o [])[i].2.1])≠[]:=λe=>by grind [NF]
  rw[aG];cases h:kA (jz ((X o []).take i)++[(X o [])[i].2.1])with|nil=>exact cO h b|cons a l=>rfl
  grind;unfold EP bJ cJ aM ah al ay aH aA;simp_all
 rw[this];rfl
abbrev iT:Ty:=(Ty.int a7).bG (Ty.bh.bG (Ty.int a7))
theorem VQ(x y:aN):jH iT x y=decide (x=y):=by let⟨a,b,c⟩:=x;let⟨d,e,f⟩:=y;show((a==d)&&(decide (b=e)&&(c==f)))=_;by_cases h1:a=d<;>by_cases h2:b=e<;>by_cases h3:c=f<;>simp[h1,h2,h3]
theorem Cg{V:Type}(x:aN)(r:aN×V)(l:M (aN×V)):du iT x (r::l)=if x=r.1 then J r.2 else du iT x l:=by grind [du,VQ]
theorem VS{V:Type}(x:aN)(y:V)(r:aN×V)(l:M (aN×V)):fZ iT x y (r::l)=if x=r.1 then(x,y)::l else r::fZ iT x y l:=by grind [fZ,VQ]
def NG(x:aN)(z v:L):∀m:M (aN×L),pr v (mD iT x m) (nt iT x z m)=fZ iT x v m∧mD iT x m<Y (nt iT x z m)|[]=>⟨rfl,Nat.lt_succ_self 0⟩|r::m=>by let⟨h1,h2⟩:=NG x z v m;grind [mD,VQ,nt,VS,pr.eq_2,pr.eq_3]
def agH{V:Type}(z x:aN)(y:V):∀l:M (aN×V),du iT z (fZ iT x y l)=if z=x then J y else du iT z l|[]=>by show du iT z [(x,y)]=_;rw[Cg]|r::l=>by rw[VS];by_cases h:x=r.1;grind [Cg];rw[aV h,Cg,Cg,agH z x y l];grind
def agI{V:Type}(x:aN)(y:V):∀l:M (aN×V),adF (l.map (·.1))→adF ((fZ iT x y l).map (·.1))∧∀k∈(fZ iT x y l).map (·.1),k=x∨k∈l.map (·.1)|[],_=>⟨by show([(x,y)].map (·.1)).Nodup;simp,λk hk=>.inl (by have hk:k∈[(x,y)].map (·.1):=hk;simpa using hk)⟩|r::l,h=>by rw[eU,wW]at h;let⟨h1,h2⟩:=agI x y l h.2;grind [VS]
def qP(m:M (aN×L))(c:aN→L):Prop:=adF (m.map (·.1))∧∀z,X (du iT z m) 0=c z
theorem qP.bump{m:M (aN×L)}{c:aN→L}(h:qP m c)(x:aN)(v:L):qP (pr v (mD iT x m) (nt iT x 0 m)) (λz=>if z=x then v else c z):=by rw[(NG x 0 v m).1];refine⟨(agI x v m h.1).1,λz=>?_⟩;rw[agH];by_cases a:z=x;simp[a];simp only[aV a];exact h.2 z
def agJ(z x:aN)(l:M aN):List.count z (l++[x])=List.count z l+if z=x then 1 else 0:=by grind
def axg{l:M aN}{o:Q (M aN)}(c:X o []=l)(n:Y l≤1073741824):∃m,bR (F0 o) ([],0)=J m∧qP m (λz=>(l.count z:L)):=by
 refine gs (f:=F0 o) (λs=>∃k:U,s.2=(k:L)∧k≤Y l∧qP s.1 (λz=>((l.take k).count z:L))) (λs=>Y l-G s.2) (λm=>qP m (λz=>(l.count z:L))) (λs h=>?_) ([],0) ⟨0,rfl,fV _,by simp,λz=>by simp[du]⟩ (cM (cA (by simp;omega)));let⟨m,i⟩:=s;obtain⟨k,rfl,hk,b⟩:=h;simp only[]at b;by_cases a:k<Y l;have d:=di (i:=k) (by omega);have p:(l.take k).count l[k]≤k:=by grind [ahU]
 have q:=(NG l[k] 0 (aby a7 (X (du iT l[k] m) 0+1)) m).2;have g:=b.bump l[k] (aby a7 (X (du iT l[k] m) 0+1));unfold F0;simp only[c,cW a];rw[dQ a,aF (by simp_all)];simp only[fq,d];refine⟨⟨k+1,rfl,a,?_⟩,by omega⟩;have e:(λz=>((l.take (k+1)).count z:L))=λz=>if z=l[k]then aby a7 (X (du iT l[k] m) 0+1)else((l.take k).count z:L):=funext λz=>by rw[iP a,agJ];by_cases r:z=l[k];have j:=b.2 l[k];grind [cf];grind
 rw[e];exact g;obtain rfl:k=Y l:=by omega
 simp_all [F0]
def axh{l:M aN}{o:Q (M aN)}(j:X o []=l)(v:Y l≤1073741824){b:M (aN×L)}{c:aN→U}(g:qP b (λz=>(c z:L)))(n:∀z,c z≤1073741824):∃m,bR (F2 o) (b,0)=J m∧qP m (λz=>(c z:L)-(l.count z:L)):=by
 refine gs (f:=F2 o) (λs=>∃k:U,s.2=(k:L)∧k≤Y l∧qP s.1 (λz=>(c z:L)-((l.take k).count z:L))) (λs=>Y l-G s.2) (λm=>qP m (λz=>(c z:L)-(l.count z:L))) (λs h=>?_) (b,0) ⟨0,rfl,fV _,g.1,λz=>by simpa using g.2 z⟩ (cM (cA (by simp;omega)));let⟨m,i⟩:=s;obtain⟨k,rfl,hk,d⟩:=h;simp only[]at d;by_cases a:k<Y l;have p:=di (i:=k) (by omega);have q:(l.take k).count l[k]≤k:=by grind [ahU]
 have r:=n l[k];have w:=(NG l[k] 0 (aby a7 (X (du iT l[k] m) 0-1)) m).2;have t:=d.bump l[k] (aby a7 (X (du iT l[k] m) 0-1));unfold F2;simp only[j,cW a];rw[dQ a,aF (by simp_all)];simp only[fq,p];refine⟨⟨k+1,rfl,a,?_⟩,by omega⟩;have e:(λz=>(c z:L)-((l.take (k+1)).count z:L))=λz=>if z=l[k]then aby a7 (X (du iT l[k] m) 0-1)else(c z:L)-((l.take k).count z:L):=funext λz=>by rw[iP a,agJ];by_cases x:z=l[k];have u:=d.2 l[k];grind [cf];grind
 rw[e];exact t;obtain rfl:k=Y l:=by omega
 simp_all [F2]
def axi{m:M (aN×L)}(h:adF (m.map (·.1))){r:aN×L}(a:r∈m):du iT r.1 m=J r.2:=by
 induction m with
 |nil=>cases a
 |cons q m b=>grind [Cg]
def axj{m:M (aN×L)}{z:aN}{v:L}(h:du iT z m=J v):(z,v)∈m:=by
 induction m with
 |nil=>cases h
 |cons q m a=>grind [Cg]
def axk{m:M (aN×L)}{c:aN→L}(h:qP m c):rQ m.length (Mf m) SM ()=J (if m.all (λr=>decide (r.2=0))=W then .inr ()else .inl I):=by
 refine abm λl b=>?_;have key:∀(l:M U)(a:M U),(∀i∈l,i<m.length)→nA (Mf m) SM a l ()=J (if l.all (λi=>decide ((m.getD i ((0,[],0),0)).2=0))=W then .inr ()else .inl I):=by
  intro l;induction l with
  |nil=>intro a _;rfl
  |cons i l e=>grind [nA,Mf,bT,iJ]
 rw[key l [] (λi hi=>by grind)];congr 2;have:l.all (λi=>decide ((m.getD i ((0,[],0),0)).2=0))=m.all (λr=>decide (r.2=0)):=by rw[Bool.eq_iff_iff,gy,gy];constructor;intro h r d;obtain⟨i,hi,rfl⟩:=zU d;have:=h i (b.mem_iff.2 (by simpa using hi));grind;grind
 rw[this]
theorem axl{o:Q (M aN)}(b:Y (X o [])≤1073741824)(x:aN):EV o x=J ((X o []).count x:L):=by
 unfold EV aX;have:bR (EU o x) (0,0)=J ((X o []).count x:L):=by
  rw[show((0,0):L×L)=((((X o []).take 0).count x:L),((0:U):L)) by simp];refine eS (f:=EU o x) (Y (X o [])) (λi=>((((X o []).take i).count x:L),(i:L))) (λi hi=>?_) ?_ (cM (cA (by omega)));have c:=di (i:=i) (by omega);have d:((X o []).take i).count x≤i:=by grind [ahU]
  have a:aby a7 ((((X o []).take i).count x:L)+1)=(((X o []).take i).count x:L)+1:=eh (by omega);unfold EU bJ aM ah al ay aH aA;rw[dQ hi,aF (dA hi)];grind [cW,iP];unfold EU bJ aM ah al ay aH aA;simp_all
 rw[this];rfl
def axm{s t:M aN}(a:Y s=Y t)(h:∀x∈s,s.count x=t.count x):s.Perm t:=by
 have h1:s.Perm (t.filter λx=>decide (x∈s)):=by grind [List.count_filter,List.count_eq_zero]
 grind [List.Perm.length_eq,List.length_filter_eq_length_iff]
def agK{s t:Q (M aN)}(D:Y (s.getD [])≤536870912)(E:Y (t.getD [])≤536870912):∃b,r8 s t=J b∧yP s t=J b:=by
 let⟨a,j,k,G,H⟩:=agc (o:=s) (by omega);let⟨e,l,m,K,N⟩:=agc (o:=t) (by omega);have P:=HO fk (s.getD []);have lt:=HO fk (t.getD []);let⟨R,c1,d1⟩:=axg (cw ((s.getD []).filter fk)) (by omega);let⟨m2,n,d2⟩:=axh (cw ((t.getD []).filter fk)) (by omega) d1 (λz=>by grind);have p:=agF (s.getD []);unfold r8 yP aX ah al;rw[j,l,k,m];simp only[aG,agy (show(Y (a.1.getD []))≤1073741824 by omega),agy (show(Y (a.2.1.getD []))≤1073741824 by omega),agz (show(Y (a.1.getD []))≤1073741824 by omega),agz (show(Y (a.2.1.getD []))≤1073741824 by omega),aga (show(Y (s.getD []))≤1073741824 by omega),aga (show(Y (t.getD []))≤1073741824 by omega),agb (show(Y (s.getD []))≤1073741824 by omega),agb (show(Y (t.getD []))≤1073741824 by omega),c1,n,axk d2,agE (show(Y (s.getD []))≤1073741824 by omega),agE (show(Y (t.getD []))≤1073741824 by omega),agG (show(Y (s.getD []))≤1073741824 by omega),agG (show(Y (t.getD []))≤1073741824 by omega)];rw[aw7 (by rw[cw,NF];omega),aw8 (by rw[cw,NF];omega)];simp only[cw,aG];cases h1:a.2.2;simp_all;cases h2:e.2.2;simp_all;by_cases h3:a.1.getD []=e.1.getD [];rotate_left;simp_all;by_cases q:a.2.1.getD []=e.2.1.getD [];rotate_left;simp_all;simp only[h3,q,decide_true,kF,bL,ch];generalize V:(s.getD []).filter fk=S at *;generalize hT:(t.getD []).filter fk=T at *;have g:m2.all (λr=>decide (r.2=0))=W↔ ∀z,S.count z=T.count z:=by
  rw[gy];constructor;intro h z;have:=d2.2 z;cases u:du iT z m2 with|none=>grind|some v=>have hv:v=0:=(by simpa using h _ (axj u));grind
  intro h r w;have:=d2.2 r.1;simp only[axi d2.1 w,h]at this;simpa using this
 by_cases f:kA (jz (s.getD []))=kA (jz (t.getD []));rotate_left;refine⟨I,?_,by simp[f]⟩;cases m2.all (λr=>decide (r.2=0))with|true=>simp[f]|false=>rfl
 simp only[f,decide_true,kF,bL,ch];have c:∀d:Y S=Y T,bR (EW (aT S) (aT T)) 0=J (if S.any (λx=>decide (S.count x≠T.count x))=W then .inl I else .inr ()):=λd=>by
  have:=wO (F:=EW (aT S) (aT T)) (Y S) (λi=>(i:L)) (λi=>decide (S.count (S.getD i (0,[],0))≠T.count (S.getD i (0,[],0)))) I () (λi hi=>by
   have X:=di (i:=i) (by omega)
   have y:S.getD i (0,[],0)=S[i]:=by grind
   unfold EW bJ cJ aM ah al ay aH aA
   rw[y]
   simp only[cw]
   rw[dQ hi,aF (dA hi)]
   grind [cW,dA,axl,cw,aG]) (by
   unfold EW bJ cJ aM ah al ay aH aA
   simp_all) (cM (cA (by omega)))
  grind [Nv]
 cases A:m2.all (λr=>decide (r.2=0))with
 |true=>have hp:=g.1 A;have d:Y S=Y T:=(ayZ.2 hp).length_eq;simp_all|false=>
  refine⟨I,rfl,?_⟩;by_cases d:Y S=Y T;rw[aV (by simp[d]),c d,aG,aF];rfl;have:∃x∈S,S.count x≠T.count x:=by refine ay0 λhn=>?_;have:=g.2 (ayZ.1 (axm d λx B=>ay0 λC=>hn ⟨x,B,C⟩));grind
  grind;rw[aF (by rw[bne_iff_ne];simp;omega)]
abbrev kT:Ty:=(Ty.int a7).bG (Ty.int a7)
abbrev KV:=(L×L)×Q (M aN)
theorem eqK(x y:L×L):jH kT x y=decide (x=y):=by let⟨a,b⟩:=x;let⟨c,d⟩:=y;show((a==c)&&(b==d))=_;by_cases h1:a=c<;>by_cases h2:b=d<;>simp[h1,h2]
def uh(x y:L×L):Prop:=x.1<y.1∨(x.1=y.1∧x.2<y.2)
def agL(x y:L×L):pp kT x y=W↔uh x y:=by let⟨a,b⟩:=x;let⟨c,d⟩:=y;show(decide (a<c)||((a==c)&&decide (b<d)))=W↔_;simp[uh]
def agM(x:L×L)(r:KV)(l:M KV):du kT x (r::l)=if x=r.1 then J r.2 else du kT x l:=by grind [du,eqK]
theorem NH{x:L×L}:∀{l:M KV},(∀r∈l,r.1≠x)→du kT x l=O|[],_=>rfl|r::l,h=>by rw[agM,aV (λe=>h r (by simp) e.symm)];exact NH λq a=>h q (by simp[a])
def agN(x:L×L)(y:Q (M aN))(r:KV)(l:M KV):pq kT x y (r::l)=if pp kT x r.1=W then(x,y)::r::l else r::pq kT x y l:=by grind [pq]
def VU(x:L×L)(y:Q (M aN)):∀l:M KV,(pq kT x y l).Perm ((x,y)::l)|[]=>ay1 _|r::l=>by rw[agN];split;exact ay1 _;·exact((VU x y l).cons r).trans (List.Perm.swap _ _ _)
def ui(l:M KV):Prop:=l.Pairwise λa b=>uh a.1 b.1
def agO{x:L×L}{y:Q (M aN)}:∀{l:M KV},ui l→(∀r∈l,r.1≠x)→ui (pq kT x y l)
 |[],_,_=>List.pairwise_singleton _ _|r::l,h,hn=>by
  have c:=Cq.1 h;rw[agN];split;rename_i a;have a:=(agL _ _).1 a;refine Cq.2 ⟨λq b=>?_,h⟩;rcases jQ.1 b with rfl|b
  exact a;have:=c.1 q b;unfold uh at *;grind;rename_i a;have a:¬uh x r.1:=λe=>a ((agL _ _).2 e);refine Cq.2 ⟨λq b=>?_,agO c.2 λq b=>hn q (by simp[b])⟩;rcases jQ.1 ((VU x y l).mem_iff.1 b)with rfl|b
  have d:=hn r (by simp);have:r.1.1≠x.1∨r.1.2≠x.2:=by grind
  unfold uh at *;grind;exact c.1 q b
def axo{l l':M KV}(h:ui l)(c:ui l')(hp:l.Perm l'):l=l':=List.Perm.eq_of_pairwise (le:=λa b:KV=>uh a.1 b.1) (λa b _ _ h1 h2=>by unfold uh at h1 h2;omega) h c hp
def Ch(a:L)(m:M KV)(r:L×Q (M aN)):M KV:=match(V (du kT (a,r.1) m)) with|true=>fZ kT (a,r.1) r.2 m|false=>pq kT (a,r.1) r.2 m
def agP(a:L):∀(rs:M (L×Q (M aN)))(m:M KV),ui m→(∀q∈m,∀r∈rs,q.1≠(a,r.1))→adF (rs.map (·.1))→ui (rs.foldl (Ch a) m)∧(rs.foldl (Ch a) m).Perm (m++rs.map λr=>((a,r.1),r.2))
 |[],m,h,_,_=>⟨h,by simp⟩|r::rs,m,h,hn,hd=>by
  rw[eU,wW]at hd;have c:du kT (a,r.1) m=O:=NH λq b=>hn q b r (by simp);have e:Ch a m r=pq kT (a,r.1) r.2 m:=by unfold Ch;rw[c];rfl
  rw[List.foldl_cons,e];have hp:=VU (a,r.1) r.2 m;let⟨f,g⟩:=agP a rs _ (agO (y:=r.2) h λq b=>hn q b r (by simp)) (λq b i d=>by grind) hd.2;grind
def jO(d:Dc)(k:U):Q (M aN):=match mf d (k:L)with|some r=>r.1|none=>O
def mV(d:Dc):M (L×Q (M aN)):=(gZ (X d.2 []) (Y (X d.2 []))).map λ(k:U)=>((k:L),jO d k)
def zA(P:M df)(n:U):∀k∈gZ P n,k<n∧(H P k (I,[],[])).1=W:=λk hk=>by simp_all [gZ]
def VV(P:M df)(n:U):(gZ P n).Pairwise (·< ·):=List.Pairwise.filter _ List.pairwise_lt_range
def agQ{V:Type}(x:L)(y:V):∀l:M (L×V),(∀r∈l,r.1≠x)→fZ (.int .i64) x y l=l++[(x,y)]|[],_=>rfl|r::l,h=>by rw[VI,aV (λe=>h r (by simp) e.symm),agQ x y l λq a=>h q (by simp[a])];rfl
def axp{d:Dc}(h1:Y (X d.2 [])≤1073741824)(h2:∀q∈X d.2 [],Y q.2.2≤67108864):LM d=J (mV d):=by
 unfold LM aX;rw[Ca h1,aG];generalize l:gZ (X d.2 []) (Y (X d.2 []))=a;have g:=G2 (X d.2 []) (Y (X d.2 []));have c:=VV (X d.2 []) (Y (X d.2 []));rw[l]at g c;have:bR (Ft d (aT (a.map fW))) ([],0)=J (a.map λ(k:U)=>((k:L),jO d k)):=by
  rw[show(([],0):M (L×Q (M aN))×L)=((a.take 0).map λ(k:U)=>((k:L),jO d k),((0:U):L)) by simp];refine eS (f:=Ft d (aT (a.map fW))) (Y a) (λi=>((a.take i).map λ(k:U)=>((k:L),jO d k),(i:L))) (λi hi=>?_) ?_ (cM (cA (by omega)));have m:=di (i:=i) (by omega);have b:i<Y (a.map fW):=by simpa using hi
  let⟨f,e,n,o,_⟩:=G3 h2 (a[i]:L);have p:jO d a[i]=f:=by unfold jO;rw[n]
  unfold Ft bJ aM al ay aH aA;simp only[cw];rw[dQ b,aF (dA b),cW b,List.getElem_map];simp only[m];rw[show yZ d (fW a[i])=_ from o,aG];rw[iP hi,mj,eU,List.map_nil,p];refine congrArg (λz=>J (mo (z,((i+1:U):L)))) (agQ _ _ _ λr s=>?_);obtain⟨k,hk,rfl⟩:=mh.1 s;obtain⟨j,t,rfl⟩:=zU hk;have h:j<i:=by simp at t;omega
  rw[List.getElem_take];have:=(List.pairwise_iff_getElem.1 c) j i (by omega) hi h;grind;simp_all [Ft,bJ,aM,al,ay,aH,aA]
 rw[this,aG];unfold mV;rw[l]
def gn(bY:M Dc)(n:U):M KV:=(iz n).flatMap λi=>(mV (H bY i (0,O))).map λr=>(((i:L),r.1),r.2)
theorem agR(bY:M Dc)(n:U):gn bY (n+1)=gn bY n++(mV (H bY n (0,O))).map λr=>(((n:L),r.1),r.2):=by unfold gn;rw[xc,xb];simp
theorem VW{bY:M Dc}{n:U}{q:KV}(h:q∈gn bY n):∃i:U,i<n∧q.1.1=(i:L):=by grind [gn]
def agS(d:Dc):(mV d).Pairwise λa b=>a.1<b.1:=by simp_all [mV,Hu,VV]
def NI(bY:M Dc):∀n,ui (gn bY n)|0=>ayX|n+1=>by rw[agR];unfold ui;rw[Hv];refine⟨NI bY n,?_,λa c b d=>?_⟩;rw[Hu];exact(agS _).imp λh=>.inr ⟨rfl,h⟩;let⟨i,hi,e⟩:=VW c;obtain⟨r,_,rfl⟩:=mh.1 d;refine .inl ?_;grind
abbrev eE:=L×L×L×(L×L)×L×Q (M aN)×M ao×L×az
abbrev dV:=Q (M Dc)×Q (M eE)×L
def agT(a:L×Q (M Dc)×Q (M eE)×L×M KV)(rows:M (L×Q (M aN))):∀(l sn:M U)(x:Q (M Dc)×Q (M eE)×L×M KV),(∀i∈l,i<Y rows)→nA (F6 a rows) SN sn l x=J (x.1,x.2.1,x.2.2.1,(l.map λi=>H rows i (0,O)).foldl (Ch a.1) x.2.2.2)
 |[],sn,x,_=>rfl|i::l,sn,x,h=>by
  have step:F6 a rows sn i x=J (.inl (x.1,x.2.1,x.2.2.1,Ch a.1 x.2.2.2 (H rows i (0,O)))):=by unfold F6;rw[aF (by grind [bT,iJ])];rfl
  rw[nA,step];simp only[];rw[agT a rows l _ _ λj b=>h j (by simp[b])];rfl
def axq{α:Type}(d:α)(l:M α):(iz (Y l)).map (λi=>H l i d)=l:=by apply List.ext_getElem (by simp);grind
def axr(bY:M Dc)(i:U)(x:Q (M Dc)×Q (M eE)×L):rQ (Y (mV (H bY i (0,O)))) (F6 ((i:L),x.1,x.2.1,x.2.2,gn bY i) (mV (H bY i (0,O)))) SN (x.1,x.2.1,x.2.2,gn bY i)=J (x.1,x.2.1,x.2.2,gn bY (i+1)):=by
 refine abm λl c=>?_;rw[agT _ _ l [] _ λj f=>by grind];simp only[];have hp:(l.map λa=>H (mV (H bY i (0,O))) a (0,O)).Perm (mV (H bY i (0,O))):=by have:=c.map λa=>H (mV (H bY i (0,O))) a (0,O);rwa [axq]at this
 have b:adF ((mV (H bY i (0,O))).map (·.1)):=by rw[List.nodup_iff_pairwise_ne,Hu];exact(agS _).imp λh=>by omega
 let⟨d,g⟩:=agP (i:L) (l.map λa=>H (mV (H bY i (0,O))) a (0,O)) (gn bY i) (NI bY i) (λq k r m e=>by grind [VW]) ((hp.map _).nodup_iff.2 b);have:=axo d (NI bY (i+1)) (by grind [agR]);rw[this]
def axs{o:Q (M aN)}(h:Y (X o [])≤1073741824):LN o=J o:=by
 unfold LN au ah al;cases o with|none=>rfl|some l=>grind
def axt{o:Q (M df)}(h:Y (X o [])≤1073741824):LO o=J o:=by
 unfold LO au ah al;cases o with|none=>rfl|some l=>grind
def sgZ:eE:=(0,0,0,(0,0),0,O,[],0,I)
structure lO(p:dV):Prop where
 parts:∀d∈X p.1 [],Y (X d.2 [])≤1048576∧Y (dO (X d.2 []))≤1073741824
 tg:∀s∈X p.2.1 [],bm (X s.2.2.2.2.2.1 [])≤67108864
 nd:Y (X p.1 [])≤1048576
 ns:Y (X p.2.1 [])≤1048576
def axv{p:dV}(h:lO p):LP p=J (aT (X p.1 []),aT (X p.2.1 []),p.2.2):=by
 have b:=h.nd;have c:=h.ns;unfold LP aX au;have g:bR (Fu p) (0,O,O,p.2.2)=J (aT (X p.1 []),O,p.2.2):=by rw[show((0,O,O,p.2.2):L×Q (M Dc)×Q (M eE)×L)=(((0:U):L),aT ((X p.1 []).take 0),O,p.2.2) by simp[aT]];refine eS (f:=Fu p) (Y (X p.1 [])) (λi=>((i:L),aT ((X p.1 []).take i),O,p.2.2)) (λi hi=>?_) ?_ (cM (cA (by omega)));have a:=di (i:=i) (by omega);have d:=(h.parts _ (eF hi)).1;unfold Fu bJ aM au al ay aH aA bv;simp only[cw];rw[dQ hi,aF (dA hi)];simp only[cW hi,a];unfold SF;rw[axt (by omega),aG,aG,aF (by simp;omega),iP hi,←Gz,cw];unfold Fu bJ aM au al ay aH aA bv;simp_all
 have j:bR (Fv p) (0,aT (X p.1 []),O,p.2.2)=J (aT (X p.1 []),aT (X p.2.1 []),p.2.2):=by rw[show((0,aT (X p.1 []),O,p.2.2):L×Q (M Dc)×Q (M eE)×L)=(((0:U):L),aT (X p.1 []),aT ((X p.2.1 []).take 0),p.2.2) by simp[aT]];refine eS (f:=Fv p) (Y (X p.2.1 [])) (λi=>((i:L),aT (X p.1 []),aT ((X p.2.1 []).take i),p.2.2)) (λi hi=>?_) ?_ (cM (cA (by omega)));have a:=di (i:=i) (by omega);have d:=h.tg _ (eF hi);have e:=eT (X (X p.2.1 [])[i].2.2.2.2.2.1 []);unfold Fv bJ aM au al ay aH aA bv;simp only[cw];rw[dQ hi,aF (dA hi)];simp only[cW hi,a];unfold SE;rw[axs (by omega),aG,aG,aF (by simp;omega),iP hi,←Gz,cw];unfold Fv bJ aM au al ay aH aA bv;simp_all
 simp_all
def axw(s:eE):∃b,Mg s=J b∧Lc s=J b:=by
 unfold Mg Lc ah al;dsimp-proj only[aj];have hn:(!(s.2.2.2.2.2.2.2.1 !=(0:L)))=(s.2.2.2.2.2.2.2.1==(0:L)):=by simp[bne]
 simp only[wG,B5,aG,hn];split;grind
 ·repeat' split
  all_goals exact⟨_,rfl,rfl⟩
def axx(a b:eE):Mi a b=ww b a:=by grind [Mi,ww]
def agU{d:Dc}(h1:Y (X d.2 [])≤1048576)(h2:Y (dO (X d.2 []))≤1073741824){src:Q (M aN)}(l:bm (X src [])≤536870912){s:eE}(m:bm (X s.2.2.2.2.2.1 [])≤67108864){v:Q (M Dc)×Q (M eE)×L×M KV}{k:U}(hk:s.2.1=(k:L))(hv:(X v.1 [])[k]?=J d):∃e,Mh s src v=J e∧BF d src s=J e∧(e=0→jB (X s.2.2.2.2.2.1 [])=0∧(s.2.2.2.2.1=3→yP src s.2.2.2.2.2.1=J W)):=by
 let⟨b,f1,f2⟩:=axw s;have c:k<Y (X v.1 []):=(iO.1 hv).1;have f:=eT (X src []);have g:=eT (X s.2.2.2.2.2.1 []);unfold Mh BF cJ aM ah al;rw[f1,f2,aG,aG];cases b with
 |false=>simp_all|true=>
  rw[af1 (by omega),VD (by omega)];simp only[kF,bL,ch,aG];by_cases i:jB (X s.2.2.2.2.2.1 [])=0;simp only[i];by_cases h3:s.2.2.2.2.1=3;have a:(s.2.2.2.2.1 !=(3:L))=I:=by simp[h3]
  let⟨b,c1,j⟩:=agK (s:=src) (t:=s.2.2.2.2.2.1) (by omega) (by omega);rw[a,c1,j];simp only[show((0:L) !=0)=I from rfl,Bool.or_self,bL,ch,aG];cases b with|false=>simp_all|true=>have hd:H (X v.1 []) (G s.2.1) ((0:L),O)=d:=(by grind);let⟨n,e,o,p,_⟩:=VL h1 h2 s.2.2.1 (rs:=J [s.2.2.2.1]) (ts:=J [s.2.2.2.2.2.1]) (by simp) (by simp) (λt h=>by grind);simp_all
  simp_all;simp_all
def axy{o:Q (M L)}(a:Y (X o [])≤1073741824)(n:L):Mv o n=J (decide (n∈X o [])):=by
 unfold Mv aX;have:=wO (F:=Mu o n) (Y (X o [])) (λi=>(i:L)) (λi=>H (X o []) i 0==n) W () (λi hi=>by
  have b:=di (i:=i) (by omega)
  unfold Mu bJ aM ah al ay aH aA
  simp_all) (by
  unfold Mu bJ aM ah al ay aH aA
  rw[gb]) (cM (cA (by omega)))
 rw[show(0:L)=((0:U):L)from rfl,this,aG];by_cases h:n∈X o [];let⟨i,hi,e⟩:=zU h;rw[aF,ke h];rfl;rw[List.any_eq_true];refine⟨i,by simpa using hi,?_⟩;grind;rw[aV,jC h];rfl;grind
def Ci(P:M df)(b:L):az:=decide (b∈(gZ P (Y P)).map fW)
theorem zB{P:M df}{b:L}:Ci P b=W↔ ∃k:U,b=(k:L)∧k∈gZ P (Y P):=by grind [Ci]
def axz{d:Dc}(h:Y (X d.2 [])≤1073741824)(part:L):Mw d part=J (Ci (X d.2 []) part):=by unfold Mw;have a:=G2 (X d.2 []) (Y (X d.2 []));rw[VC,Ca h,aG,axy (by rw[cw,kE];omega),aG,cw];rfl
def axA{l:M KV}(h:ui l){r:KV}(a:r∈l):du kT r.1 l=J r.2:=by
 induction l with
 |nil=>cases a
 |cons q l c=>
  have b:=Cq.1 h;rw[agM];rcases jQ.1 a with rfl|a
  rw[aF rfl];have:=b.1 r a;rw[aV (λe=>by rw[e]at this;unfold uh at this;omega)];exact c b.2 a
theorem agV{bY:M Dc}{n:U}{a:U}(c:a<n){d:Dc}(hd:H bY a (0,O)=d)(b:L):du kT ((a:L),b) (gn bY n)=if Ci (X d.2 []) b=W then J (jO d (G b))else O:=by split;rename_i h;obtain⟨k,rfl,hk⟩:=zB.1 h;refine axA (r:=(((a:L),(k:L)),jO d k)) (NI bY n) ?_;grind [gn,mV];grind [NH,gn,mV,zB]
def agW{bY:M Dc}{n:U}{a b:L}(h:a<0∨(n:L)≤a):du kT (a,b) (gn bY n)=O:=NH λq c e=>by grind [VW]
def agX(x:L):∀l:M L,qn (.int .i64) x l=decide (x∈l)
 |[]=>rfl|r::l=>by
  show(match(x==r)with|true=>W|false=>qn (.int .i64) x l)=_
  rw[agX x l];grind
def agY(x z:L):∀l:M L,z∈ov (.int .i64) x l↔z=x∨z∈l
 |[]=>by show z∈[x]↔_;simp|r::l=>by
  have e:ov (.int .i64) x (r::l)=if x=r then x::l else r::ov (.int .i64) x l:=by
   show(match(x==r)with|true=>x::l|false=>r::ov (.int .i64) x l)=_
   grind
  rw[e];split;grind;rw[jQ,agY x z l,jQ];grind
def pO(segs:M eE)(i:U):M L:=(segs.take i).foldl (λl s=>ov (.int .i64) s.1 l) []
def agZ{segs:M eE}{i:U}(h:i<Y segs):pO segs (i+1)=ov (.int .i64) segs[i].1 (pO segs i):=by unfold pO;rw[iP h,List.foldl_append];rfl
def ag0(segs:M eE)(z:L):∀i,i≤Y segs→(z∈pO segs i↔ ∃j,∃h:j<i,∃a:j<Y segs,(segs[j]).1=z)|0,_=>by simp[pO]|i+1,hi=>by rw[agZ (show i<Y segs by omega),agY,ag0 segs z i (by omega)];grind
def axB{p:dV}{i:U}(hi:i<Y (X p.2.1 []))(f:Y (X p.2.1 [])≤1048576):bR (za p (i:L)) 0=J (if qn (.int .i64) (X p.2.1 [])[i].1 (pO (X p.2.1 []) i)=W then .inl 5 else .inr ()):=by
 have g:X (gj (bu 0 (i:L)) p.2.1) []=(X p.2.1 []).take i:=by
  cases p.2.1 with|none=>simp|some x=>exact gX x 0 i
 have b:Y ((X p.2.1 []).take i)=i:=by simp;omega
 have:=wO (F:=za p (i:L)) i (λj=>(j:L)) (λj=>(H ((X p.2.1 []).take i) j sgZ).1==(X p.2.1 [])[i].1) 5 () (λj a=>by
  have k:=di (i:=j) (by omega)
  simp_all [za,aj,bJ,aM,ah,al,ay,aH,aA]) (by
  grind [za,ag]) (cM (cA (by omega)))
 rw[show(0:L)=((0:U):L)from rfl,this,agX];congr 1;have c:=ag0 (X p.2.1 []) (X p.2.1 [])[i].1 i (by omega);by_cases h:(X p.2.1 [])[i].1∈pO (X p.2.1 []) i;rw[ke h,aF,aF rfl];let⟨j,a,d,e⟩:=c.1 h;rw[List.any_eq_true];refine⟨j,by simpa using a,?_⟩;grind;grind
def NJ(bY:M Dc)(s:eE):Prop:=∃k d,s.2.1=((k:U):L)∧bY[k]?=J d∧Ci (X d.2 []) s.2.2.1=W∧0≤s.2.2.2.1.1∧s.2.2.2.1.1<s.2.2.2.1.2∧s.2.2.2.1.2≤cx (X (jO d (G s.2.2.1)) [])∧jB (X s.2.2.2.2.2.1 [])=0∧(s.2.2.2.2.1=3→yP (ib (X (jO d (G s.2.2.1)) []) s.2.2.2.1.1 s.2.2.2.1.2).1 s.2.2.2.2.2.1=J W)
def mW(d:Dc):Prop:=fJ d.1∧Y (X d.2 [])≤131075∧Y (dO (X d.2 []))≤65536
def ag1{fmt:L}(a:fJ fmt){raw:M ao}(b:Y raw≤67108864):bF (λr=>bm (X r.1 [])≤2*Y raw+2) (gW fmt raw):=by
 rcases a with rfl|rfl|rfl
 grind [Nn,bF.ret];grind [afN,bF.ret];grind [afh,bF.ret]
def ag2{d:Dc}(h:∀q∈X d.2 [],Y q.2.2≤67108864)(part:L):bF (λr=>bm (X r.1 [])≤134217730) (mf d part):=by
 unfold mf rX cJ aM au ah al;rw[aG];have c:bm (X (O:Q (M aN)) [])≤134217730:=by simp[bm]
 refine bF.ite (λ_=>bF.ret c) λe=>bF.ite (λ_=>bF.ite (λ_=>bF.ret c) λ_=>bF.ite (λf=>bF.call λr a=>bF.ret ?_) λ_=>bF.nil) λ_=>bF.nil;have e:fJ d.1:=by grind [uf]
 simp only[eY,dv]at f;have b:G part<Y (X d.2 []):=by omega
 rw[iH b]at a;have g:=h _ (eF b);have:=ag1 e g r a;grind
theorem mW.raw{d:Dc}(h:mW d):∀q∈X d.2 [],Y q.2.2≤67108864:=λq a=>by have:=Cb a;have:=h.2.2;omega
def ag3{d:Dc}(h:mW d)(k:U):bm (X (jO d k) [])≤134217730∧∃e,mf d (k:L)=J (jO d k,e)∧yZ d (k:L)=J (jO d k,e):=by
 let⟨f,e,a,b,g⟩:=G3 (d:=d) h.raw (k:L);have c:jO d k=f:=by unfold jO;rw[a]
 rw[c];exact⟨ag2 h.raw (k:L) _ a,e,a,b⟩
def ag4{p:dV}(hp:lO p)(C:∀d∈p.1.getD [],mW d)(D:1≤p.2.2∧p.2.2≤1073741824){i:U}(hi:i<(p.2.1.getD []).length):∃e,F3 (i:L) (pO (p.2.1.getD []) i) (aT (p.1.getD []),aT (p.2.1.getD []),p.2.2,gn (p.1.getD []) (p.1.getD []).length)=J e∧wx p (i:L)=J e∧(e=0→NJ (p.1.getD []) (p.2.1.getD [])[i]):=by
 have E:=hp.ns;have r:=hp.tg _ (eF hi);have l:=axB hi hp.ns;have t:=dA hi;have F:aby a7 (p.2.2-1)=p.2.2-1:=eh (by omega);have a:∀f:Q (M aN),wm (i:L) (aT (p.1.getD []),aT (p.2.1.getD []),p.2.2,gn (p.1.getD []) (p.1.getD []).length)=J ((du kT ((p.2.1.getD [])[i].2.1,(p.2.1.getD [])[i].2.2.1) (gn (p.1.getD []) (p.1.getD []).length)).getD O):=λf=>by unfold wm aM au al;dsimp-proj only[aj];simp_all
 have a:=a O;unfold F3 wx wn aX cJ aM cr aK ah al bd;dsimp-proj only[aj];simp only[cw,t,bI,cW hi,l,a,F];generalize hS:(p.2.1.getD [])[i]=s at *;generalize G:qn (.int .i64) s.1 (pO (p.2.1.getD []) i)=H;by_cases c:s.2.1<0;rw[agW (.inl c)];simp_all;rw[aV (show ¬decide (s.2.1<0)=W by simpa using c)];by_cases m:s.2.1≥((p.1.getD []).length:L);rw[agW (.inr m)];simp_all;rw[aV (show ¬decide (s.2.1≥ag (p.1.getD []))=W by simp;omega)];let⟨k,hk⟩:=nW (show 0≤s.2.1 by omega);have g:k<(p.1.getD []).length:=by omega
 have j:=C _ (eF g);have u:(p.1.getD []).getD s.2.1.toNat ((0:L),O)=(p.1.getD [])[k]:=by grind
 have w:decide ((0:L)≤s.2.1∧s.2.1<ag (p.1.getD []))=W:=by simp_all
 have o:=agV (n:=(p.1.getD []).length) g (d:=(p.1.getD [])[k]) (iH g) s.2.2.1;rw[←hk]at o;rw[o];simp only[u,w,bI];generalize K:(p.1.getD [])[k]=d at *;have N:=j.2.1;rw[axz (by omega),aG];cases A:Ci (d.2.getD []) s.2.2.1 with
 |false=>simp|true=>
  let⟨b,P,_⟩:=zB.1 A;let⟨R,e,c1,c2⟩:=ag3 j b;rw[P,fq,c1];simp only[bI,HI,kF,bL,ch,aG,fL];rw[GV (by omega),sq (by omega)];simp only[aG];by_cases h1:s.1<1;simp_all;simp only[jC h1,bL,ch];by_cases h2:s.1>p.2.2-1;simp only[ke h2,ke (show s.1≥p.2.2 by omega),bI];grind;simp only[jC h2,jC (show ¬s.1≥p.2.2 by omega),bL,ch];by_cases h3:s.2.2.2.1.1<0;simp_all;simp only[jC h3,bL,ch];by_cases S:s.2.2.2.1.2≤s.2.2.2.1.1;simp_all;simp only[jC S,bL,ch];by_cases T:s.2.2.2.1.2>(cx ((jO d b).getD []):L);simp_all;simp only[jC T,bL,ch];rw[aF (show decide ((0:L)≤0∧(0:L)≤(i:L)∧(i:L)≤ag (p.2.1.getD []))=W by simp;omega)];cases H with
  |true=>simp_all|false=>
   simp only[bL,ch,aG,pz];rw[Nk (by omega),oW (by omega)];simp only[aG];have V:=nM ((jO d b).getD []) s.2.2.2.1.1 s.2.2.2.1.2;have X:=j.2.2;let⟨Y,d1,d2,d3⟩:=agU (d:=d) (by omega) (by omega) (src:=(ib ((jO d b).getD []) s.2.2.2.1.1 s.2.2.2.1.2).1) (by omega) (s:=s) r (v:=(aT (p.1.getD []),aT (p.2.1.getD []),p.2.2,gn (p.1.getD []) (p.1.getD []).length)) hk (by simp_all);have B:Y=0→NJ (p.1.getD []) s:=λZ=>⟨k,d,hk,by grind,A,by omega,by omega,by grind,(d3 Z).1,λh=>by grind⟩;rw[d1,d2];by_cases x:(i:L)>0;have y:aby a7 ((i:L)-1)=((i-1:U):L):=(by grind [cf]);simp only[ke x,bI,y];have q:i-1<(p.2.1.getD []).length:=(by omega);rw[aF (dA q),aF (dA q),axx];have z:∃bb,ww s ((p.2.1.getD []).getD (((i-1:U):L)).toNat (0,0,0,(0,0),0,O,[],0,I))=J bb:=(by grind [ww]);let⟨bb,z⟩:=z;rw[z];cases bb with|false=>simp_all|true=>simp_all
   simp_all
def vD(d:Dc):L:=X (tJ d) 0
def VX{d:Dc}(h1:Y (X d.2 [])≤1048576)(h2:Y (dO (X d.2 []))≤1073741824):tJ d=J (vD d)∧yY d=J (vD d)∧(vD d=0→mW d):=by
 let⟨e,v1,a,b⟩:=afY (d:=d) (by omega) h2;have:vD d=e:=by unfold vD;rw[v1];rfl
 rw[this];exact⟨v1,a,b⟩
def oE(p:dV)(i:U):L:=X (wx p (i:L)) 0
def jZ(e:L):Q L:=if e=0 then O else J e
def gx(p:dV):L:=if(Y (X p.1 []))>16∨Y (X p.2.1 [])>512 then 3 else
 match gv (λi=>jZ (vD (H (X p.1 []) i (0,O)))) 0 (Y (X p.1 [])) with
 |some e=>e|none=>if p.2.2<1∨p.2.2>1073741824 then 1 else
  match gv (λi=>jZ (oE p i)) 0 (Y (X p.2.1 [])) with|some e=>e|none=>0
theorem NL{e r:L}(h:jZ e=J r):r=e∧r≠0:=by grind [jZ]
theorem NM{e:L}(h:jZ e=O):e=0:=by simp_all [jZ]
structure NN(p:dV):Prop where
 nd:Y (X p.1 [])≤16
 ns:Y (X p.2.1 [])≤512
 bY:∀d∈X p.1 [],mW d
 nx:1≤p.2.2∧p.2.2≤1073741824
 sg:∀s∈X p.2.1 [],NJ (X p.1 []) s
set_option maxHeartbeats 1000000 in
theorem ka{p:dV}(hp:lO p):zb p=J (gx p)∧Ml p=J (if gx p=0 then(0,W,aT (X p.1 []),aT (X p.2.1 []),p.2.2,gn (X p.1 []) (Y (X p.1 [])))else(gx p,I,O,O,0,[]))∧(gx p=0→NN p):=by
 have w:=hp.nd;have x:=hp.ns;unfold zb Ml aX ah al;by_cases b:Y (X p.1 [])>16∨Y (X p.2.1 [])>512;grind [gx,ag];have y:(decide (ag (X p.1 [])>16)||decide (ag (X p.2.1 [])>512))=I:=by simp;omega
 rw[y];simp only[bL,ch];have o:∀i,i<Y (X p.1 [])→tJ (H (X p.1 []) i (0,O))=J (vD (H (X p.1 []) i (0,O)))∧yY (H (X p.1 []) i (0,O))=J (vD (H (X p.1 []) i (0,O)))∧(vD (H (X p.1 []) i (0,O))=0→mW (H (X p.1 []) i (0,O))):=λi hi=>by rw[iH hi];have:=hp.parts _ (eF hi);exact VX this.1 this.2
 have q:=zu (F:=Mx p) (Y (X p.1 [])) (λi=>(i:L)) (λi=>jZ (vD (H (X p.1 []) i (0,O)))) () (λi hi _=>by
  have a:=di (i:=i) (by omega)
  unfold Mx bJ aM ah al ay aH aA
  rw[dQ hi,aF (dA hi),a,fq,(o i hi).1,aG]
  grind [jZ]) (λ_=>by
  unfold Mx bJ aM ah al ay aH aA
  rw[gb]) (cM (cA (by omega)))
 have g:=zu (F:=Mj p) (Y (X p.1 [])) (λi=>(i:L)) (λi=>(jZ (vD (H (X p.1 []) i (0,O)))).map λr=>((),r)) () (λi hi _=>by
  have a:=di (i:=i) (by omega)
  unfold Mj bJ aM ah al ay aH aA
  rw[dQ hi,aF (dA hi),a,fq,(o i hi).2.1,aG]
  grind [jZ]) (λ_=>by
  unfold Mj bJ aM ah al ay aH aA
  rw[gb]) (cM (cA (by omega)))
 rw[Ha]at g;rw[show((0:U):L)=0 from rfl]at q g;rw[q,g];simp only[aG];unfold gx;rw[aV b];cases t:gv (λi=>jZ (vD (H (X p.1 []) i (0,O)))) 0 (Y (X p.1 [])) with
 |some e=>let⟨j,_,_,h⟩:=wD t;have z:=(NL h).2;simp_all
 |none=>
  have k:∀d∈X p.1 [],mW d:=λd hd=>by grind [zU,NM,Hb]
  simp only[Option.map_none,pz];by_cases l:p.2.2<1∨p.2.2>1073741824;grind;have m:(decide (p.2.2<1)||decide (p.2.2>1073741824))=I:=by simp;omega
  rw[aV l];simp only[m,bL,ch];have C:=λi(hi:i<Y (X p.2.1 []))=>ag4 hp k (by omega) hi;have u:∀i(hi:i<Y (X p.2.1 [])),F3 (i:L) (pO (X p.2.1 []) i) (aT (X p.1 []),aT (X p.2.1 []),p.2.2,gn (X p.1 []) (Y (X p.1 [])))=J (oE p i)∧wx p (i:L)=J (oE p i)∧(oE p i=0→NJ (X p.1 []) (X p.2.1 [])[i]):=λi hi=>by grind [oE]
  have c:=zu (F:=My p) (Y (X p.2.1 [])) (λi=>(i:L)) (λi=>jZ (oE p i)) () (λi hi _=>by
   have a:=di (i:=i) (by omega)
   unfold My aK ah al ay aH aA
   rw[dQ hi,(u i hi).2.1,aG,a]
   grind [jZ]) (λ_=>by
   unfold My aK ah al ay aH aA
   rw[gb]) (cM (cA (by omega)))
  rw[show((0:U):L)=0 from rfl]at c;have A:bR (F7 p) (0,aT (X p.1 []),aT (X p.2.1 []),p.2.2,[])=J (aT (X p.1 []),aT (X p.2.1 []),p.2.2,gn (X p.1 []) (Y (X p.1 []))):=by rw[show((0,aT (X p.1 []),aT (X p.2.1 []),p.2.2,[]):L×Q (M Dc)×Q (M eE)×L×M KV)=(((0:U):L),aT (X p.1 []),aT (X p.2.1 []),p.2.2,gn (X p.1 []) 0)from rfl];refine eS (f:=F7 p) (Y (X p.1 [])) (λi=>((i:L),aT (X p.1 []),aT (X p.2.1 []),p.2.2,gn (X p.1 []) i)) (λi hi=>?_) ?_ (cM (cA (by omega)));have a:=di (i:=i) (by omega);have hd:=k _ (eF hi);have B:=hd.2.1;unfold F7 bJ aM al ay aH aA;simp only[];rw[dQ hi,aF (dA hi),fq,axp (by rw[iH hi];omega) (by rw[iH hi];exact hd.raw),aG];rw[axr (X p.1 []) i (aT (X p.1 []),aT (X p.2.1 []),p.2.2),aG,a];unfold F7 bJ aM al ay aH aA;simp_all
  have v:=zu (F:=Mk (aT (X p.1 []),aT (X p.2.1 []),p.2.2,gn (X p.1 []) (Y (X p.1 [])))) (Y (X p.2.1 [])) (λi=>(pO (X p.2.1 []) i,(i:L))) (λi=>(jZ (oE p i)).map λr=>((),r)) () (λi hi _=>by
   have a:=di (i:=i) (by omega)
   unfold Mk bJ aM ah al ay aH aA
   simp only[cw]
   rw[dQ hi,aF (dA hi),(u i hi).1,aG,a,cW hi,agZ hi]
   grind [jZ]) (λ_=>by
   unfold Mk bJ aM ah al ay aH aA
   simp_all) (cM (cA (by omega)))
  rw[Ha,show((pO (X p.2.1 []) 0,((0:U):L)):M L×L)=([],0)from rfl]at v;rw[c,axv hp];simp only[aG];rw[A,aG,v,aG];cases n:gv (λi=>jZ (oE p i)) 0 (Y (X p.2.1 [])) with
  |some e=>let⟨j,_,_,h⟩:=wD n;have z:=(NL h).2;simp_all
  |none=>refine⟨rfl,rfl,λ_=>⟨by omega,by omega,k,by omega,λs t=>?_⟩⟩;grind [zU,NM,Hb]
def kB{n:L}(b:0<n)(h1:n≤1099511627776)(o:Q (M L)){N:U}(f:N≤1152921504606846976):∃k:U,(k:L)<n∧iX n (o,(N:L))=J ((k:L),((N+1:U):L)):=by unfold iX SQ aM cr au aK al ay bd;have c:=di (i:=N) (by omega);simp only[];rw[aF (by simp<;>omega),aF (by simp<;>omega)];generalize (if decide ((N:L)<ag (X o []))=W then(H (X o [])) (G ((N:L))) 0 else 0)=x;have d:x.tmod n<n:=Int.tmod_lt_of_pos x b;have e: -n<x.tmod n:=Int.lt_tmod_of_pos x b;simp only[aG,c];by_cases a:x.tmod n<0;rw[aF (by simpa using a),eh (by omega)];exact⟨G (x.tmod n+n),by omega,by grind⟩;rw[aV (by simpa using a)];exact⟨G (x.tmod n),by omega,by grind⟩
def VY(nd:U)(s:eE):Prop:=(∃k:U,s.2.1=(k:L)∧k<nd)∧bm (X s.2.2.2.2.2.1 [])≤34304
structure gi(p:dV):Prop where
 nd:Y (X p.1 [])≤16
 bY:∀d∈X p.1 [],mW d∧vD d=0
 ns:Y (X p.2.1 [])≤512
 sg:∀s∈X p.2.1 [],VY (Y (X p.1 [])) s
theorem gi.b{p:dV}(h:gi p):lO p:=⟨λd hd=>by have:=(h.bY d hd).1.2;grind,λs a=>by have:=(h.sg s a).2;omega,by have:=h.nd;omega,by have:=h.ns;omega⟩
abbrev Cj:=M Dc×Q (M eE)×L
def BI(D:M Dc)(B:U)(b:Cj):Prop:=b.1=D∧Y (X b.2.1 [])≤B∧∀s∈X b.2.1 [],VY (Y D) s
def axC{D:M Dc}{i j:U}(hi:i<Y D){x:Cj}{r1:Q (M L)}{s2:L×Cj}{a:Q (M (L×L))}(g:Y (X a [])≤1025){B:U}(l:B≤4294967296){y:Cj}(hy:BI D B y):∃r,bR (La ((i:L),x) r1 s2 a) (0,y)=J r∧BI D (B+1025) r:=by
 refine gs (f:=La ((i:L),x) r1 s2 a) (λz=>∃k:U,z.1=(k:L)∧k≤Y (X a [])∧BI D (B+k) z.2) (λz=>Y (X a [])-G z.1) (BI D (B+1025)) (λz h=>?_) (0,y) ⟨0,rfl,fV _,hy⟩ (cM (cA (by simp;omega)));let⟨c,z⟩:=z;obtain⟨k,rfl,hk,h1,h2,h3⟩:=h;simp only[]at h1 h2 h3;unfold La aM au aK al ay aH aA bv;simp only[];by_cases b:k<Y (X a []);have e:=di (i:=k) (by omega);rw[dQ b,aF (by rw[dA b];simp;omega),e];refine⟨⟨k+1,rfl,b,h1,by simp;omega,λs d=>?_⟩,by simp;omega⟩;rw[fL]at d;rcases nP.1 d with d|d
 exact h3 s d;rw[m7]at d;subst d;exact⟨⟨i,rfl,hi⟩,by simp[bm]⟩;obtain rfl:k=Y (X a []):=by omega
 rw[gb];exact⟨h1,by omega,h3⟩
def axD{bY:Q (M Dc)}{a:Q (M Ce)}(n:Cf a)(o:∀d∈X bY [],mW d){i:U}(hi:i<Y (X bY [])){x:Cj}{r1:Q (M L)}(p:Y (X r1 [])≤131075){B:U}(v:B≤3221225472){y:Cj}(hy:BI (X bY []) B y):∃r,bR (Lb bY a ((i:L),x) r1) (0,y)=J r∧BI (X bY []) (B+134351875) r:=by
 refine gs (f:=Lb bY a ((i:L),x) r1) (λz=>∃k:U,z.1=(k:L)∧k≤Y (X r1 [])∧BI (X bY []) (B+1025*k) z.2) (λz=>Y (X r1 [])-G z.1) (BI (X bY []) (B+134351875)) (λz h=>?_) (0,y) ⟨0,rfl,fV _,hy⟩ (cM (cA (by simp;omega)));let⟨c,z⟩:=z;obtain⟨k,rfl,hk,g⟩:=h;unfold Lb bJ aX aM al ay aH aA;simp only[];by_cases b:k<Y (X r1 []);have q:=di (i:=k) (by omega);have hd:=o _ (eF hi);rw[dQ b,aF (dA b),cW hi,q];let⟨f,e,m,_,_⟩:=G3 (d:=(X bY [])[i]) hd.raw (H (X r1 []) (G ((k:L))) 0);have l:=ag2 hd.raw _ _ m;simp only[]at l;let⟨rg,s,t⟩:=aw6 n (f:=f) (by omega);let⟨r,u,w⟩:=axC (D:=X bY []) (i:=i) (j:=k) hi (x:=x) (r1:=r1) (s2:=((k:L),z)) t (B:=B+1025*k) (by omega) g;rw[m,aG,s,aG,u,aG];refine⟨⟨k+1,rfl,b,?_⟩,by simp;omega⟩;grind;obtain rfl:k=Y (X r1 []):=by omega
 rw[gb];exact⟨g.1,by have:=g.2.1;grind,g.2.2⟩
def axE{bY:Q (M Dc)}{a:Q (M Ce)}(v:Cf a)(q:∀d∈X bY [],Y (X d.2 [])≤1048576∧Y (dO (X d.2 []))≤1073741824):∃p e,Bu bY a=J (p,e)∧(e=0→gi p):=by
 unfold Bu aX au aK al;by_cases hn:Y (X bY [])>16;rw[aF (by simp;omega)];grind;rw[aV (by simp;omega)];have t:=zu (F:=K9 bY) (Y (X bY [])) (λi=>(i:L)) (λi=>(jZ (vD ((X bY []).getD i (0,O)))).map λe=>(e,((O,O,0):dV))) () (λi hi _=>by
  have n:=di (i:=i) (by omega)
  have o:=q _ (eF hi)
  have hv:=(VX (d:=(X bY []).getD i (0,O)) (by grind) (by grind)).1
  unfold K9 bJ aM ah al ay aH aA
  rw[dQ hi,aF (dA hi),n,fq,hv,aG]
  grind [jZ]) (λ_=>by
  unfold K9 bJ aM ah al ay aH aA
  rw[gb]) (cM (cA (by omega)))
 rw[Ha,show((0:U):L)=0 from rfl]at t;rw[t,aG];cases l:gv (λi=>jZ (vD ((X bY []).getD i (0,O)))) 0 (Y (X bY [])) with
 |some e=>let⟨j,_,_,w⟩:=wD l;exact⟨(O,O,0),e,rfl,λh=>cO h (NL w).2⟩
 |none=>
  have g:∀d∈X bY [],mW d∧vD d=0:=λd hd=>by obtain⟨i,hi,rfl⟩:=zU hd;have y:=NM (Hb l i hi);rw[iH hi]at y;have o:=q _ (eF hi);simp_all [VX]
  simp only[Option.map_none,pz];rw[aF (by simp;omega)];let⟨r,h1,h2⟩:=gs (f:=Sl bY a) (λz=>∃k:U,z.1=(k:L)∧k≤Y (X bY [])∧BI (X bY []) (134351875*k) z.2) (λz=>Y (X bY [])-z.1.toNat) (BI (X bY []) 2149630000) (λz h=>by let⟨c,z⟩:=z;obtain⟨k,rfl,hk,m⟩:=h;unfold Sl bJ aX aM al ay aH aA;simp only[];by_cases b:k<Y (X bY []);have n:=di (i:=k) (by omega);have hd:=(g _ (eF b)).1;have A:=G2 (X ((X bY [])[k]).2 []) (Y (X ((X bY [])[k]).2 []));have C:=hd.2.1;rw[dQ b,aF (dA b),cW b,n,VC,Ca (by omega),aG];let⟨r,D,E⟩:=axD v (λd hd=>(g d hd).1) b (x:=z) (r1:=aT ((gZ (X ((X bY [])[k]).2 []) (Y (X ((X bY [])[k]).2 []))).map fW)) (by rw[cw,kE];omega) (B:=134351875*k) (by omega) m;rw[D,aG];refine⟨⟨k+1,rfl,b,?_⟩,by simp;omega⟩;grind;obtain rfl:k=Y (X bY []):=(by omega);rw[gb];exact⟨m.1,by have:=m.2.1;grind,m.2.2⟩) (0,[]++X bY [],O,1) ⟨0,rfl,fV _,by simp,by simp,λs l=>by simp at l⟩ (cM (cA (by simp;omega)));rw[h1,aG];let⟨h3,G,H⟩:=h2;by_cases u:Y (X r.2.1 [])>512;rw[aF (by simp;omega)];grind;rw[aV (by simp;omega)];refine⟨(J r.1,r.2),0,by simp,λ_=>⟨?_,?_,?_,?_⟩⟩;grind;grind;simp only[];omega;grind
def axF(tags:az)(o:Q (M L)){N:U}(a:N≤1152921504606846976):∃f,MD tags (o,(N:L))=J (f,((N+1:U):L))∧bm (X f [])≤100:=by
 unfold MD si au ah bd;dsimp-proj only[aj];simp only[aG];have key:∀n:L,n=6∨n=8→∃k:U,k<8∧iX n (o,(N:L))=J ((k:L),((N+1:U):L)):=λn hn=>by let⟨k,h1,h2⟩:=kB (n:=n) (by omega) (by omega) o a;grind
 have hn:∀(l:M (Q (M aN))),Y l=8→((if(!tags)=W then aby a7 (ag l-2)else ag l)=6∨(if(!tags)=W then aby a7 (ag l-2)else ag l)=8):=λl b=>by rw[dv,b];cases tags;exact .inl rfl;exact .inr rfl
 let⟨k,h1,h2⟩:=key _ (hn [J [(1,[83,97,118,101,46],0)],J [(1,[114,101,100,32,99,97,114,32,50,50,33],0)],J [(1,[79,112,101,110,32],0),(5,[110],0),(1,[32,110,111,119,46],0)],J [(1,[97,32,82,101,100,32,99,97,114,46],0)],J [(1,[83,97,118,101,46],0)],J [(1,[120],0)],J [(2,[98],1),(1,[83,97,118,101,46],0),(3,[98],1)],J [(1,[79,112,101,110,32],0),(2,[98],1),(1,[99,97,114,115],0),(3,[98],1),(1,[46],0),(4,[98,114],2)]] rfl);rw[h2,aG];have hk:k=0∨k=1∨k=2∨k=3∨k=4∨k=5∨k=6∨k=7:=by omega
 rcases hk with rfl|rfl|rfl|rfl|rfl|rfl|rfl|rfl<;>exact⟨_,rfl,of_decide_eq_true rfl⟩
def axG{fmt:L}{f:M aN}(h:bm f≤100):Y (iN fmt f).1≤500:=by grind [iN,G6]
def VZ{k:U}(h:k<3):aby a7 (1+(k:L))=((k+1:U):L)∧fJ ((k+1:U):L):=by refine⟨by grind [cf],?_⟩;unfold fJ;omega
def axH{s:Q (M L)×L}{k0:U}(d:k0<3){z:L}{i N:U}(hi:i<3)(q:N≤1125899906842624):∃(r:M ao)(b:U),bR (ME s ((k0:L),z)) ([],(i:L),(N:L))=J (r,(b:L))∧Y r≤1503∧b≤N+3:=by
 let⟨r,h1,b,h2,h3,t⟩:=gs (f:=ME s ((k0:L),z)) (λy=>∃k a:U,y.2.1=(k:L)-1∧k≤3∧Y y.1≤501*(3-k)∧y.2.2=(a:L)∧a≤N+(3-k)) (λy=>G (y.2.1+1)) (λr=>∃b:U,r.2=(b:L)∧Y r.1≤1503∧b≤N+3) (λy h=>by
  let⟨acc,c,m⟩:=y
  obtain⟨k,a,rfl,hk,e,rfl,u⟩:=h
  simp only[]at e
  let⟨g,j⟩:=VZ d
  unfold ME au aK ah bd aH aA c9 bv
  simp only[]
  by_cases l:0<k
  have hd:aby a7 ((k:L)-1-1)=((k-1:U):L)-1:=by grind [cf]
  let⟨f,n,o⟩:=axF (((k0+1:U):L)==1) s.1 (N:=a) (by omega)
  have v:=axG (fmt:=((k0+1:U):L)) o
  rw[aF (by simp;omega),g,hd,n,aG]
  simp only[]
  rw[VH j (by omega),aG]
  have p:((!!decide (acc=[])||decide (Y acc+1≤1152921504606846976))&&decide (Y (if(!decide (acc=[]))=W then acc++[32]else acc)+Y (iN ((k0+1:U):L) (X f [])).1≤1152921504606846976))=W:=by grind [Decidable.decide]
  rw[aF p]
  refine⟨⟨k-1,a+1,rfl,by omega,?_,rfl,by omega⟩,by simp;omega⟩
  grind
  grind) ([],(i:L),(N:L)) ⟨i+1,N,by simp,by omega,by simp,rfl,by omega⟩ (cM (cA (by simp;omega)))
 grind
def axI{k:U}(h:k≤3):Y (zS k)≤2:=by grind [zS]
def axJ{s:Q (M L)×L}{k0:U}(e:k0<3){z:L}{i N:U}(hi:i≤3)(w:N≤1125899906842000){a:M ao}(j:Y a≤10):∃(r:M ao)(d:U),bR (MF s ((k0:L),z)) (a,(i:L),(N:L))=J (r,(d:L))∧Y r≤6000∧d≤N+12:=by
 let⟨r,h1,d,h2,h3,A⟩:=gs (f:=MF s ((k0:L),z)) (λy=>∃k b:U,y.2.1=(k:L)∧k≤3∧Y y.1≤10+1600*(3-k)∧y.2.2=(b:L)∧b≤N+4*(3-k)) (λy=>y.2.1.toNat) (λr=>∃d:U,r.2=(d:L)∧Y r.1≤6000∧d≤N+12) (λy h=>by
  let⟨acc,c,m⟩:=y
  obtain⟨k,b,rfl,hk,j,rfl,B⟩:=h
  simp only[]at j
  let⟨o,C⟩:=VZ e
  unfold MF aX au aK ah bd aH aA c9 bv jh n3Z;dsimp-proj only[aj]
  simp only[]
  by_cases p:0<k
  have hd:aby a7 ((k:L)-1)=((k-1:U):L):=by grind [cf]
  let⟨q,D,t⟩:=kB (n:=3) (by omega) (by omega) s.1 (N:=b) (by omega)
  let⟨r,d,u,E,F⟩:=axH (s:=s) e (z:=z) (i:=q) (N:=b+1) (by omega) (by omega)
  have v:=axI hk
  rw[aF (by simp;omega),t,aG,u,aG,o,hd]
  simp only[]
  have g:k0=0∨k0=1∨k0=2:=by omega
  have fin:∀x:M ao,Y x≤1520→((∃k' l:U,((k-1:U):L)=(k':L)∧k'≤3∧Y (acc++x)≤10+1600*(3-k')∧((d:U):L)=(l:L)∧l≤N+4*(3-k'))∧((k-1:U):L).toNat<((k:L)).toNat):=λx G=>by refine⟨⟨k-1,d,rfl,by omega,?_,rfl,by omega⟩,by simp;omega⟩;grind
  rcases g with rfl|rfl|rfl
  rw[aF (show(((0+1:U):L)==1)=W from rfl),aF (by simp;omega)]
  exact fin _ (by simp;omega)
  rw[aV (show ¬(((1+1:U):L)==1)=W by decide),aF (show(((1+1:U):L)==2)=W from rfl),Vi k (by omega),aG,aF (by simp;omega)]
  exact fin _ (by simp;omega)
  grind
  grind) (a,(i:L),(N:L)) ⟨i,N,rfl,hi,by simp only[];omega,rfl,by omega⟩ (cM (cA (by simp;omega)))
 grind
def zC(d:Dc):Prop:=Y (X d.2 [])≤1048576∧Y (dO (X d.2 []))≤1073741824
def ag5(fmt:L)(data:M ao):∃d at' e,qB fmt data=J (d,at',e)∧zC d:=by
 let⟨d,at',e,h1,_,h3⟩:=afX fmt data;refine⟨d,at',e,h1,?_⟩;by_cases a:e=0;let⟨_,_,b,c,f⟩:=h3 a;exact⟨by omega,by rw[b];omega⟩;have:bF (λr:Dc×L×L=>r.2.2≠0→zC r.1) (qB fmt data):=by have g:zC (0,O):=⟨by simp,by simp[dO]⟩;grind [qB,bF.call,bF.ret]
 exact this _ h1 a
def axK(o:Q (M L)){N:U}(u:N≤1125899906841000):∃(d:Dc)(a:U),MG 3 (o,(N:L))=J (d,(a:L))∧zC d∧a≤N+14:=by
 unfold MG;let⟨k,h1,h2⟩:=kB (n:=3) (by omega) (by omega) o (N:=N) (by omega);let⟨g,v⟩:=VZ (k:=k) (by omega);have b:aby a7 (((k+1:U):L)-1)=(k:L):=by grind [cf]
 rw[h2,aG,g,b,aF (by grind [bT,iJ])];let⟨i,h3,h⟩:=kB (n:=aby a7 (3+1)) (by decide) (by decide) o (N:=N+1) (by omega);have h3:(i:L)<4:=h3;rw[h,aG];have c:k=0∨k=1∨k=2:=by omega
 have j:Y (H ([[60,104,116,109,108,62],[35,32,99,10],[116,101,120,116]]:M (M ao)) (0+G ((k:L))) [])≤10:=by rcases c with rfl|rfl|rfl<;>decide
 let⟨r,a,l,_,w⟩:=axJ (s:=(o,(N:L))) (k0:=k) (by omega) (z:=((N+1:U):L)) (i:=i) (N:=N+1+1) (by omega) (by omega) j;rw[l,aG];let⟨d,at',e,m,x⟩:=ag5 ((k+1:U):L) r;rw[m,aG];by_cases f:(e !=0)=W;rw[aF f];let⟨y,p,A,q,t⟩:=ag5 1 [60,112,62,83,97,118,101,46,32,83,97,118,101,46,60,47,112,62,60,112,62,114,101,100,32,99,97,114,32,50,50,33,60,47,112,62];rw[q,aG];grind;rw[aV f];grind
def axL(o:Q (M L)){N:U}(s:N≤1000):∃(l:Q (M Dc))(b:U),MH (o,(N:L))=J (l,(b:L))∧(∀d∈X l [],zC d)∧b≤N+100:=by
 unfold MH aX au;let⟨k,h1,h2⟩:=kB (n:=3) (by omega) (by omega) o (N:=N) (by omega);rw[h2,aG];let⟨r,t,b,u,v,w⟩:=gs (f:=SW (o,(N:L))) (λy=>∃i a:U,y.2.1=(i:L)-1∧i≤3∧y.2.2=(a:L)∧a≤N+1+14*(3-i)∧Y (X y.1 [])≤3-i∧∀d∈X y.1 [],zC d) (λy=>G (y.2.1+1)) (λr=>∃b:U,r.2=(b:L)∧(∀d∈X r.1 [],zC d)∧b≤N+100) (λy h=>by
  let⟨acc,c,m⟩:=y
  obtain⟨i,a,rfl,hi,rfl,x,e,hd⟩:=h
  simp only[]at e hd
  unfold SW au aK al bd aH aA bv
  simp only[]
  by_cases g:0<i
  have j:aby a7 ((i:L)-1-1)=((i-1:U):L)-1:=by grind [cf]
  let⟨d,b,p,z,A⟩:=axK o (N:=a) (by omega)
  rw[aF (by simp;omega),p,aG,j,aF (by simp;omega)]
  refine⟨⟨i-1,b,rfl,by omega,rfl,by omega,by simp;omega,λB q=>?_⟩,by simp;omega⟩
  grind
  grind) (O,(k:L),((N+1:U):L)) ⟨k+1,N+1,by simp,by omega,rfl,by omega,by simp,λd hd=>by simp at hd⟩ (cM (cA (by simp;omega)))
 grind [aG]
def ag6{α:Type}(o:Q (M α))(k:U):X (gj (bu 0 (k:L)) o) []=(X o []).take k:=by
 cases o with|none=>simp|some x=>exact gX x 0 k
def ag7{α:Type}(o:Q (M α))(k:U):X (gj (bu (k:L) (ag (X o []))) o) []=(X o []).drop k:=by
 cases o with|none=>simp|some x=>exact iY x k
def ag8{α:Type}(l:M α):X (eo l) []=l:=by cases l<;>rfl
def axM{B:U}(g:B≤67108864){d:Dc}(h:∀q∈X d.2 [],Y q.2.2≤B)(part:L):bF (λr=>bm (X r.1 [])≤2*B+2) (mf d part):=by
 unfold mf rX cJ aM au ah al;rw[aG];have c:bm (X (O:Q (M aN)) [])≤2*B+2:=by simp[bm]
 refine bF.ite (λ_=>bF.ret c) λe=>bF.ite (λ_=>bF.ite (λ_=>bF.ret c) λ_=>bF.ite (λf=>bF.call λr a=>bF.ret ?_) λ_=>bF.nil) λ_=>bF.nil;have e:fJ d.1:=by grind [uf]
 simp only[eY,dv]at f;have b:G part<Y (X d.2 []):=by omega
 rw[iH b]at a;have i:=h _ (eF b);have:=ag1 e (by omega) r a;grind
def ag9{d:Dc}(h:mW d)(part:L):∃f e,mf d part=J (f,e)∧bm (X f [])≤131074:=by let⟨f,e,a,_,_⟩:=G3 (d:=d) h.raw part;refine⟨f,e,a,?_⟩;exact axM (B:=65536) (by decide) (λq b=>by have:=Cb b;have:=h.2.2;omega) part _ a
def aha{p:dV}(h:gi p){i:U}(hi:i<Y (X p.2.1 [])):∃f,v7 p (i:L)=J f∧bm (X f [])≤131074:=by
 let⟨⟨k,hk,a⟩,_⟩:=h.sg _ (eF hi);unfold v7 cJ aM al;dsimp-proj only[aj];rw[aF (dA hi)];simp only[cW hi];generalize (X p.2.1 [])[i]=s at *;have b:H (X p.1 []) (G s.2.1) ((0:L),O)=(X p.1 [])[k]:=by grind
 have hd:=(h.bY _ (eF a)).1;let⟨f,e,c,d⟩:=ag9 hd s.2.2.1;grind [dA,aG,oW,nM]
def V0{p:dV}(hn:Y (X p.2.1 [])≤1048576)(id:L):yO p id=J (-1)∨∃k:U,k<Y (X p.2.1 [])∧yO p id=J (k:L):=by
 unfold yO aX;let⟨r,h1,h2⟩:=gs (f:=Sm p id) (λy=>∃k:U,y=(k:L)∧k≤Y (X p.2.1 [])) (λy=>Y (X p.2.1 [])-G y) (λr=>match r with|.inl z=>∃k:U,k<Y (X p.2.1 [])∧z=(k:L)|.inr _=>dK) (λy h=>by
  obtain⟨k,rfl,hk⟩:=h
  unfold Sm bJ aM ah al ay aH aA
  by_cases a:k<Y (X p.2.1 [])
  grind [cf]
  obtain rfl:k=Y (X p.2.1 []):=by omega
  rw[gb]
  trivial) 0 ⟨0,rfl,fV _⟩ (cM (cA (by simp;omega)))
 rw[h1,aG];cases r with|inl z=>simp_all|inr z=>exact .inl rfl
def axN{p:dV}(h:gi p){k:U}(hk:k<(p.1.getD []).length){src:Q (M aN)}(b:bm (src.getD [])≤536870912){s:eE}(c:bm (s.2.2.2.2.2.1.getD [])≤67108864)(a:s.2.1=(k:L)):∃e,BF ((p.1.getD [])[k]) src s=J e∧(e=0→jB (s.2.2.2.2.2.1.getD [])=0):=by have hd:=(h.bY _ (eF hk)).1;let⟨e,_,h2,h3⟩:=agU (d:=(p.1.getD [])[k]) (by have:=hd.2.1;omega) (by have:=hd.2.2;omega) b c (v:=(p.1,O,0,[])) a (List.getElem?_eq_getElem hk);grind
theorem axO{p:dV}(h:gi p){s:eE}(j:bm (s.2.2.2.2.2.1.getD [])≤67108864):∃d e,wb p s=J (d,e)∧(e=0→gi d):=by
 have l:=h.ns;have m:=h.nd;have n:=eT (s.2.2.2.2.2.1.getD []);unfold wb cJ aM au aK ah al;dsimp-proj only[aj];rcases V0 (p:=p) (by omega) s.1 with b|⟨i,hi,b⟩
 rw[b,aG,aF (by decide)];grind;let⟨⟨k,hk,a⟩,o⟩:=h.sg _ (eF hi);let⟨f,q,r⟩:=aha h hi;rw[b,aG,aV (by simp),aF (dA hi),aF (by simp;omega)];simp only[cW hi,q];generalize u:(p.2.1.getD [])[i]=x at *;have c:(p.1.getD []).getD x.2.1.toNat ((0:L),O)=(p.1.getD [])[k]:=by grind
 let⟨e,t,hv⟩:=axN h a (src:=f) (by omega) (s:=(x.1,x.2.1,x.2.2.1,x.2.2.2.1,s.2.2.2.2.1,J ([]++s.2.2.2.2.2.1.getD []),s.2.2.2.2.2.2)) (by simpa using j) hk;rw[aF (by simp_all),c,aG,t,aG];by_cases g:e=0;rw[aV (by simp[g])];unfold Sn au al;rw[aF (by simp;omega),aF (by simp[bT];omega),aF (by simp;omega)];refine⟨_,0,rfl,λ_=>⟨?_,?_,?_,?_⟩⟩;simpa using h.nd;simpa using h.bY;simpa using h.ns;intro y hy;simp only[fL,List.nil_append]at hy ⊢;rcases List.mem_or_eq_of_mem_set hy with hy|rfl
 exact h.sg y hy;refine⟨⟨k,hk,a⟩,?_⟩;simp_all [sy];rw[aF (by simpa using g)];grind
theorem axP{p:dV}(h:gi p){s:eE}(c:bm (X s.2.2.2.2.2.1 [])≤67108864):∃a e,oQ p s=J (a,e)∧(e=0→gi a):=by grind [oQ,ka,gi.b,aG,axO]
def axQ(s:eE):∃r,Gb s=J r:=by
 unfold Gb ah;repeat' split
 all_goals exact⟨_,rfl⟩
def gi.cut{p:dV}(h:gi p){k:U}{l:M eE}{n:U}{x:L}(b:∀s∈l,VY (Y (X p.1 [])) s)(hn:Y ((X p.2.1 []).take k++l++(X p.2.1 []).drop n)≤512):gi (J ([]++X p.1 []),J ((X p.2.1 []).take k++l++(X p.2.1 []).drop n),x):=by
 refine⟨by simpa using h.nd,by simpa using h.bY,by simpa using hn,λs a=>?_⟩;simp only[fL,List.nil_append]at a ⊢;rcases nP.1 a with a|a
 rcases nP.1 a with a|a
 exact h.sg s (List.mem_of_mem_take a);exact b s a;exact h.sg s (List.mem_of_mem_drop a)
def axR{p:dV}(h:gi p)(id at' tg:L):∃f e,MB p id at' tg=J (f,e)∧(e=0→gi f):=by
 have o:=h.ns;have q:=h.nd;unfold MB cJ aM au aK ah al ay bd jh;dsimp-proj only[aj];rw[(ka h.b).1,aG];by_cases g:gx p=0;rotate_left;rw[aF (by simpa using g)];grind;rw[aV (by simp[g])];rcases V0 (p:=p) (by omega) id with d|⟨i,hi,d⟩
 rw[d,aG,aF (by decide)];grind;let⟨⟨k,hk,a⟩,r⟩:=h.sg _ (eF hi);rw[d,aG,aV (by simp),aF (dA hi)];simp only[cW hi];generalize c:(X p.2.1 [])[i]=x at *;let⟨z,t⟩:=axQ x;rw[sq (by omega)];simp only[aG,t];rw[oW (by omega),oW (by omega)];simp only[aG];have u:=di (i:=i) (by omega);simp only[u,ag6,ag7,ag8];by_cases c1:at'<1;simp only[ke c1,bI];grind;simp only[jC c1,bL,ch];by_cases j:at'≥aby a7 (x.2.2.2.1.2-x.2.2.2.1.1);simp only[ke j,bI];grind;simp only[jC j,bL,ch];by_cases l:tg<0;simp only[ke l,bI];grind;simp only[jC l,bL,ch];by_cases m:tg>(cx (X x.2.2.2.2.2.1 []):L);simp only[ke m,bI];grind;simp only[jC m,bL,ch];by_cases n:(decide (ag (X p.2.1 [])≥512)||decide (p.2.2≥1073741824))=W;simp only[n,bI];grind;simp only[n,bL,ch];have v:Y (X p.2.1 [])<512:=by grind [dv]
 have h1:=nM (X x.2.2.2.2.2.1 []) 0 tg;have h2:=nM (X x.2.2.2.2.2.1 []) tg (cx (X x.2.2.2.2.2.1 []):L);rw[aF (by simp;omega),aF (by simp;omega)];refine⟨_,0,rfl,λ_=>h.cut (λs c=>?_) (by simp;omega)⟩;rcases jQ.1 c with rfl|c
 exact⟨⟨k,hk,a⟩,by simp only[];omega⟩;rw[m7]at c;subst c;exact⟨⟨k,hk,a⟩,by simp only[];omega⟩
def axS{p:dV}(hn:Y (X p.2.1 [])≤1048576){i:U}(hi:i<Y (X p.2.1 [])):∃b,Mz p (i:L)=J b∧(b=W→i+1<Y (X p.2.1 [])):=by
 have a:=di (i:=i) (by omega);unfold Mz aM au al ay;dsimp-proj only[aj];simp only[a];by_cases c:i+1<Y (X p.2.1 []);rw[aF (by grind)];grind;have:decide (((i+1:U):L)<ag (X p.2.1 []))=I:=by simp;omega
 rw[this];simp_all
set_option maxHeartbeats 1000000 in
def axT{p:dV}(h:gi p)(id:L):∃v e,MA p id=J (v,e)∧(e=0→gi v):=by
 have C:=h.ns
 have D:=h.nd
 unfold MA cJ aM au aK ah al ay bd bv;dsimp-proj only[aj]
 rw[(ka h.b).1,aG]
 by_cases w:gx p=0
 rotate_left
 ·rw[aF (by simpa using w)];grind
 rw[aV (by simp[w])]
 rcases V0 (p:=p) (by omega) id with m|⟨i,hi,m⟩
 ·rw[m,aG,aF (by decide)];grind
 obtain⟨b,E,n⟩:=axS (by omega) hi
 rw[m,aG,aV (by simp),E,aG]
 cases b with
 |false=>exact⟨(O,O,0),8,rfl,λh=>by cases h⟩
 |true=>
  have d:=n rfl
  have F:=di (i:=i) (by omega)
  have o:aby a7 ((i:L)+2)=((i+2:U):L):=by grind [cf]
  obtain⟨⟨k,hk,g⟩,G⟩:=h.sg _ (eF hi)
  obtain⟨_,A⟩:=h.sg _ (eF d)
  simp only[F,o,ag6,ag7,ag8,kF,bL,ch]
  rw[aF (by rw[dA hi,dA d];rfl)]
  simp only[cW hi,cW d]
  generalize j:(X p.2.1 [])[i]=x at *
  generalize H:(X p.2.1 [])[i+1]=y at *
  have q:(X p.1 []).getD x.2.1.toNat ((0:L),O)=(X p.1 [])[k]:=by grind
  have hd:=(h.bY _ (eF g)).1
  have c:∀z:eE,Y ((X p.2.1 []).take i++[z]++(X p.2.1 []).drop (i+2))≤512:=λz=>by simp;omega
  by_cases l:(x.2.2.2.2.1 !=0||y.2.2.2.2.1 !=0)=W
  ·rw[aF l]
   obtain⟨f,e,K,S⟩:=ag9 hd x.2.2.1
   rw[aF (by simp_all),q,K,aG]
   simp only[]
   have N:=nM (X f []) x.2.2.2.1.2 y.2.2.2.1.1
   rw[oW (by omega),aG,mR (by omega),aG]
   have r:=sw (X x.2.2.2.2.2.1 []++X (ib (X f []) x.2.2.2.1.2 y.2.2.2.1.1).1 []) []
   have t0:bm ([]:M aN)=0:=rfl
   rw[jl]at r
   have B:bm (X (aT (dq (X x.2.2.2.2.2.1 []++X (ib (X f []) x.2.2.2.1.2 y.2.2.2.1.1).1 []))) [])+bm (X y.2.2.2.2.2.1 [])≤536870912:=by rw[cw];unfold dq;omega
   rw[mR B,aG,cw]
   have t:=sw (dq (X x.2.2.2.2.2.1 []++X (ib (X f []) x.2.2.2.1.2 y.2.2.2.1.1).1 [])++X y.2.2.2.2.2.1 []) []
   rw[cw]at B
   rw[jl]at t
   generalize T:dq (dq (X x.2.2.2.2.2.1 []++X (ib (X f []) x.2.2.2.1.2 y.2.2.2.1.1).1 [])++X y.2.2.2.2.2.1 [])=a
   have P:bm a≤1073741824:=by grind [dq]
   rw[VD (by simp_all),aG,cw]
   by_cases hv:jB a=0
   ·rw[aV (by simp[hv]),aF (by simp;omega)]
    have R:=(sy hv).1
    have u:∀z:eE,(decide ((0:L)≤0∧(0:L)≤(i:L)∧(i:L)≤ag (X p.2.1 []))&&(decide (Y ((X p.2.1 []).take i)≤68719476736)&&(decide (0+Y ((X p.2.1 []).take i)=Y ((X p.2.1 []).take i))&&(decide (Y ((X p.2.1 []).take i)+1≤68719476736)&&(V (eo ((X p.2.1 []).take i))==V (eo ((X p.2.1 []).take i))&&(decide ((0:L)≤((i+2:U):L)∧((i+2:U):L)≤ag (X p.2.1 [])∧ag (X p.2.1 [])≤ag (X p.2.1 []))&&(decide (0+Y ((X p.2.1 []).take i++[z])=Y ((X p.2.1 []).take i++[z]))&&decide (Y ((X p.2.1 []).take i++[z])+Y ((X p.2.1 []).drop (i+2))≤68719476736))))))))=W:=λz=>by simp;omega
    simp only[u,bI]
    repeat' split
    all_goals
     refine⟨_,0,rfl,λ_=>h.cut (λs j=>?_) (c _)⟩
     rw[m7]at j
     subst j
     exact⟨⟨k,hk,g⟩,by simp_all⟩
   ·rw[aF (by simpa using hv)];grind
  ·rw[aV l]
   rw[aF (by simp;omega)]
   have u:∀z:eE,(decide ((0:L)≤0∧(0:L)≤(i:L)∧(i:L)≤ag (X p.2.1 []))&&(decide (Y ((X p.2.1 []).take i)≤68719476736)&&(decide (0+Y ((X p.2.1 []).take i)=Y ((X p.2.1 []).take i))&&(decide (Y ((X p.2.1 []).take i)+1≤68719476736)&&(V (eo ((X p.2.1 []).take i))==V (eo ((X p.2.1 []).take i))&&(decide ((0:L)≤((i+2:U):L)∧((i+2:U):L)≤ag (X p.2.1 [])∧ag (X p.2.1 [])≤ag (X p.2.1 []))&&(decide (0+Y ((X p.2.1 []).take i++[z])=Y ((X p.2.1 []).take i++[z]))&&decide (Y ((X p.2.1 []).take i++[z])+Y ((X p.2.1 []).drop (i+2))≤68719476736))))))))=W:=λz=>by simp;omega
   simp only[u,bI]
   repeat' split
   all_goals
    refine⟨_,0,rfl,λ_=>h.cut (λs j=>?_) (c _)⟩
    rw[m7]at j
    subst j
    exact⟨⟨k,hk,g⟩,by simp[bm]⟩
def axU(o:Q (M L)){N:U}(b:N≤1152921504606846976):∃w,Mr (o,(N:L))=J (w,((N+1:U):L))∧Y w≤5:=by
 unfold Mr au;let⟨k,h1,h2⟩:=kB (n:=24) (by omega) (by omega) o b;rw[h2,aG,aF (by grind [bT,iJ])];refine⟨_,rfl,?_⟩;simp only[wZ,fq];have a:∀w∈([[114,101,100],[99,97,114],[82,101,100],[97],[99,97,114,115],[49,44,53],[50,50],[100,111,110,39,116],[46],[33],[32],[32,32],[60],[38],[123],[34],[92],[120,45,121],[10],[61],[125],[62],[9],[98]]:M (M ao)),Y w≤5:=by decide
 grind
def axV(o:Q (M L)){N:U}(p:N≤1125899906842624):∃(w:M ao)(b:U),Ms 2 (o,(N:L))=J (w,(b:L))∧Y w≤12∧b≤N+5:=by
 unfold Ms aX ay;let⟨k,h1,h2⟩:=kB (n:=aby a7 (2+1)) (by decide) (by decide) o (N:=N) (by omega);have h1:(k:L)<3:=h1;rw[h2,aG];let⟨r,q,b,s,u,v⟩:=gs (f:=SS (o,(N:L))) (λy=>∃i a:U,y.2.1=(i:L)∧i≤2∧Y y.1≤6*(2-i)∧y.2.2=(a:L)∧a≤N+1+2*(2-i)) (λy=>G y.2.1) (λr=>∃b:U,r.2=(b:L)∧Y r.1≤12∧b≤N+5) (λy h=>by
  let⟨acc,c,m⟩:=y
  obtain⟨i,a,rfl,hi,e,rfl,x⟩:=h
  simp only[]at e
  unfold SS iw au aK ah bd aH aA c9 bv
  simp only[]
  by_cases g:0<i
  have hd:aby a7 ((i:L)-1)=((i-1:U):L):=by grind [cf]
  let⟨w,j,z⟩:=axU o (N:=a) (by omega)
  rw[aF (by simp;omega),j,aG,hd]
  by_cases d:acc=[]
  rw[aV (by simp[d]),aF (by grind)]
  exact⟨⟨i-1,a+1,rfl,by omega,by grind,rfl,by omega⟩,by simp;omega⟩
  rw[aF (by simp[d])]
  let⟨t,A,l⟩:=kB (n:=3) (by omega) (by omega) o (N:=a+1) (by omega)
  have B:Y (if decide ((t:L)>0)=W then acc++[32]else acc)≤Y acc+1:=by split<;>simp
  rw[l,aG,aF (by
   rw[ck,qY,eY,eY]
   grind)]
  exact⟨⟨i-1,a+1+1,rfl,by omega,by grind,rfl,by omega⟩,by simp;omega⟩
  grind) ([],(k:L),((N+1:U):L)) ⟨k,N+1,rfl,by omega,by simp,rfl,by omega⟩ (cM (cA (by simp;omega)))
 grind [aG]
def axW(o:Q (M L)){N:U}(a:N≤1152921504606846976):∃w,Mq (o,(N:L))=J (w,((N+1:U):L)):=by unfold Mq au;let⟨k,h1,h2⟩:=kB (n:=4) (by omega) (by omega) o a;rw[h2,aG,aF (by grind [bT,iJ])];exact⟨_,rfl⟩
def axX{src:Q (M aN)}(E:bm (src.getD [])≤131074)(o:Q (M L))(z:L){N:U}(F:N≤1125899000000000):∃(f:Q (M aN))(e:U),Mt src (o,(N:L))=J (f,(e:L))∧bm (f.getD [])≤2500000∧e≤N+1000000:=by
 have k:=eT (src.getD []);unfold Mt aX;let⟨r,G,e,H,K,P⟩:=gs (f:=SU src (o,(N:L))) (λy=>∃i b:U,y.2.1=(i:L)∧i≤(src.getD []).length∧bm (y.1.getD [])≤bm ((src.getD []).take i)+14*i∧y.2.2=(b:L)∧b≤N+6*i) (λy=>(src.getD []).length-y.2.1.toNat) (λr=>∃e:U,r.2=(e:L)∧bm (r.1.getD [])≤2500000∧e≤N+1000000) (λy h=>by
  let⟨acc,c,m⟩:=y
  obtain⟨i,b,rfl,hi,p,rfl,R⟩:=h
  simp only[]at p
  unfold SU bJ aM iw au ah al ay aH aA;dsimp-proj only[aj]
  simp only[]
  have q:=zr (src.getD []) i
  by_cases d:i<(src.getD []).length
  have s:=di (i:=i) (by omega)
  have u:=wM d
  have v:bm ((src.getD []).take (i+1))=bm ((src.getD []).take i)+((src.getD [])[i].2.1.length+1):=by rw[iP d,jl];simp[bm]
  have t0:bm ([]:M aN)=0:=rfl
  have one:∀x:aN,bm [x]=x.2.1.length+1:=λx=>by simp[bm]
  have cat:∀(a:Q (M aN))(x:aN),bm (a.getD [])+(x.2.1.length+1)≤536870912→∃r,lK a (J [x])=J r∧bm (r.getD [])≤bm (a.getD [])+(x.2.1.length+1):=λa x S=>by grind [sw,mR,cw,dq]
  rw[dQ d,aF (dA d)]
  simp only[cW d,s]
  generalize (src.getD [])[i]=x at *
  by_cases h1:x.1=1
  rw[aF (by simp[h1]),aF (by simp;omega)]
  let⟨t,A,g⟩:=kB (n:=5) (by omega) (by omega) o (N:=b) (by omega)
  rw[g,aG,aF (by
   simp only[ck,eY]
   exact⟨by simp;omega,by grind [bT,iJ]⟩)]
  have B:(([[114,111,116],[100,97,115,32,65,117,116,111],[],[101,105,110,32]++x.2.1,x.2.1]:M (M ao)).getD (0+((t:L)).toNat) []).length≤x.2.1.length+8:=by have T:t=0∨t=1∨t=2∨t=3∨t=4:=(by omega);grind
  let⟨r,c1,j⟩:=cat acc (x.1,([[114,111,116],[100,97,115,32,65,117,116,111],[],[101,105,110,32]++x.2.1,x.2.1]:M (M ao)).getD (0+((t:L)).toNat) [],x.2.2) (by simp only[];omega)
  simp only[]at j
  rw[c1,aG]
  exact⟨⟨i+1,b+1,rfl,d,by simp only[];omega,rfl,by omega⟩,by simp only[];omega⟩
  rw[aV (by simp[h1])]
  let⟨t,A,g⟩:=kB (n:=3) (by omega) (by omega) o (N:=b) (by omega)
  rw[g,aG]
  by_cases h3:((t:L)==0)=W
  rw[aF h3]
  let⟨w,V,X,Y,Z⟩:=axV o (N:=b+1) (by omega)
  let⟨r,c1,j⟩:=cat acc (1,w,0) (by simp only[];omega)
  simp only[]at j
  let⟨C,l,D⟩:=cat r x (by omega)
  grind [aG]
  rw[aV h3]
  let⟨C,l,D⟩:=cat acc x (by omega)
  rw[l,aG]
  exact⟨⟨i+1,b+1,rfl,d,by simp only[];omega,rfl,by omega⟩,by simp only[];omega⟩
  obtain rfl:i=(src.getD []).length:=by omega
  rw[gb]
  grind) (O,0,(N:L)) ⟨0,N,rfl,fV _,by simp[bm],rfl,by omega⟩ (cM (cA (by simp;omega)))
 grind [aG]
def ahb{p:dV}(h:gi p){r:dV×L}(b:r.2=0→gi r.1)(a:U):∃q,(if(r.2 !=0)=W then J (p,(a:L))else J (r.1,(a:L)))=J (q,(a:L))∧gi q:=by grind
def V1{p:dV}(h:gi p){s:eE}(b:bm (X s.2.2.2.2.2.1 [])≤67108864)(a:U):∃q,(aq (oQ p s) λr=>if(r.2 !=0)=W then J (p,(a:L))else J (r.1,(a:L)))=J (q,(a:L))∧gi q:=by grind [axP,aG]
set_option maxHeartbeats 1000000 in
def axY{p:dV}(h:gi p)(o:Q (M L)){N:U}(V:N≤1000000000000):∃(g:dV)(m:U),MC p (o,(N:L))=J (g,(m:L))∧gi g∧m≤N+1000010:=by
 have G:=h.ns
 unfold MC cJ aM ah al ay bd;dsimp-proj only[aj]
 by_cases X:(p.2.1.getD []).length=0
 ·rw[aF (by simp_all)];grind
 rw[aV (by simp_all)]
 obtain⟨i,hi,n1⟩:=kB (n:=ag (p.2.1.getD [])) (by simp;omega) (by simp;omega) o (N:=N) (by omega)
 have hi:i<(p.2.1.getD []).length:=by simp at hi;exact hi
 obtain⟨f,H,v⟩:=aha h hi
 obtain⟨_,K⟩:=h.sg _ (eF hi)
 obtain⟨c,Y,n2⟩:=kB (n:=8) (by omega) (by omega) o (N:=N+1) (by omega)
 rw[n1,aG,aF (dA hi)]
 simp only[cW hi,H,aG]
 rw[n2,aG]
 generalize (p.2.1.getD [])[i]=x at *
 simp only[]
 have P:=qL (f.getD [])
 have R:=qL (x.2.2.2.2.2.1.getD [])
 by_cases c0:((c:L)==0)=W
 ·rw[aF c0,sq (by omega),aG]
  have B:0<oz 1 (aby a7 ((cx (f.getD []):L)-1))∧oz 1 (aby a7 ((cx (f.getD []):L)-1))≤1099511627776:=by
   grind [cf,oz]
  obtain⟨a,_,w⟩:=kB B.1 B.2 o (N:=N+1+1) (by omega)
  rw[w,aG,sq (by omega),aG]
  have C:aby a7 ((cx (x.2.2.2.2.2.1.getD []):L)+1)=(cx (x.2.2.2.2.2.1.getD []):L)+1:=eh (by omega)
  obtain⟨b,_,S⟩:=kB (n:=aby a7 ((cx (x.2.2.2.2.2.1.getD []):L)+1)) (by rw[C];omega) (by rw[C];omega) o (N:=N+1+1+1) (by omega)
  rw[S,aG]
  obtain⟨g,e,y,z⟩:=axR h x.1 (aby a7 (1+(a:L))) (b:L)
  rw[y,aG]
  obtain⟨q,j,k⟩:=ahb h (r:=(g,e)) z (N+1+1+1+1)
  exact⟨q,_,j,k,by omega⟩
 rw[aV c0]
 by_cases c1:((c:L)==1)=W
 ·rw[aF c1]
  obtain⟨g,e,y,z⟩:=axT h x.1
  rw[y,aG]
  obtain⟨q,j,k⟩:=ahb h (r:=(g,e)) z (N+1+1)
  exact⟨q,_,j,k,by omega⟩
 rw[aV c1]
 by_cases E:((c:L)==2)=W
 ·rw[aF E]
  obtain⟨q,j,k⟩:=V1 h (s:=(x.1,x.2.1,x.2.2.1,x.2.2.2.1,0,O,[],0,x.2.2.2.2.2.2.2.2)) (by simp[bm]) (N+1+1)
  exact⟨q,_,j,k,by omega⟩
 rw[aV E]
 by_cases F:((c:L)==3)=W
 ·rw[aF F]
  obtain⟨q,j,k⟩:=V1 h (s:=(x.1,x.2.1,x.2.2.1,x.2.2.2.1,x.2.2.2.2.1,x.2.2.2.2.2.1,x.2.2.2.2.2.2.1,x.2.2.2.2.2.2.2.1,!x.2.2.2.2.2.2.2.2)) (by simp only[];omega) (N+1+1)
  exact⟨q,_,j,k,by omega⟩
 rw[aV F]
 obtain⟨a,Z,w⟩:=kB (n:=3) (by omega) (by omega) o (N:=N+1+1) (by omega)
 obtain⟨t,u,t1,t2,t3⟩:=axX v o 0 (N:=N+1+1+1) (by omega)
 obtain⟨nm,T⟩:=axW o (N:=u) (by omega)
 rw[w,aG]
 simp only[]
 rw[t1,aG]
 simp only[]
 rw[T,aG]
 simp only[]
 obtain⟨z1,_,k1⟩:=kB (n:=5) (by omega) (by omega) o (N:=u+1) (by omega)
 obtain⟨z2,_,k2⟩:=kB (n:=3) (by omega) (by omega) o (N:=u+1) (by omega)
 obtain⟨z3,_,k3⟩:=kB (n:=5) (by omega) (by omega) o (N:=u+1+1) (by omega)
 simp only[k1,k2,aG]
 simp only[k3,aG]
 have D:∀(st:L)(l:M ao)(fr:L)(A:az)(d:U),d≤N+1000010→∃(g:dV)(m:U),(aq (oQ p (x.1,x.2.1,x.2.2.1,x.2.2.2.1,st,t,l,fr,A)) λr=>if(r.2 !=0)=W then J (p,(d:L))else J (r.1,(d:L)))=J (g,(m:L))∧gi g∧m≤N+1000010:=λst l fr A d hM=>by
  obtain⟨q,j,k⟩:=V1 h (s:=(x.1,x.2.1,x.2.2.1,x.2.2.2.1,st,t,l,fr,A)) (by simp only[];omega) d
  grind
 repeat' split
 all_goals
  refine D _ _ _ _ _ ?_
  omega
def axZ:∃r,yD=J r∧Cf r:=by unfold yD;refine⟨_,rfl,by simp,λr a=>?_⟩;grind
def ax0(o:Q (M L)):∃(p:dV)(b:U),MI 10 (o,0)=J (p,(b:L))∧gi p:=by
 unfold MI aX au ah ay;let⟨l,g,u,v,D⟩:=axL o (N:=0) (by omega);let⟨E,w,x⟩:=axZ;rw[show((o,0):Q (M L)×L)=(o,((0:U):L))from rfl,u,aG,w,aG,aF (by simp)];let⟨p,e,z,A⟩:=axE x (bY:=l) v;simp only[];rw[z,aG];by_cases j:e=0;rotate_left;rw[aF (by simpa using j)];exact⟨(O,O,1),g,rfl,⟨by simp,λd hd=>by simp at hd,by simp,λs B=>by simp at B⟩⟩;rw[aV (by simp[j])];let⟨k,hk,n1⟩:=kB (n:=aby a7 (10+1)) (by decide) (by decide) o (N:=g) (by omega);have hk:(k:L)<11:=hk;rw[n1,aG];simp only[];let⟨r,F,b,G,H⟩:=gs (f:=SY (o,((0:U):L))) (λy=>∃i a:U,y.1=(i:L)∧i≤10∧y.2.1=(a:L)∧a≤g+1+1000010*(10-i)∧gi y.2.2) (λy=>y.1.toNat) (λr=>∃b:U,r.1=(b:L)∧gi r.2) (λy h=>by
  let⟨c,m,q⟩:=y
  obtain⟨i,a,rfl,hi,rfl,K,t⟩:=h
  simp only[]at t
  unfold SY aK bd aH aA
  simp only[]
  by_cases C:0<i
  have hd:aby a7 ((i:L)-1)=((i-1:U):L):=by grind [cf]
  let⟨P,b,R,S,T⟩:=axY t o (N:=a) (by omega)
  grind [aG]
  grind) ((k:L),((g+1:U):L),p) ⟨k,g+1,rfl,by omega,rfl,by omega,A j⟩ (cM (cA (by simp;omega)))
 grind [aG]
def ahc{p:dV}{i:U}(hi:i<Y (X p.2.1 [])):sj p (i:L) I=J (decide ((bP (X p.2.1 []) i).2.2.2.2.1=3)):=by grind [sj,bP,dA]
def pP(segs:M sa)(keep:U→az)(num p:L)(k:U):M U:=(iz k).filter λi=>decide ((bP segs i).2.1=num)&&(keep i&&decide ((bP segs i).2.2.1=p))
def ahd(segs:M sa)(keep:U→az)(num p:L)(k:U):pP segs keep num p (k+1)=pP segs keep num p k++if(decide ((bP segs k).2.1=num)&&(keep k&&decide ((bP segs k).2.2.1=p)))=W then[k]else[]:=by unfold pP;rw[xc,List.filter_append];grind
def ahe(segs:M sa)(keep:U→az)(num p:L)(k:U):Y (pP segs keep num p k)≤k:=by grind [pP]
def ax1{p:dV}(hn:Y (X p.2.1 [])≤1048576){num:L}{preview:az}{keep:U→az}(hk:∀i,i<Y (X p.2.1 [])→(bP (X p.2.1 []) i).2.1=num→sj p (i:L) preview=J (keep i)){us:Q (M L)}{j:U}(c:j<Y (X us []))(d:Dc):bR (Gc p num preview us ((j:L),d)) (O,O,0)=J (aT ((ji (X p.2.1 []) keep num (X us [])[j]).map λi=>(bP (X p.2.1 []) i).2.2.2.1),aT ((ji (X p.2.1 []) keep num (X us [])[j]).map λi=>(bP (X p.2.1 []) i).2.2.2.2.2.1)):=by
 rw[show((O,O,0):Q (M (L×L))×Q (M (Q (M aN)))×L)=(aT ((pP (X p.2.1 []) keep num (X us [])[j] 0).map λi=>(bP (X p.2.1 []) i).2.2.2.1),aT ((pP (X p.2.1 []) keep num (X us [])[j] 0).map λi=>(bP (X p.2.1 []) i).2.2.2.2.2.1),((0:U):L)) by simp[pP,aT]];refine eS (f:=Gc p num preview us ((j:L),d)) (Y (X p.2.1 [])) (λi=>(aT ((pP (X p.2.1 []) keep num (X us [])[j] i).map λi=>(bP (X p.2.1 []) i).2.2.2.1),aT ((pP (X p.2.1 []) keep num (X us [])[j] i).map λi=>(bP (X p.2.1 []) i).2.2.2.2.2.1),(i:L))) (λi hi=>?_) ?_ (cM (cA (by omega)));have e:=di (i:=i) (by omega);have a:bP (X p.2.1 []) i=(X p.2.1 [])[i]:=by unfold bP;rw[iH hi]
 have g:=ahe (X p.2.1 []) keep num (X us [])[j] i;have b:=hk i hi;unfold Gc bJ aM au ah al ay aH aA bv;dsimp-proj only[aj];simp only[];rw[dQ hi,aF (dA hi),ahd];simp only[cW hi,cW c,e];rw[←a];by_cases h1:(bP (X p.2.1 []) i).2.1=num;rw[aF (by simp[h1])];by_cases h2:(bP (X p.2.1 []) i).2.2.1=(X us [])[j];rw[aF (by simp[h2]),b h1,aG,aF (by simp;omega)];grind [Gz];grind;grind;unfold Gc bJ aM au ah al ay aH aA bv;dsimp-proj only[aj];simp only[];rw[gb];rfl
def NO(d:Dc):Prop:=Y (X d.2 [])≤131075∧Y (dO (X d.2 []))≤65536
def V2{p:dV}(hn:Y (X p.2.1 [])≤512)(x:∀s∈X p.2.1 [],bm (X s.2.2.2.2.2.1 [])≤67108864){num:L}{preview:az}{keep:U→az}(hk:∀i,i<Y (X p.2.1 [])→(bP (X p.2.1 []) i).2.1=num→sj p (i:L) preview=J (keep i)){us:Q (M L)}(y:Y (X us [])≤1048576):∀(m j:U)(d:Dc)(f:U),j+m=Y (X us [])→m<f→NO d→∃(b:Dc)(e:L),eD (BT p num preview us) f ((j:L),d)=J (if e=0 then .inr b else .inl (e,0,O))∧jX (ji (X p.2.1 []) keep num) (λi=>(bP (X p.2.1 []) i).2.2.2.1) (λi=>(bP (X p.2.1 []) i).2.2.2.2.2.1) ((X us []).drop j) d=J (b,e)∧(e=0→NO b)∧(e≠0→b=(0,O))
 |0,j,d,f+1,z,_,hd=>by
  have:j=Y (X us []):=by omega
  subst this;refine⟨d,0,?_,?_,λ_=>hd,λh=>cO rfl h⟩;unfold eD BT bJ aX aM au ah al ay aH aA;simp_all;rw[List.drop_length];rfl
 |m+1,j,d,f+1,z,G,hd=>by
  have n:j<Y (X us []):=by omega
  have H:=di (i:=j) (by omega);have K:=ax1 (by omega) hk n d;have o:=ahe (X p.2.1 []) keep num (X us [])[j] (Y (X p.2.1 []));have o:Y (ji (X p.2.1 []) keep num (X us [])[j])≤Y (X p.2.1 []):=o
  have c:∀(l:M U),ji (X p.2.1 []) keep num (X us [])[j]=l→jX (ji (X p.2.1 []) keep num) (λi=>(bP (X p.2.1 []) i).2.2.2.1) (λi=>(bP (X p.2.1 []) i).2.2.2.2.2.1) ((X us []).drop j) d=if l=[]then jX (ji (X p.2.1 []) keep num) (λi=>(bP (X p.2.1 []) i).2.2.2.1) (λi=>(bP (X p.2.1 []) i).2.2.2.2.2.1) ((X us []).drop (j+1)) d else match oP d (X us [])[j] (J (l.map λi=>(bP (X p.2.1 []) i).2.2.2.1)) (J (l.map λi=>(bP (X p.2.1 []) i).2.2.2.2.2.1))with|none=>O|some (b,e)=>if e=0 then jX (ji (X p.2.1 []) keep num) (λi=>(bP (X p.2.1 []) i).2.2.2.1) (λi=>(bP (X p.2.1 []) i).2.2.2.2.2.1) ((X us []).drop (j+1)) b else J ((0,O),e):=λl q=>by
   rw[xe n,jX,q]
   split
   rfl
   split<;>simp_all
  have k:BT p num preview us ((j:L),d)=if(ag (ji (X p.2.1 []) keep num (X us [])[j])==0)=W then J (.inl (((j+1:U):L),d))else aq (BE d (X us [])[j] (aT ((ji (X p.2.1 []) keep num (X us [])[j]).map λi=>(bP (X p.2.1 []) i).2.2.2.1)) (aT ((ji (X p.2.1 []) keep num (X us [])[j]).map λi=>(bP (X p.2.1 []) i).2.2.2.2.2.1))) λr=>if(r.2 !=0)=W then J (.inr (.inl (r.2,0,O)))else J (.inl (((j+1:U):L),r.1)):=by unfold BT bJ aX aM au ah al ay aH aA;simp_all
  rw[eD,k];cases q:ji (X p.2.1 []) keep num (X us [])[j]with|nil=>rw[c [] q,aF (by decide)];simp only[bI];exact V2 hn x hk y m (j+1) d f (by omega) (by omega) hd|cons a l=>have A:Y (a::l)≤512:=(by rw[←q];omega);have u:∀t∈((a::l).map λi=>(bP (X p.2.1 []) i).2.2.2.2.2.1),bm (X t [])≤67108864:=λt v=>(by obtain⟨i,hi,rfl⟩:=mh.1 v;have hi:i<Y (X p.2.1 []):=(by grind [ji]);unfold bP;rw[iH hi];grind);let⟨b,e,B,C,r⟩:=VL (d:=d) (by have:=hd.1;omega) (by have:=hd.2;omega) (X us [])[j] (rs:=J ((a::l).map λi=>(bP (X p.2.1 []) i).2.2.2.1)) (ts:=J ((a::l).map λi=>(bP (X p.2.1 []) i).2.2.2.2.2.1)) (by grind) (by grind) u;have ea:∀{β:Type}(g:U→β),aT ((a::l).map g)=J ((a::l).map g):=λg=>rfl;have w:(ag (a::l)==0)=I:=(by simp;omega);rw[c (a::l) q,w,ea,ea,B,C];simp only[bL,ch,aG,List.cons_ne_nil];by_cases D:e=0;subst D;let⟨_,E,F,_⟩:=r rfl;simp only[show((0:L) !=0)=I from rfl,bL,ch,bI];exact V2 hn x hk y m (j+1) b f (by omega) (by omega) ⟨by rw[E];exact hd.1,F⟩;grind
def V3{p:dV}(hp:lO p)(o:gx p=0→NN p){num:L}{preview:az}{keep:U→az}(hk:∀i,i<Y (X p.2.1 [])→(bP (X p.2.1 []) i).2.1=num→sj p (i:L) preview=J (keep i)):(gx p≠0→tQ p num preview=J ((0,O),gx p))∧(gx p=0→(num<0∨(Y (X p.1 []):L)≤num)→tQ p num preview=J ((0,O),6))∧(gx p=0→0≤num→num<Y (X p.1 [])→∃(d:Dc)(e:L),tQ p num preview=J (d,e)∧y5 keep num (aT (X p.1 []),aT (X p.2.1 []),p.2.2,gn (X p.1 []) (Y (X p.1 [])))=J (d,e)∧(e=0→NO d)∧(e≠0→d=(0,O))):=by
 unfold tQ aX cJ aM au ah al;rw[(ka hp).1,aG];refine⟨λh=>by grind,λh hn=>?_,λh f q=>?_⟩;simp_all;have a:=o h;have r:(decide (num<0)||decide (num≥ag (X p.1 [])))=I:=by simp;omega
 have t:decide (0≤num∧num<ag (X p.1 []))=W:=by simp;omega
 obtain⟨k,rfl⟩:=nW f;have c:k<Y (X p.1 []):=by omega
 have hd:=a.bY _ (eF c);have u:=hd.2.1;have v:=G2 (X (X p.1 [])[k].2 []) (Y (X (X p.1 [])[k].2 []));have g:=a.ns;rw[h,r,t,cW c,VC,Ca (by omega)];simp only[show((0:L) !=0)=I from rfl,bL,ch,bI,aG];let⟨d,e,w,D,y,z⟩:=V2 g (λs j=>by let⟨_,_,_,_,_,_,_,_,hv⟩:=a.sg s j;grind [sy]) hk (us:=aT ((gZ (X (X p.1 [])[k].2 []) (Y (X (X p.1 [])[k].2 []))).map fW)) (by rw[cw,kE];omega) _ 0 (X p.1 [])[k] fuel (wZ _) (by rw[cw,kE];exact cM (cA (by omega))) ⟨hd.2.1,hd.2.2⟩;refine⟨d,e,?_,?_,y,z⟩;rw[show bR (BT p (k:L) preview (aT ((gZ (X (X p.1 [])[k].2 []) (Y (X (X p.1 [])[k].2 []))).map fW))) (0,(X p.1 [])[k])=_ from w,aG];by_cases A:e=0;subst A;rfl;simp_all;unfold y5;simp only[cw];have E:∀s∈X p.2.1 [],sc s.2.2.1=W:=λs j=>by let⟨k2,d2,_,h2,h3,_⟩:=a.sg s j;let⟨b,n,l⟩:=zB.1 h3;have B:=(zA _ _ _ l).1;have m:=a.bY d2 (fK h2);have:=m.2.1;grind [sc]
 rw[aF (by grind)];rw[cW c,Ca (by omega)];simp only[cw];rw[aF (by simp only[ck,eY,gy,kE];refine⟨by omega,λx C=>?_⟩;obtain⟨b,n,rfl⟩:=mh.1 C;have:=(zA _ _ _ n).1;unfold sc;simp;omega)];simp_all
def fP(p:dV):my:=(aT (X p.1 []),aT (X p.2.1 []),p.2.2,gn (X p.1 []) (Y (X p.1 [])))
def He{p:dV}(hp:lO p)(num:L):(gx p≠0→r9 p num=J (gx p,I,O,O,0,[]))∧(gx p=0→num<0∨(Y (X p.1 []):L)≤num→r9 p num=J (6,I,O,O,0,[]))∧(gx p=0→¬(num<0∨(Y (X p.1 []):L)≤num)→r9 p num=J (0,W,fP p)):=by unfold r9 cr ah al;rw[(ka hp).2.1,aG];refine⟨λh=>?_,λh hn=>?_,λh hn=>?_⟩;grind;simp_all;simp only[h,bI,cw,sE,bL,ch,dv,qY,eY,ge_iff_le];rw[aV hn];rfl
def V4{p:dV}(hp:lO p)(num:L):∃b e,tO p num=J (b,e)∧zD p num=J (b,e):=by
 let⟨m,n,c⟩:=V3 (preview:=I) (num:=num) (keep:=λi=>decide ((bP (X p.2.1 []) i).2.2.2.2.1=3)) hp (ka hp).2.2 (λi hi _=>ahc hi);unfold tO zD au ah;let⟨o,q,d⟩:=He hp num;by_cases h:gx p=0;rotate_left;simp_all;by_cases hn:num<0∨(Y (X p.1 []):L)≤num;simp_all;rw[d h hn,aG];let⟨f,e,g,r,j,k⟩:=c h (by omega) (by omega);have l:sd num (fP p)=J (f,e):=by unfold sd fP;simp_all
 rw[g,aG];simp only[bI,sE,bL,ch];rw[l,aG];by_cases a:e=0;let⟨s,t⟩:=j a;subst a;simp only[];rw[B6 (by omega) (by omega),aG,aV (by simp),GH (by omega) (by omega),aG];grind;rw[aF (by simpa using a),k a];grind [B6,dO,aG]
def V6(l:Q (M L)):∃b,BR (J [l])=J b:=by
 unfold BR aX;have:bR (acz (J [l])) (0,0)=J (aby a7 (0+ag (X l []))):=by rfl
 simp_all
def V7(l:Q (M L)):∃p,BS l=J p∧gi p:=by let⟨p,N,h1,h2⟩:=ax0 l;simp_all [BS,SP]
def ahf{p:dV}(a:NN p){i:U}(hi:i<Y (X p.2.1 [])):∃k d,(X p.2.1 [])[i].2.1=((k:U):L)∧k<16∧(X p.1 [])[k]?=J d∧mW d∧∃f,bm (X f [])≤268435462∧
  f=(ib (X (jO d (G (X p.2.1 [])[i].2.2.1)) []) (X p.2.1 [])[i].2.2.2.1.1 (X p.2.1 [])[i].2.2.2.1.2).1∧v7 p (i:L)=J f∧wn (i:L) (fP p)=J f:=by
 obtain⟨k,d,hk,hd,j,n,h1,h2,hv,o⟩:=a.sg _ (eF hi)
 have g:k<Y (X p.1 []):=(iO.1 hd).1
 have h:(X p.1 [])[k]=d:=(iO.1 hd).2
 have c:mW d:=h▸a.bY _ (eF g)
 refine⟨k,d,hk,by have:=a.nd;omega,hd,c,_,?_,rfl,?_,?_⟩
 all_goals
  obtain⟨b,q,_⟩:=zB.1 j
  obtain⟨l,e,c1,r⟩:=ag3 c b
  have m:=nM (X (jO d b) []) (X p.2.1 [])[i].2.2.2.1.1 (X p.2.1 [])[i].2.2.2.1.2
 ·grind
 ·grind [v7,dA,fq,aG,oW]
 ·unfold wn wm fP cJ aM au al;dsimp-proj only[aj]
  grind [dA,agV,cw,aG,fq,Nk]
def ahg{p:dV}(hp:lO p)(a:NN p){i:U}(hi:i<Y (X p.2.1 [])):∃b,se (fP p) i=J b∧sj p (i:L) W=J b:=by
 let⟨k,d,hk,e,hd,h,f,j,c,hT,v⟩:=ahf a hi;let⟨_,l,m,n,_,_,_,_,_,o⟩:=a.sg _ (eF hi);have:l=d:=by grind
 subst this;rw[←c]at o;have q:=eT (X f []);have r:=hp.tg _ (eF hi);have g:=eT (X (X p.2.1 [])[i].2.2.2.2.2.1 []);let⟨b,c1,w⟩:=agK (s:=f) (t:=(X p.2.1 [])[i].2.2.2.2.2.1) (by omega) (by omega);have u:bP (X (fP p).2.1 []) i=(X p.2.1 [])[i]:=by unfold bP fP;simp_all
 grind [se,Mn,sj,dA,aG,cW]
def ahh{p:dV}(hp:lO p)(num:L):∃b e,F8 p num=J (b,e)∧Gd p num=J (b,e):=by
 have c:gx p=0→∀i,i<Y (X p.2.1 [])→(bP (X p.2.1 []) i).2.1=num→sj p (i:L) W=J (X (se (fP p) i) I):=λh i hi _=>by let⟨b,h1,h2⟩:=ahg hp ((ka hp).2.2 h) hi;rw[h1,h2];rfl
 let⟨t,u,g⟩:=He hp num;unfold F8 Gd au ah;by_cases h:gx p=0;rotate_left;have j:tQ p num W=J ((0,O),gx p):=by grind [tQ,ka,aG]
 simp_all;let⟨j,v,l⟩:=V3 (preview:=W) (num:=num) (keep:=λi=>X (se (fP p) i) I) hp (ka hp).2.2 (c h);by_cases hn:num<0∨(Y (X p.1 []):L)≤num;simp_all;rw[g h hn,aG];let⟨m,e,n,o,q,r⟩:=l h (by omega) (by omega);have s:y6 num (fP p)=J (m,e):=by
  unfold y6;rw[aF];exact o;rw[gy];intro i hi;have hi:i<Y (X p.2.1 []):=by simpa[fP]using hi
  let⟨b,h1,h2⟩:=ahg hp ((ka hp).2.2 h) hi;let⟨k,d,hk,f,_⟩:=ahf ((ka hp).2.2 h) hi;grind [bP,fP,cw,sc]
 rw[n,aG];simp only[bI,sE,bL,ch];rw[s,aG];by_cases a:e=0;let⟨w,x⟩:=q a;subst a;simp only[];rw[B6 (by omega) (by omega),aG,aV (by simp),GH (by omega) (by omega),aG];grind;rw[aF (by simpa using a),r a];grind [B6,dO,aG]
def kD:Dc:=(3,J [(I,[],[116,101,120,116,10,34]),(W,[49],[79,110,101,46,32,84,119,111,46]),(I,[],[34])])
def kP0:dV:=(J [kD],J [(1,0,1,(0,4),0,O,[],0,I),(2,0,1,(5,9),0,O,[],0,I)],3)
def kP1:dV:=(J [kD],J [(1,0,1,(0,4),3,J [(1,[85,34,110,46],0)],[97,110,110],0,I),(2,0,1,(5,9),0,O,[],0,I)],3)
def qQ:dV:=(J [kD],J [(1,0,1,(0,4),3,J [(1,[85,34,110,46],0)],[97,110,110],0,I),(2,0,1,(5,9),2,J [(1,[68,101,117,120,46],0)],[97,110,110],0,I)],3)
def ax5:qB 3 [116,101,120,116,10,34,79,110,101,46,32,84,119,111,46,34]=J (kD,0,0):=by kernel_rfl
def ax6:(aq yD λa=>Bu (J [kD]) a)=J (kP0,0):=by kernel_rfl
def ax7:wb kP0 (1,0,0,(0,0),3,J [(1,[85,34,110,46],0)],[97,110,110],0,I)=J (kP1,0):=by kernel_rfl
def ax8:wb kP1 (2,0,0,(0,0),2,J [(1,[68,101,117,120,46],0)],[97,110,110],0,I)=J (qQ,0):=by kernel_rfl
def Wa:lO qQ:=⟨by intro d hd;rw[show X qQ.1 []=[kD]from rfl,m7]at hd;subst hd;exact⟨by decide,by decide⟩,by intro s a;rw[show X qQ.2.1 []=[(1,0,1,(0,4),3,J [(1,[85,34,110,46],0)],[97,110,110],0,I),(2,0,1,(5,9),2,J [(1,[68,101,117,120,46],0)],[97,110,110],0,I)]from rfl]at a;simp only[jQ,List.not_mem_nil,or_false]at a;rcases a with rfl|rfl<;>simp[bm],by decide,by decide⟩
def ax9:gx qQ=0:=by kernel_rfl
def aya:zD qQ 0=J ([116,101,120,116,10,34,85,34,34,110,46,32,84,119,111,46,34],0):=by kernel_rfl
def ayb:Gd qQ 0=J ([116,101,120,116,10,34,85,34,34,110,46,32,68,101,117,120,46,34],0):=by kernel_rfl
def ahk:r9 qQ 0=J (0,W,fP qQ):=(He Wa 0).2.2 ax9 (by decide)
def ayc:y9 qQ 0=J (J [(1,6,11),(2,12,16)],0):=by unfold y9 aX cJ au ah al;rw[ahk,aG];kernel_rfl
def ayd:Mm qQ 0=J (J [2]):=by unfold Mm aX au ah;rw[ahk,aG];kernel_rfl
theorem Hf:sf=J W:=by
 unfold sf au aK ah;rw[ax5,aG];have a:=ax6;cases c:yD with
 |none=>rw[c]at a;cases a
 |some f=>rw[c,aG]at a;rw[aG,aF (by simp)];simp only[];rw[a,aG];simp only[];rw[ax7,aG];simp only[];rw[ax8,aG];let⟨b,e,h1,h2⟩:=V4 Wa 0;rw[aya]at h2;cases h2;let⟨b,e,h3,d⟩:=ahh Wa 0;rw[ayb]at d;cases d;simp only[];rw[h1,aG,h3,aG,ayc,aG,ayd];rfl
def ayj{fmt:L}{raw:M ao}:bF (λr=>r.2.2.2≠0→r.1=O) (gW fmt raw):=by
 unfold gW aX au aK al bv;refine bF.call λr b=>?_;have:=bF.loop (f:=nF fmt raw) (I:=λ_=>dK) (Q:=su (λz:Option (M aN)×Option (M L)×L×L=>z.1=O) λ_=>dK) (λs _=>by
  unfold nF cJ cr au aK ah al ay bd aH aA bv;dsimp-proj only[aj]
  repeat' first
   |exact bF.nil|refine bF.ite (λ_=>?_) λ_=>?_|refine bF.call λ_ _=>?_
  all_goals exact bF.ret (by first|trivial|rfl)) trivial r b
 refine bF.sum (λx a=>bF.ret λ_=>?_) λx a=>bF.ite (λ_=>bF.ret λh=>rfl) λ_=>bF.ite (λ_=>bF.ret λh=>cO rfl h) λ_=>bF.nil;subst a;exact this
def ayk{p:dV}{i:U}(hi:i+1<Y (X p.2.1 []))(c:i<1000):bF (λe=>e=0→ww (X p.2.1 [])[i+1] (X p.2.1 [])[i]=J W) (wx p ((i+1:U):L)):=by
 have a:aby a7 (((i+1:U):L)-1)=((i:U):L):=by rw[cf]<;>omega
 have b:bF (su (λz:L=>z≠0) λ_=>dK) (bR (za p ((i+1:U):L)) 0):=bF.loop (I:=λ_=>dK) (λs _=>by
  unfold za bJ aM ah al ay aH aA;dsimp-proj only[aj]
  repeat' first
   |exact bF.nil|refine bF.ite (λ_=>?_) λ_=>?_
  all_goals exact bF.ret (by first|trivial|exact(by decide:(5:L)≠0))) trivial
 unfold wx aX cJ aM cr aK ah al bd;dsimp-proj only[aj];rw[a,cW hi,cW (show i<_ by omega)]
 repeat' first
  |exact bF.nil|refine bF.ite (λ_=>?_) λ_=>?_|refine bF.call λ_ _=>?_|refine bF.sum (λ_ _=>?_) λ_ _=>?_
 all_goals refine bF.ret λh=>?_
 all_goals first
  |(exfalso;revert h;decide)|(subst h;have:=b _ ‹bR _ _=J _›;simp_all [su];done)|(simp_all;done)|(simp_all;omega)
def eL(d:Dc)(u:L):M ao:=(H (X d.2 []) (G u) (I,[],[])).2.2
def sz(fmt:L)(raw:M ao)(s:sa):L:=ag (iN fmt (X s.2.2.2.2.2.1 [])).1-(jm fmt raw s.2.2.2.1.2-jm fmt raw s.2.2.2.1.1)
def ayl{fmt:L}{segs:M sa}{c:L→L}(l:M U):(iz (Y (l.map λi=>(bP segs i).2.2.2.1))).map (Cd fmt (l.map λi=>(bP segs i).2.2.2.2.2.1) (l.map λi=>(bP segs i).2.2.2.1) c)=l.map λi=>ag (iN fmt (X (bP segs i).2.2.2.2.2.1 [])).1-(c (bP segs i).2.2.2.1.2-c (bP segs i).2.2.2.1.1):=by apply List.ext_getElem;simp;simp_all [Cd,lN]
def Wk{segs:M sa}(hn:Y segs≤512)(f:∀s∈segs,bm (X s.2.2.2.2.2.1 [])≤67108864){keep:U→az}{num:L}:∀(us:M L)(d a:Dc),adF us→(∀u∈us,0≤u)→NO d→jX (ji segs keep num) (λi=>(bP segs i).2.2.2.1) (λi=>(bP segs i).2.2.2.2.2.1) us d=J (a,0)→(Y (dO (X a.2 [])):L)=Y (dO (X d.2 []))+(us.map λu=>((ji segs keep num u).map λi=>sz d.1 (eL d u) (bP segs i)).sum).sum
 |[],d,a,_,_,_,h=>by cases h;simp
 |u::us,d,a,h1,h2,h3,h=>by
  rw[wW]at h1;have g:Y (ji segs keep num u)≤Y segs:=by grind [ji]
  unfold jX at h;rw[eU,List.sum_cons];split at h;rename_i b;rw[b,Wk hn f us d a h1.2 (λv hv=>h2 v (i7 _ hv)) h3 h];simp
  ·let⟨d1,e,_,j,l⟩:=VL (d:=d) (by have:=h3.1;omega) (by have:=h3.2;omega) u (rs:=J ((ji segs keep num u).map λi=>(bP segs i).2.2.2.1)) (ts:=J ((ji segs keep num u).map λi=>(bP segs i).2.2.2.2.2.1)) (by simp;omega) (by simp;omega) (λt m=>by
     grind [ji,bP])
   rw[j]at h
   simp only[]at h
   by_cases b:e=0
   rotate_left
   grind
   subst b
   rw[aF rfl]at h
   obtain⟨x,n,o,k,q,S,rfl,p,c,r⟩:=l rfl
   have y:eL d (k:L)=q.2.2:=by unfold eL;grind
   rw[Wk hn f us d1 a h1.2 (λv hv=>h2 v (i7 _ hv)) ⟨by rw[n];exact h3.1,o⟩ h]
   have w:Y (dO ((X d.2 []).set k (q.1,q.2.1,S)))+Y q.2.2=Y (dO (X d.2 []))+Y S:=agq p
   rw[←c]at w
   simp only[fL,ayl]at r
   have z:(us.map λv=>((ji segs keep num v).map λi=>sz d1.1 (eL d1 v) (bP segs i)).sum)=us.map λv=>((ji segs keep num v).map λi=>sz d.1 (eL d v) (bP segs i)).sum:=List.map_congr_left λv hv=>by grind [eL]
   grind [sz]
def sA(a b:eE):Prop:=a.2.1<b.2.1∨(a.2.1=b.2.1∧(a.2.2.1<b.2.2.1∨(a.2.2.1=b.2.2.1∧a.2.2.2.1.2≤b.2.2.2.1.1)))
def aym{p:dV}(hp:lO p)(h:gx p=0){i:U}(hi:i+1<Y (X p.2.1 [])):sA ((X p.2.1 [])[i]) (X p.2.1 [])[i+1]:=by
 have a:=(ka hp).2.2 h;have b:=a.ns;let⟨e,_,h2,_⟩:=ag4 hp a.bY a.nx hi;have c:e=0:=by grind [oE,wD,NL,gx,NM,Hb]
 have d:=ayk hi (by omega) _ h2 c;unfold ww ah at d;unfold sA;grind
def Wl{p:dV}(hp:lO p)(h:gx p=0){i:U}:∀j(a:i<j)(b:j<Y (X p.2.1 [])),sA ((X p.2.1 [])[i]) (X p.2.1 [])[j]|j+1,a,b=>by have hn:=aym hp h b;by_cases c:i=j;subst c;exact hn;have d:=Wl (i:=i) hp h j (by omega) (by omega);let⟨_,_,_,_,_,_,h1,_⟩:=((ka hp).2.2 h).sg _ (eF (show j<Y (X p.2.1 []) by omega));unfold sA at *;omega
def ahn{α a:Type}{o:Q α}{x:α}{g:α→a}(h:(aq o λr=>J r)=J x):(aq o λr=>J (g r))=J (g x):=by
 cases o with
 |none=>cases h
 |some y=>cases h;rfl
def ayn{fmt:L}(a:fJ fmt){o:Q (M aN)}(b:bm (X o [])≤67108864):Mp fmt o=J (iN fmt (X o [])).1:=by have:=af7 a b;unfold FK ah at this;unfold Mp ah;rcases a with rfl|rfl|rfl<;>exact ahn (g:=Prod.fst) this
def ayo{fmt:L}(b:fJ fmt){raw:M ao}(c:Y raw≤67108864):∃f a at' e,gW fmt raw=J (f,a,at',e)∧F9 fmt raw=J a∧Nt raw (f,a,at',e)∧(e≠0→f=O)∧∀x:L,jm fmt raw x=H (X a []) (G x) 0:=by let⟨f,a,at',e,h1,_,h3,d⟩:=VB b c;refine⟨f,a,at',e,h1,?_,d,ayj _ h1,λx=>?_⟩;unfold BO ah at h3;unfold F9 ah;rcases b with rfl|rfl|rfl<;>exact ahn (g:=Prod.fst) h3;unfold jm;rw[h1];rfl
def ayp{d:Dc}(hd:mW d){k:U}(b:k∈gZ (X d.2 []) (Y (X d.2 []))){f:Q (M aN)}{c:Q (M L)}{a e:L}(h:gW d.1 (eL d k)=J (f,c,a,e)):jO d k=f:=by let⟨hk,g⟩:=zA _ _ _ b;unfold jO mf rX cJ aM au ah al;rw[(uf d.1).2 hd.1];unfold eL at h;grind [aG,dv]
structure wQ(segs:List eE)(n:Nat)(D:Dc)(k:Nat)(cu:Option (List Int)):Prop where
 eq:∀x:Int,jm D.1 (eL D k) x=H (X cu []) (G x) 0
 raw:Y (eL D k)≤65536
 rg:∀s∈segs,s.2.1=(n:Int)→s.2.2.1=(k:Int)→0≤s.2.2.2.1.1∧s.2.2.2.1.1<s.2.2.2.1.2∧s.2.2.2.1.2<ag (X cu [])∧jB (X s.2.2.2.2.2.1 [])=0∧
  ∀x y:Int,0≤x→x≤y→y<ag (X cu [])→0≤jm D.1 (eL D k) x∧jm D.1 (eL D k) x≤jm D.1 (eL D k) y∧jm D.1 (eL D k) y≤Y (eL D k)
theorem NS{p:dV}(hp:lO p)(h:gx p=0){n:U}(hn:n<Y (X p.1 [])){k:U}(hk:k∈gZ (X (X p.1 [])[n].2 []) (Y (X (X p.1 [])[n].2 []))):∃f cu a e,gW (X p.1 [])[n].1 (eL (X p.1 [])[n] k)=J (f,cu,a,e)∧F9 (X p.1 [])[n].1 (eL (X p.1 [])[n] k)=J cu∧wQ (X p.2.1 []) n (X p.1 [])[n] k cu:=by
 have g:=(ka hp).2.2 h;have hd:=g.bY _ (eF hn);have i:=(zA _ _ _ hk).1;have c:Y (eL (X p.1 [])[n] k)≤65536:=by unfold eL;rw[fq,iH i];have:=Cb (eF i);have:=hd.2.2;omega
 let⟨f,cu,a,e,h1,h2,h3,E,o⟩:=ayo hd.1 (show(Y (eL (X p.1 [])[n] k))≤67108864 by omega);refine⟨f,cu,a,e,h1,h2,o,c,λs q F r=>?_⟩;have t:=ayp hd hk h1;let⟨k',d,G,H,_,u,v,w,z,_⟩:=g.sg s q;have:k'=n:=by omega
 subst this;have j:d=(X p.1 [])[k']:=by grind
 subst j;rw[r,fq,t]at w;have l:e=0:=Decidable.by_contra λl=>by grind [cx]
 let⟨t1,cs,c1,m,A,B⟩:=h3 l;simp only[]at t1 c1 m;have K:ag (X cu [])=cx (X f [])+1:=by simp_all
 refine⟨u,v,by omega,z,λx y N C hy=>?_⟩;have D:ld [] [] cs (eL (X p.1 [])[k'] k) (X f []):=⟨by simp,rfl,rfl,c,t1,m,A,B,by simp⟩;have:=D.cut (a:=x.toNat) (b:=y.toNat) (by omega) (by omega);grind
abbrev iy:=L×L×L
def qT(D:Dc)(k:U)(s:eE):L:=if s.2.2.2.2.1=3 then sz D.1 (eL D k) s else 0
def wR(D:Dc)(k:U)(x:M iy×L)(s:eE):M iy×L:=(x.1++[(s.1,x.2+jm D.1 (eL D k) s.2.2.2.1.1,x.2+jm D.1 (eL D k) s.2.2.2.1.2+qT D k s)],x.2+qT D k s)
def zG(n k:U)(s:eE):az:=decide (s.2.1=(n:L)∧s.2.2.1=(k:L))
def eb(segs:M eE)(n:U)(D:Dc)(k:U)(x:M iy×L)(i:U):M iy×L:=((segs.take i).filter (zG n k)).foldl (wR D k) x
def Hm{segs:M eE}{n:U}{D:Dc}{k:U}{x:M iy×L}{i:U}(hi:i<Y segs):eb segs n D k x (i+1)=if segs[i].2.1=(n:L)∧segs[i].2.2.1=(k:L)then wR D k (eb segs n D k x i) segs[i]else eb segs n D k x i:=by grind [eb,iP,zG]
theorem wQ.w{segs:M eE}{n:U}{D:Dc}{k:U}{cu:Q (M L)}(h:wQ segs n D k cu){s:eE}(b:s∈segs)(h1:s.2.1=(n:L))(h2:s.2.2.1=(k:L)):0≤jm D.1 (eL D k) s.2.2.2.1.1∧jm D.1 (eL D k) s.2.2.2.1.1≤jm D.1 (eL D k) s.2.2.2.1.2∧jm D.1 (eL D k) s.2.2.2.1.2≤Y (eL D k)∧bm (X s.2.2.2.2.2.1 [])≤34304∧Y (iN D.1 (X s.2.2.2.2.2.1 [])).1≤39424:=by let⟨c,d,e,a,f⟩:=h.rg s b h1 h2;let⟨g,i,j⟩:=f _ _ c (Int.le_of_lt d) e;refine⟨g,i,j,(sy a).1,?_⟩;unfold iN;rw[aF a];split;simp;exact(sy a).2 _
theorem Ck{segs:M eE}{n:U}{D:Dc}{k:U}{cu:Q (M L)}(h:wQ segs n D k cu)(x:M iy×L):∀i,i≤Y segs→Y (eb segs n D k x i).1≤Y x.1+i∧ -(104960*i:L)≤(eb segs n D k x i).2-x.2∧(eb segs n D k x i).2-x.2≤104960*i|0,_=>by simp[eb]|i+1,hi=>by have c:=Ck h x i (by omega);rw[Hm (by omega)];split;rename_i a;have b:=eF (show i<Y segs by omega);have d:=h.w b a.1 a.2;grind [wQ.raw,wR,qT,sz,dv];omega
def ayq{p:dV}(hn:(p.2.1.getD []).length≤512){n:U}{D:Dc}(e:(p.1.getD []).getD n (0,O)=D)(g:fJ D.1){k:U}{f:Q (M aN)}{cu:Q (M L)}{r:L×L}(h:wQ (p.2.1.getD []) n D k cu){x:M iy×L}(h1:x.1.length≤1000000000)(h2: -1000000000000000≤x.2)(h3:x.2≤1000000000000000):bR (Hh p n (aT x.1,x.2,(k:L)) (f,cu,r)) (aT x.1,0,0)=J (aT (eb (p.2.1.getD []) n D k x (p.2.1.getD []).length).1,(eb (p.2.1.getD []) n D k x (p.2.1.getD []).length).2-x.2):=by
 have j:((aT x.1,0,0):Q (M iy)×L×L)=(aT (eb (p.2.1.getD []) n D k x 0).1,(eb (p.2.1.getD []) n D k x 0).2-x.2,((0:U):L)):=by simp[eb]
 rw[j];refine eS (f:=Hh p n (aT x.1,x.2,(k:L)) (f,cu,r)) (p.2.1.getD []).length (λi=>(aT (eb (p.2.1.getD []) n D k x i).1,(eb (p.2.1.getD []) n D k x i).2-x.2,(i:L))) (λi hi=>?_) ?_ (cM (cA (by omega)));have l:=di (i:=i) (by omega);let⟨B,C,G⟩:=Ck h x i (by omega);rw[Hm hi];have b:=eF hi;unfold Hh bJ cJ aM au ah al ay bd aH aA bv;dsimp-proj only[aj];simp only[];rw[dQ hi,aF (dA hi),cW hi,l];generalize H:(p.2.1.getD [])[i]=s at *;by_cases a:s.2.1=(n:L)∧s.2.2.1=(k:L);let⟨K,N,P,_⟩:=h.rg s b a.1 a.2;let⟨R,S,V,X,Y⟩:=h.w b a.1 a.2;have c:=h.raw;rw[aF a];have c1:(s.2.1 !=(n:L)||s.2.2.1 !=(k:L))=I:=by simp[a]
 have m:decide (0≤s.2.2.2.1.2∧s.2.2.2.1.2<ag (cu.getD []))=W:=by grind
 have o:decide (0≤s.2.2.2.1.1∧s.2.2.2.1.1<ag (cu.getD []))=W:=by grind
 rw[c1,m,o];simp only[bL,ch,bI,zN,cw,←h.eq,fq,e];rw[VH g (by omega)];simp only[aG];unfold wR qT sz;rw[←Gz,cw];generalize jm D.1 (eL D k) s.2.2.2.1.1=F at *;generalize jm D.1 (eL D k) s.2.2.2.1.2=T at *;generalize iN D.1 (s.2.2.2.2.2.1.getD [])=E at *;have q:(decide (0+(eb (p.2.1.getD []) n D k x i).1.length=(eb (p.2.1.getD []) n D k x i).1.length)&&(decide ((eb (p.2.1.getD []) n D k x i).1.length+1≤68719476736)&&(aT (eb (p.2.1.getD []) n D k x i).1).isSome==(aT (eb (p.2.1.getD []) n D k x i).1).isSome))=W:=by simp;omega
 rw[q];generalize eb (p.2.1.getD []) n D k x i=y at *;have t:aby a7 (x.2+F)=x.2+F:=eh (by omega);have u:aby a7 (x.2+F+(y.2-x.2))=y.2+F:=by rw[eh (by omega)];omega
 have v:aby a7 (T-F)=T-F:=eh (by omega);rw[t,u,v];by_cases h3:s.2.2.2.2.1=3;rw[aF h3,h3];have d:aby a7 (y.2+F+ag E.1)=y.2+T+(ag E.1-(T-F)):=by rw[dv,eh (by omega)];omega
 have z:aby a7 (ag E.1-(T-F))=ag E.1-(T-F):=by rw[dv];exact eh (by omega)
 have A:aby a7 (y.2-x.2+(ag E.1-(T-F)))=y.2+(ag E.1-(T-F))-x.2:=by rw[dv,eh (by omega)];omega
 rw[d,z,A];rfl;rw[aV h3];have d:aby a7 (y.2+F+(T-F))=y.2+T+0:=by rw[eh (by omega)];omega
 grind;grind;unfold Hh bJ cJ aM au ah al ay bd aH aA bv;dsimp-proj only[aj];simp_all
def aho(P:U→Prop)[DecidablePred P]:∀N:U,(∀i j,i<j→j<N→P j→P i)→∃b,b≤N∧(∀i,i<b→P i)∧∀i,b≤i→i<N→¬P i|0,_=>⟨0,dR _,λi h=>by omega,λi _ h=>by omega⟩|N+1,h=>by let⟨b,h1,h2,h3⟩:=aho P N λi j a b=>h i j a (by omega);by_cases c:P N;refine⟨N+1,dR _,λi hi=>?_,λi a b=>by omega⟩;grind;refine⟨b,by omega,h2,λi a hi=>?_⟩;grind
def NT{segs:M eE}{n:U}{D:Dc}{k:U}{x:M iy×L}{a:U}:∀j,a+j≤Y segs→(∀i(h:i<Y segs),a≤i→i<a+j→¬(segs[i].2.1=(n:L)∧segs[i].2.2.1=(k:L)))→eb segs n D k x (a+j)=eb segs n D k x a|0,_,_=>rfl|j+1,b,h=>by rw[←Nat.add_assoc,Hm (show a+j<Y segs by omega),aV (h _ (by omega) (by omega) (by omega)),NT j (by omega) λi h1 h2 h3=>h i h1 h2 (by omega)]
structure Cut(segs:List eE)(n k a:Nat):Prop where
 le:a≤Y segs
 lo:∀i(h:i<Y segs),i<a→segs[i].2.1<(n:Int)∨(segs[i].2.1=(n:Int)∧segs[i].2.2.1<(k:Int))
 hi:∀i(h:i<Y segs),a≤i→segs[i].2.1=(n:Int)→(k:Int)≤segs[i].2.2.1
def ahp{segs:M eE}(g:∀i j(c:i<j)(d:j<Y segs),sA (segs[i]) segs[j]){n k a:U}(h:Cut segs n k a):∃b,a≤b∧Cut segs n (k+1) b∧(∀i(h:i<Y segs),i<b→segs[i].2.1<(n:L)∨(segs[i].2.1=(n:L)∧segs[i].2.2.1≤(k:L)))∧∀i(h:i<Y segs),b≤i→(n:L)<segs[i].2.1∨(segs[i].2.1=(n:L)∧(k:L)<segs[i].2.2.1):=by
 let⟨b,h1,h2,h3⟩:=aho (λi=>(bP segs i).2.1<(n:L)∨((bP segs i).2.1=(n:L)∧(bP segs i).2.2.1≤(k:L))) (Y segs) (λi j c d l=>by have:=g i j c d;unfold bP at *;rw[iH d]at l;rw[iH (show i<Y segs by omega)];unfold sA at this;omega);have m:∀i(h:i<Y segs),i<b→segs[i].2.1<(n:L)∨(segs[i].2.1=(n:L)∧segs[i].2.2.1≤(k:L)):=λi hi e=>by grind [bP]
 have f:∀i(h:i<Y segs),b≤i→(n:L)<segs[i].2.1∨(segs[i].2.1=(n:L)∧(k:L)<segs[i].2.2.1):=λi hi e=>by grind [bP]
 refine⟨b,?_,⟨h1,λi hi e=>?_,λi hi e p=>?_⟩,m,f⟩;apply Decidable.by_contra;intro o;have:=f b (by have:=h.le;omega) (dR _);have:=h.lo b (by have:=h.le;omega) (by omega);omega;grind;grind
def ayr{p:dV}(hn:(p.2.1.getD []).length≤512)(r:∀i j(A:i<j)(B:j<(p.2.1.getD []).length),sA ((p.2.1.getD [])[i]) (p.2.1.getD [])[j]){n:U}{D:Dc}(C:(p.1.getD []).getD n (0,O)=D)(G:fJ D.1){k a:U}(l:Cut (p.2.1.getD []) n k a){cu:Q (M L)}(h:wQ (p.2.1.getD []) n D k cu){x:M iy×L}(h1:x.1.length≤1000000000)(h2: -1000000000000000≤x.2)(h3:x.2≤1000000000000000)(d:Q (M iy))(e g:L):∃b,Cut (p.2.1.getD []) n (k+1) b∧bR (y7 n (0,W,fP p) (d,e,g,(k:L)) cu) (aT x.1,x.2,(a:L))=J (aT (eb (p.2.1.getD []) n D k x (p.2.1.getD []).length).1,(eb (p.2.1.getD []) n D k x (p.2.1.getD []).length).2,(b:L)):=by
 let⟨b,H,t,K,hH⟩:=ahp r l;refine⟨b,t,?_⟩;have N:=t.le;have P:eb (p.2.1.getD []) n D k x a=x:=by have:=NT (segs:=p.2.1.getD []) (n:=n) (D:=D) (k:=k) (x:=x) (a:=0) a (by omega) (λi h _ hi=>by have:=l.lo i h (by omega);omega);simp_all [eb]
 have R:eb (p.2.1.getD []) n D k x (p.2.1.getD []).length=eb (p.2.1.getD []) n D k x b:=by have:=NT (segs:=p.2.1.getD []) (n:=n) (D:=D) (k:=k) (x:=x) (a:=b) ((p.2.1.getD []).length-b) (by omega) (λi h hi _=>by grind);grind
 rw[R,show((aT x.1,x.2,(a:L)):Q (M iy)×L×L)=(aT (eb (p.2.1.getD []) n D k x (a+0)).1,(eb (p.2.1.getD []) n D k x (a+0)).2,((a+0:U):L)) by rw[Nat.add_zero,P]];refine eS (f:=y7 n (0,W,fP p) (d,e,g,(k:L)) cu) (b-a) (λj=>(aT (eb (p.2.1.getD []) n D k x (a+j)).1,(eb (p.2.1.getD []) n D k x (a+j)).2,((a+j:U):L))) (λj B=>?_) ?_ (cM (cA (by omega)));show y7 n (0,W,fP p) (d,e,g,(k:L)) cu (aT (eb (p.2.1.getD []) n D k x (a+j)).1,(eb (p.2.1.getD []) n D k x (a+j)).2,((a+j:U):L))=J (mo (aT (eb (p.2.1.getD []) n D k x (a+j+1)).1,(eb (p.2.1.getD []) n D k x (a+j+1)).2,((a+j+1:U):L)));have m:a+j<b:=by omega
 have o:a≤a+j:=by omega
 generalize a+j=i at *;have hi:i<(p.2.1.getD []).length:=by omega
 have S:=di (i:=i) (by omega);let⟨b1,b2,b3⟩:=Ck h x i (by omega);have V:=K i hi m;have q:=l.hi i hi o;rw[Hm hi];have u:=eF hi;unfold y7 fP bJ aM au aK ah al ay bd aH aA bv;dsimp-proj only[aj];simp only[cw];rw[dQ hi,aF (dA hi),cW hi,S];generalize r:(p.2.1.getD [])[i]=s at *;have c0:(decide (s.2.1>(n:L))||s.2.1==(n:L)&&decide (s.2.2.1>(k:L)))=I:=by simp;omega
 rw[c0];by_cases c:s.2.1=(n:L);have c:s.2.1=(n:L)∧s.2.2.1=(k:L):=⟨c,by have:=q c;omega⟩;let⟨r1,r2,r3,_⟩:=h.rg s u c.1 c.2;let⟨q1,q2,q3,q4,q5⟩:=h.w u c.1 c.2;have v:=h.raw;rw[aF c];have c1:decide (s.2.1<(n:L))=I:=by simp;omega
 have X:decide (0≤s.2.2.2.1.2∧s.2.2.2.1.2<ag (cu.getD []))=W:=by grind
 have Y:decide (0≤s.2.2.2.1.1∧s.2.2.2.1.1<ag (cu.getD []))=W:=by grind
 rw[c1,X,Y];simp only[bL,ch,bI,zN,cw,←h.eq,fq,C];rw[ayn G (by omega)];simp only[aG];unfold wR qT sz;rw[←Gz,cw];generalize jm D.1 (eL D k) s.2.2.2.1.1=F at *;generalize jm D.1 (eL D k) s.2.2.2.1.2=T at *;generalize iN D.1 (s.2.2.2.2.2.1.getD [])=E at *;have Z:(decide (0+(eb (p.2.1.getD []) n D k x i).1.length=(eb (p.2.1.getD []) n D k x i).1.length)&&(decide ((eb (p.2.1.getD []) n D k x i).1.length+1≤68719476736)&&(aT (eb (p.2.1.getD []) n D k x i).1).isSome==(aT (eb (p.2.1.getD []) n D k x i).1).isSome))=W:=by simp;omega
 rw[Z];generalize eb (p.2.1.getD []) n D k x i=y at *;have w1:aby a7 (y.2+F)=y.2+F:=eh (by omega);have w3:aby a7 (T-F)=T-F:=eh (by omega);rw[w1,w3];by_cases h3:s.2.2.2.2.1=3;rw[aF h3,h3];have z:aby a7 (y.2+F+ag E.1)=y.2+T+(ag E.1-(T-F)):=by rw[dv,eh (by omega)];omega
 have w5:aby a7 (y.2+T+(ag E.1-(T-F))-(y.2+F))=ag E.1:=by grind [dv,cf]
 have w6:aby a7 (ag E.1-(T-F))=ag E.1-(T-F):=by rw[dv];exact eh (by omega)
 have w7:aby a7 (y.2+(ag E.1-(T-F)))=y.2+(ag E.1-(T-F)):=by rw[dv];exact eh (by omega)
 rw[z,w5,w6,w7];rfl;rw[aV h3];have z:aby a7 (y.2+F+(T-F))=y.2+T+0:=by rw[eh (by omega)];omega
 grind;grind;show y7 n (0,W,fP p) (d,e,g,(k:L)) cu (aT (eb (p.2.1.getD []) n D k x (a+(b-a))).1,(eb (p.2.1.getD []) n D k x (a+(b-a))).2,((a+(b-a):U):L))=_;rw[show a+(b-a)=b by omega];unfold y7 fP bJ aM au aK ah al ay bd aH aA bv;dsimp-proj only[aj];simp_all
def ays{p:dV}(hn:Y (X p.2.1 [])≤512)(q:∀i j(r:i<j)(t:j<Y (X p.2.1 [])),sA ((X p.2.1 [])[i]) (X p.2.1 [])[j]){n k a:Nat}(m:Cut (X p.2.1 []) n k a)(h:∀s∈X p.2.1 [],¬(s.2.1=(n:L)∧s.2.2.1=(k:L)))(x:Q (M iy)×L)(c:Q (M iy))(d e:L):∃b,Cut (X p.2.1 []) n (k+1) b∧bR (y8 n (0,W,fP p) (c,d,e,(k:L))) (x.1,x.2,(a:L))=J (x.1,x.2,(b:L)):=by
 let⟨b,u,o,v,B⟩:=ahp q m;refine⟨b,o,?_⟩;have w:=o.le;refine eS (f:=y8 n (0,W,fP p) (c,d,e,(k:L))) (b-a) (λj=>(x.1,x.2,((a+j:Nat):L))) (λj t=>?_) ?_ (Nat.lt_of_succ_lt (cA (by omega)));show y8 n (0,W,fP p) (c,d,e,(k:L)) (x.1,x.2,((a+j:Nat):L))=J (mo (x.1,x.2,((a+j+1:Nat):L)));have g:a+j<b:=by omega
 have l:a≤a+j:=by omega
 generalize a+j=i at *;have hi:i<Y (X p.2.1 []):=by omega
 have y:=di (i:=i) (by omega);have z:=v i hi g;have A:=m.hi i hi l;have C:=h _ (eF hi);unfold y8 fP bJ aM cr ah al ay aH aA;dsimp-proj only[aj];simp only[cw];rw[dQ hi,aF (dA hi),cW hi,y];grind;show y8 n (0,W,fP p) (c,d,e,(k:L)) (x.1,x.2,((a+(b-a):Nat):L))=_;rw[show a+(b-a)=b by omega];unfold y8 fP bJ aM cr ah al ay aH aA;dsimp-proj only[aj];simp_all
def fT(segs:M eE)(n:Nat)(D:Dc):Nat→M iy×L|0=>([],0)|k+1=>((eb segs n D k (fT segs n D k) (Y segs)).1,(eb segs n D k (fT segs n D k) (Y segs)).2+ag (eL D k))
section
variable{p:dV}(hp:lO p)(h:gx p=0){n:Nat}(hn:n<Y (X p.1 [])){k:Nat}
include hp h hn
def Wm(hk:k ∉ gZ (X (X p.1 [])[n].2 []) (Y (X (X p.1 [])[n].2 []))):∀s∈X p.2.1 [],¬(s.2.1=(n:L)∧s.2.2.1=(k:L)):=λs a⟨b,c⟩=>by let⟨k',d,e,f,g,_⟩:=((ka hp).2.2 h).sg s a;grind [zB]
theorem NU(hk:k ∉ gZ (X (X p.1 [])[n].2 []) (Y (X (X p.1 [])[n].2 [])))(x:M iy×L):eb (X p.2.1 []) n (X p.1 [])[n] k x (Y (X p.2.1 []))=x:=by have:=NT (segs:=X p.2.1 []) (n:=n) (D:=(X p.1 [])[n]) (k:=k) (x:=x) (a:=0) (Y (X p.2.1 [])) (by omega) (λi hi _ _=>Wm hp h hn hk _ (eF hi));simp_all [eb]
def Wn(hk:k<Y (X (X p.1 [])[n].2 [])):Y (eL (X p.1 [])[n] k)≤65536:=by have hd:=((ka hp).2.2 h).bY _ (eF hn);unfold eL;rw[fq,iH hk];have:=Cb (eF hk);have:=hd.2.2;omega
def NV:∀k,k≤Y (X (X p.1 [])[n].2 [])→Y (fT (X p.2.1 []) n (X p.1 [])[n] k).1≤512*k∧ -(53805056*k:L)≤(fT (X p.2.1 []) n (X p.1 [])[n] k).2∧(fT (X p.2.1 []) n (X p.1 [])[n] k).2≤53805056*k|0,_=>by simp[fT]|k+1,hk=>by have b:=NV k (by omega);have c:=Wn hp h hn (k:=k) (by omega);have a:=((ka hp).2.2 h).ns;grind [fT,dv,gZ,NS,Ck,NU]
def ayt:bR (Hj p n) (O,0,0)=J (aT (fT (X p.2.1 []) n (X p.1 [])[n] (Y (X (X p.1 [])[n].2 []))).1):=by
 have b:=(ka hp).2.2 h;have hd:=b.bY _ (eF hn);have m:=hd.2.1;refine eS (f:=Hj p n) (Y (X (X p.1 [])[n].2 [])) (λk=>(aT (fT (X p.2.1 []) n (X p.1 [])[n] k).1,(fT (X p.2.1 []) n (X p.1 [])[n] k).2,(k:L))) (λk hk=>?_) ?_ (Nat.lt_of_succ_lt (cA (by omega)));have o:=di (i:=k) (by omega);have s:=NV hp h hn k (by omega);have t:=Wn hp h hn hk;have c:((X (X p.1 [])[n].2 [])[k]).2.2=eL (X p.1 [])[n] k:=by unfold eL;grind
 unfold Hj bJ aX aM ah al ay bd aH aA;dsimp-proj only[aj];simp only[];rw[cW hn,dQ hk,aF (dA hk),cW hk,o,c];by_cases g:k∈gZ (X (X p.1 [])[n].2 []) (Y (X (X p.1 [])[n].2 []));have j:=(zA _ _ _ g).2;rw[iH hk]at j;let⟨f,cu,a,e,q,_,l⟩:=NS hp h hn g;have r:=Ck l (fT (X p.2.1 []) n (X p.1 [])[n] k) _ (Nat.le_refl _);have d:=b.ns;rw[aF j,q,aG,ayq d (iH hn) hd.1 l (by omega) (by omega) (by omega),aG];grind [fT.eq_2,dv,cf];grind [gZ,fT.eq_2,NU,dv,cf];unfold Hj bJ aX aM ah al ay bd aH aA;dsimp-proj only[aj];simp_all
def ayu:bR (Ga n (0,W,fP p)) (O,0,0,0)=J (aT (fT (X p.2.1 []) n (X p.1 [])[n] (Y (X (X p.1 [])[n].2 []))).1):=by
 have g:=(ka hp).2.2 h;have hd:=g.bY _ (eF hn);have A:=hd.2.1;have m:=g.ns;have o:=λi j(u:i<j)(B:j<Y (X p.2.1 []))=>Wl (i:=i) hp h j u B;suffices F:∃r,bR (Ga n (0,W,fP p)) (O,0,0,0)=J r∧r=aT (fT (X p.2.1 []) n (X p.1 [])[n] (Y (X (X p.1 [])[n].2 []))).1 by grind
 refine gs (f:=Ga n (0,W,fP p)) (λy=>∃k a:Nat,k≤Y (X (X p.1 [])[n].2 [])∧Cut (X p.2.1 []) n k a∧y=(aT (fT (X p.2.1 []) n (X p.1 [])[n] k).1,(fT (X p.2.1 []) n (X p.1 [])[n] k).2,(a:L),(k:L))) (λy=>Y (X (X p.1 [])[n].2 [])-y.2.2.2.toNat) (λr=>r=aT (fT (X p.2.1 []) n (X p.1 [])[n] (Y (X (X p.1 [])[n].2 []))).1) (λy hy=>?_) (O,0,0,0) ⟨0,0,Nat.zero_le _,⟨Nat.zero_le _,λi _ h=>by omega,λi hi _ _=>?_⟩,rfl⟩ (Nat.lt_of_succ_lt (cA (by simp;omega)));obtain⟨k,a,hk,w,rfl⟩:=hy;have v:∀hk:k<Y (X (X p.1 [])[n].2 []),((X (X p.1 [])[n].2 [])[k]).2.2=eL (X p.1 [])[n] k:=λhk=>by unfold eL;grind
 unfold Ga bJ aX aM ah al ay bd aH aA;dsimp-proj only[aj];simp only[fP,cw];rw[cW hn];by_cases c:k<Y (X (X p.1 [])[n].2 []);have C:=di (i:=k) (by omega);have G:=NV hp h hn k (by omega);have H:=Wn hp h hn c;rw[dQ c,aF (dA c),cW c,C,v c];by_cases q:k∈gZ (X (X p.1 [])[n].2 []) (Y (X (X p.1 [])[n].2 []));have s:=(zA _ _ _ q).2;rw[iH c]at s;let⟨f,cu,K,e,_,D,z⟩:=NS hp h hn q;have E:=Ck z (fT (X p.2.1 []) n (X p.1 [])[n] k) _ (Nat.le_refl _);let⟨b,l,t⟩:=ayr m o (iH hn) hd.1 w z (x:=fT (X p.2.1 []) n (X p.1 [])[n] k) (by omega) (by omega) (by omega) (aT (fT (X p.2.1 []) n (X p.1 [])[n] k).1) (fT (X p.2.1 []) n (X p.1 [])[n] k).2 (a:L);unfold fP at t;rw[aF s,D,aG,t,aG];refine⟨⟨k+1,b,c,l,?_⟩,by simp;omega⟩;grind [fT.eq_2,dv,cf];have s:((X (X p.1 [])[n].2 [])[k]).1≠W:=λs=>q (by simp_all [gZ]);let⟨b,l,t⟩:=ays m o w (Wm hp h hn q) (aT (fT (X p.2.1 []) n (X p.1 [])[n] k).1,(fT (X p.2.1 []) n (X p.1 [])[n] k).2) (aT (fT (X p.2.1 []) n (X p.1 [])[n] k).1) (fT (X p.2.1 []) n (X p.1 [])[n] k).2 (a:L);unfold fP at t;rw[aV s,t,aG];refine⟨⟨k+1,b,c,l,?_⟩,by simp;omega⟩;rw[fT,NU hp h hn q];grind [dv,cf];obtain rfl:k=Y (X (X p.1 [])[n].2 []):=by omega
 rw[gb];let⟨k',d,_,_,N,_⟩:=g.sg _ (eF hi);grind [zB]
end
def Hn(l:M iy):L:=l.foldl (λ_ y=>y.2.2) 0
def pQ(l:M iy)(m:L):Prop:=Hn l≤m∧∀j(h:j<Y l),Hn (l.take j)≤l[j].2.1∧l[j].2.1≤l[j].2.2∧l[j].2.2≤m
def ahq(l:M iy)(y:iy):Hn (l++[y])=y.2.2:=by simp[Hn]
theorem pQ.mono{l:M iy}{m m':L}(h:pQ l m)(hm:m≤m'):pQ l m':=⟨Int.le_trans h.1 hm,λj a=>by have:=h.2 j a;omega⟩
def pQ.snoc{l:M iy}{m m':L}{y:iy}(h:pQ l m)(h1:m≤y.2.1)(h2:y.2.1≤y.2.2)(h3:y.2.2≤m'):pQ (l++[y]) m':=by have b:=h.1;refine⟨by rw[ahq];exact h3,λj c=>?_⟩;by_cases a:j<Y l;have:=h.2 j a;grind;grind
def ahr{segs:M eE}(g:∀i j(d:i<j)(c:j<Y segs),sA (segs[i]) segs[j]){n:Nat}{D:Dc}{k:Nat}{cu:Q (M L)}(h:wQ segs n D k cu){x:M iy×L}(hx:pQ x.1 x.2):∀i,i≤Y segs→∃C:L,0≤C∧C≤Y (eL D k)∧pQ (eb segs n D k x i).1 ((eb segs n D k x i).2+C)∧∀j(c:j<Y segs),i≤j→segs[j].2.1=(n:L)→segs[j].2.2.1=(k:L)→C≤jm D.1 (eL D k) segs[j].2.2.2.1.1
 |0,_=>⟨0,Int.le_refl _,by omega,by simpa[eb]using hx,λj c _ e f=>(h.w (eF c) e f).1⟩|i+1,hi=>by
  let⟨C,c1,s,m,o⟩:=ahr g h hx i (by omega);have b:i<Y segs:=by omega
  rw[Hm b];by_cases a:segs[i].2.1=(n:L)∧segs[i].2.2.1=(k:L);rw[aF a];have l:=eF b;let⟨t,u,p,v,y⟩:=h.w l a.1 a.2;have z:=o i b (Nat.le_refl _) a.1 a.2;let⟨A,B,E,_,q⟩:=h.rg _ l a.1 a.2;refine⟨jm D.1 (eL D k) segs[i].2.2.2.1.2,by omega,p,?_,λj c d e f=>?_⟩;unfold wR;refine m.snoc (by simp only[];omega) ?_ (by simp only[];omega);simp only[qT,sz,dv];split<;>omega;have r:=g i j (by omega) c;let⟨F,G,H,_⟩:=h.rg _ (eF c) e f;unfold sA at r;exact(q _ _ (by omega) (by omega) (by omega)).2.1;grind
def ahs(D:Dc)(k:Nat):∀(l:M eE)(x:M iy×L),(l.foldl (wR D k) x).2=x.2+(l.map (qT D k)).sum|[],x=>by simp|s::l,x=>by rw[List.foldl_cons,ahs D k l,eU,List.sum_cons];grind [wR]
def Ho(segs:M eE)(n:Nat)(D:Dc)(k:Nat):L:=((segs.filter (zG n k)).map (qT D k)).sum
def NW(segs:M eE)(i:Nat):az:=decide ((bP segs i).2.2.2.2.1=3)
def aht(segs:M eE)(n:Nat)(D:Dc)(k:Nat):∀i,i≤Y segs→((pP segs (NW segs) n k i).map λi=>sz D.1 (eL D k) (bP segs i)).sum=(((segs.take i).filter (zG n k)).map (qT D k)).sum
 |0,_=>by simp[pP]|i+1,hi=>by
  have a:i<Y segs:=by omega
  rw[ahd,mj,Cv,aht segs n D k i (by omega),iP a,List.filter_append,mj,Cv];grind [bP,NW,zG,qT]
def ahu(segs:M eE)(n:Nat)(D:Dc):∀k,k≤Y (X D.2 [])→(fT segs n D k).2=Y (dO ((X D.2 []).take k))+((iz k).map (Ho segs n D)).sum
 |0,_=>by simp[fT,dO]|k+1,hk=>by
  have a:k<Y (X D.2 []):=by omega
  have c:eL D k=((X D.2 [])[k]).2.2:=by unfold eL;grind
  have b:dO ((X D.2 []).take (k+1))=dO ((X D.2 []).take k)++eL D k:=by grind [dO,iP]
  unfold fT;simp only[];unfold eb;rw[ur,ahs,ahu segs n D k (by omega),xc,mj,Cv,b,lg,show((segs.filter (zG n k)).map (qT D k)).sum=Ho segs n D k from rfl,dv];grind
section
variable{p:dV}(hp:lO p)(h:gx p=0){n:Nat}(hn:n<Y (X p.1 []))
include hp h hn
def ahv:∀k,k≤Y (X (X p.1 [])[n].2 [])→pQ (fT (X p.2.1 []) n (X p.1 [])[n] k).1 (fT (X p.2.1 []) n (X p.1 [])[n] k).2
 |0,_=>⟨Int.le_refl _,λj b=>by cases b⟩
 |k+1,hk=>by have g:=ahv k (by omega);have c:=λi j(d:i<j)(b:j<Y (X p.2.1 []))=>Wl (i:=i) hp h j d b;unfold fT;rw[dv];by_cases l:k∈gZ (X (X p.1 [])[n].2 []) (Y (X (X p.1 [])[n].2 []));let⟨f,cu,a,e,_,_,m⟩:=NS hp h hn l;let⟨C,_,q,o,_⟩:=ahr c m g _ (Nat.le_refl _);exact o.mono (by simp only[];omega);rw[NU hp h hn l];exact g.mono (by simp only[];omega)
def ahw:∀k,k≤Y (X (X p.1 [])[n].2 [])→((gZ (X (X p.1 [])[n].2 []) k).map (Ho (X p.2.1 []) n (X p.1 [])[n])).sum=((iz k).map (Ho (X p.2.1 []) n (X p.1 [])[n])).sum|0,_=>rfl|k+1,hk=>by rw[afZ,xc,mj,mj,Cv,Cv,ahw k (by omega)];congr 1;split;rfl;rename_i a;have:=Wm hp h hn (k:=k) λb=>a (zA _ _ _ b).2;grind [zG,List.filter_eq_nil_iff,Ho]
end
def Wo(b:M ao):pQ [] (Y b):=⟨Int.natCast_nonneg _,λj a=>by cases a⟩
def ayv{p:dV}(hp:lO p)(num:L):∃(l:M iy)(e:L)(b:M ao)(r:L),y9 p num=J (aT l,e)∧NQ p num=J (aT l,e)∧tO p num=J (b,r)∧pQ l b.length∧l.length≤1000000000:=by
 let⟨w,x,y⟩:=V3 (preview:=I) (num:=num) (keep:=NW (p.2.1.getD [])) hp (ka hp).2.2 (λi hi _=>ahc hi);let⟨z,A,B⟩:=He hp num;let⟨b,r,m,t⟩:=V4 hp num;have c:=t;unfold zD ah at c;unfold y9 NQ aX cJ au ah al;rw[t,aG];by_cases h:gx p=0;rotate_left;rw[w h,aG,aF (by simpa using h)]at c;cases c;rw[z h,aG];exact⟨[],gx p,_,_,by simp[h];rfl,by simp[h];rfl,m,Wo _,fV _⟩;by_cases hn:num<0∨((p.1.getD []).length:L)≤num;rw[x h hn,aG,aF (by simp)]at c;cases c;rw[A h hn,aG];exact⟨[],6,_,_,rfl,rfl,m,Wo _,fV _⟩;let⟨v,e,C,D,E,N⟩:=y h (by omega) (by omega);have F:sd num (fP p)=J (v,e):=by unfold sd fP;simp only[cw];exact D
 obtain⟨n,rfl⟩:=nW (show 0≤num by omega);have a:n<(p.1.getD []).length:=by omega
 rw[C,aG]at c;rw[B h hn,aG,aF rfl,aV (by simp),F,aG];by_cases f:e=0;rotate_left;rw[aF (by simpa using f)]at c;cases c;exact⟨[],e,_,_,by rw[aF (by simpa using f)];rfl,by rw[aF (by simpa using f)];rfl,m,Wo _,fV _⟩;subst f;have d:=(ka hp).2.2 h;have o:=d.ns;have hd:=d.bY _ (eF a);have G:=hd.2.1;let⟨P,R⟩:=E rfl;rw[aV (by simp)]at c;simp only[]at c;rw[GH (by omega) (by omega),aG]at c;cases c;have q:decide (0≤(n:L)∧(n:L)<ag (p.1.getD []))=W:=by simp;omega
 have g:decide (0≤(n:L)∧(n:L)<ag ((fP p).1.getD []))=W:=by unfold fP;simp_all
 rw[aV (by simp),aF g,aV (by simp),aF q,ayu hp h a,ayt hp h a,aG];have S:=NV hp h a _ (dR _);refine⟨(fT (p.2.1.getD []) n (p.1.getD [])[n] ((p.1.getD [])[n].2.getD []).length).1,0,_,_,by simp,by simp,m,(ahv hp h a _ (dR _)).mono (Int.le_of_eq ?_),by omega⟩;have j:jX (ji (p.2.1.getD []) (NW (p.2.1.getD [])) n) (λi=>(bP (p.2.1.getD []) i).2.2.2.1) (λi=>(bP (p.2.1.getD []) i).2.2.2.2.2.1) ((gZ ((p.1.getD [])[n].2.getD []) ((p.1.getD [])[n].2.getD []).length).map fW) (p.1.getD [])[n]=J (v,0):=by grind [y5,cw,Ca]
 rw[Wk o (λs H=>by let⟨_,_,_,_,_,_,_,_,hv,_⟩:=d.sg s H;have:=(sy hv).1;omega) _ _ _ (Hu.2 ((VV _ _).imp λK f=>by grind)) (λu T=>by grind) ⟨hd.2.1,hd.2.2⟩ j];rw[ahu _ _ _ _ (dR _),←ahw hp h a _ (dR _),ur,List.map_map];congr 2;refine List.map_congr_left λk _=>?_;have:=aht (p.2.1.getD []) n (p.1.getD [])[n] k _ (dR _);rw[ur]at this;exact this.symm
def ayw{l:M iy}(a:Y l≤1000000000):E7 (aT l) (aT l)=J W:=by
 have:bR (E6 (aT l) (aT l)) 0=J (.inr ()):=by refine eS (f:=E6 (aT l) (aT l)) (Y l) (λi=>(i:L)) (λi hi=>?_) ?_ (cM (cA (by omega)));have b:=di (i:=i) (by omega);unfold E6 aM au aK ah al ay aH aA;dsimp-proj only[aj];simp_all;unfold E6 aM au aK ah al ay aH aA;dsimp-proj only[aj];simp_all
 unfold E7 aX ah al;rw[this];simp
def ayx{l:M iy}{b:M ao}{e a:L}(h:pQ l (Y b))(d:Y l≤1000000000):bR (Hk (aT l,e) (b,a)) (0,0)=J (.inr ()):=by refine eS (f:=Hk (aT l,e) (b,a)) (Y l) (λi=>(Hn (l.take i),(i:L))) (λi hi=>?_) ?_ (cM (cA (by omega)));have c:=di (i:=i) (by omega);let⟨h1,h2,h3⟩:=h.2 i hi;unfold Hk bJ aM ah al ay aH aA;dsimp-proj only[aj];simp only[cw];rw[dQ hi,aF (dA hi),cW hi,c,iP hi,ahq,aV (by simp;omega)];unfold Hk bJ aM ah al ay aH aA;dsimp-proj only[aj];simp only[cw];rw[gb]
theorem ayy{p:dV}(hp:gi p)(a:L):bR (NR a p) 0=J (.inr ()):=by refine eS (f:=NR a p) 4 (λi=>(i:L)) (λi hi=>?_) ?_ (cM (cA (by omega)));let⟨l,e,b,g,h1,h2,h3,d,c⟩:=ayv hp.b (H [a,(0:L),1,2] (0+i) 0);unfold NR aX au aK ah ay aH aA;dsimp-proj only[aj];rw[aF (by rw[eY];show(i:L)<4;omega),aF (by rw[ck,eY];refine⟨⟨by omega,by show(i:L)<4;omega⟩,?_⟩;unfold bT;rw[iJ];simp;omega)];rw[fq,h1,aG,h2,aG,aV (by simp),ayw c,aG,aV (by simp),h3,aG,ayx d c,aG,pz,eh (by omega)];rfl;rfl
def ayz(l:Q (M L))(a:L):Hl l a=J W:=by
 unfold Hl aX ah;let⟨b,c⟩:=V6 l;rw[c,aG];cases b with|true=>rw[aF rfl,Hf];rfl|false=>rw[aV (by simp)];let⟨p,h1,hp⟩:=V7 l;grind [aG,ayy,dc,Hf]
end Go.Fd
