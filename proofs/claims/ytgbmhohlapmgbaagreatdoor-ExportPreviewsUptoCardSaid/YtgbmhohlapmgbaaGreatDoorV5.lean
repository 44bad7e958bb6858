/- The statement ExportPreviewsUptoCardSaid of the given program is proved here: for every input whose bulk is at most the bound of its row, the law returns true and changes nothing. Part 5 of 7. -/
import Derived.Test.YtgbmhohlapmgbaaGreatDoorV4
set_option linter.unusedVariables false
set_option linter.unusedSimpArgs false
set_option linter.unusedSectionVars false
set_option linter.constructorNameAsVariable false
set_option linter.defProp false
open Bool renaming and_eq_true->bG,and_self->aaQ,false->I,false_eq_true->bh,not_true->jg,or_eq_true->pw,true->W,true_and->r8
open Classical renaming byContradiction->awB
open Go.IntKind renaming i64->aO
open Go.Lib renaming decDigits->x9
open Go.Op renaming bytesLess->lY
open Int renaming eq_ofNat_of_zero_le->oq,ofNat->eP,toNat_natCast->eE
open List renaming all_eq_true->fO,count_le_length->aeX,drop_eq_getElem_cons->uY,flatMap_append->uW,getElem?_eq_some_iff->gi,getElem_mem->fk,getElem_of_mem->yb,length_append->lr,length_filter_le->Fv,length_map->jf,length_mergeSort->awz,map_append->px,map_cons->dO,mem_append->l5,mem_cons->iA,mem_map->kH,mem_of_getElem?->eA,mem_singleton->ng,nodup_cons->xV,pairwise_append->Ff,pairwise_cons->Az,pairwise_map->LO,perm_iff_count->awA,range->hY,range_succ->aaN,replicate->dk,takeWhile_append_dropWhile->aeW,takeWhile_cons->Fy,take_succ_eq_append_getElem->iz
open List.Pairwise renaming nil->awy
open List.Perm renaming refl->awC
open Nat renaming ble_eq->gG,le_refl->dD,lt_of_succ_lt->cb,zero_add->uP,zero_le->fm
open Option renaming getD_some->eB,isSome_some->Fo,map->eQ,none->O,some->J
open _root_ renaming Bool->ao,Int->M,List->L,Nat->U,Option->Q,True->cZ,UInt8->ai,absurd->bX,bne_self_eq_false->qI,decide_eq_false->ia,decide_eq_true->iM,decide_eq_true_eq->eh,if_false->bC,if_neg->aK,if_pos->ax,if_true->bf
namespace Go.Fd
open Go Go.Vs Go.Ve Go.PL
def xI{σ ρ a:Type}{F:σ→Option (σ⊕ρ⊕a)}(n:Nat)(st:Nat→σ)(bad:Nat→Option ρ)(z:a) (step:∀i,i<n→(∀j,j<i→bad j=O)→F (st i)=match bad i with|some r=>J (.inr (.inl r))|none=>J (.inl (st (i+1)))) (stop:(∀j,j<n→bad j=O)→F (st n)=J (.inr (.inr z)))(hn:n<fuel):bA F (st 0)=J (match scan bad 0 n with|some r=>.inl r|none=>.inr z):=by
 have key:∀(k i m:Nat),i+k=n→k<m→(∀j,j<i→bad j=O)→dy F m (st i)=J (match scan bad i k with|some r=>.inl r|none=>.inr z):=by
  intro k;induction k with
  |zero=>intro i m hi c b;obtain⟨m,rfl⟩:∃q,m=q+1:=⟨m-1,by omega⟩;obtain rfl:i=n:=(by omega);unfold dy;rw[stop b];rfl
  |succ k e=>intro i m hi c b;obtain⟨m,rfl⟩:∃q,m=q+1:=⟨m-1,by omega⟩;unfold dy scan;grind
 exact key n 0 fuel (by omega) hn (λj d=>bX d (Nat.not_lt_zero _))
def aut{f:List aC}(h:iu f=0):f.length≤512∧bK f≤1024∧∀i(hi:i<f.length),li (f.take i) f[i]=0:=by grind [iu,xy,Ah]
theorem auu{s:List UInt8}(h:gf s=W):s.length≤24:=by simp_all [gf]
theorem auv{s:List UInt8}(h:mZ s=W):s.length≤64:=by simp_all [mZ]
theorem auw{b:List aC}{x:aC}(h:li b x=0):x.2.1.length+1≤wid x+65∧∀fmt,(encI fmt x).length≤5*wid x+67:=by grind [li,auu,auv,wid,encI,xH]
theorem xJ{f:List aC}(h:iu f=0):tot f≤34304∧∀fmt,(f.flatMap (encI fmt)).length≤39424:=by
 let⟨h1,h2,h3⟩:=aut h;have key:∀k,k≤f.length→tot (f.take k)≤bK (f.take k)+65*k∧∀fmt,((f.take k).flatMap (encI fmt)).length≤5*bK (f.take k)+67*k:=by
  intro k;induction k with|zero=>simp_all [tot]|succ k a=>grind [auw,ER,List.take_succ_eq_append_getElem,tot]
 grind [List.take_length]
section
variable(rs:List (Int×Int))(ts:List (Option (List aC)))(cs:List Nat)(raw:List UInt8)(f:List aC)(fmt:Int)
def eU:Nat→Int|0=>0|i+1=>(rs.getD i (0,0)).2
def na:Nat→Int|0=>0|i+1=>((cs.getD (rs.getD i (0,0)).2.toNat 0:Nat):Int)
def nb(i:Nat):List aC:=(ts.getD i O).getD []
def sS:Nat→List UInt8|0=>[]|i+1=>sS i++(aV (na rs cs i) ((cs.getD (rs.getD i (0,0)).1.toNat 0:Nat):Int) raw++(encS fmt (nb ts i)).1)
def wS:Nat→List aC|0=>[]|i+1=>nrm (nrm (wS i++((fL f (eU rs i) (rs.getD i (0,0)).1).1.getD []))++nb ts i)
def Am(i:Nat):ao:=decide (eU rs i≤(rs.getD i (0,0)).1∧(rs.getD i (0,0)).1≤(rs.getD i (0,0)).2∧(rs.getD i (0,0)).2≤bK f)
def xK:ao:= !(List.range rs.length).any λi=> !Am rs f i
end
def kg{α:Type}{l:List α}{i:Nat}{d:α}(h:i<l.length):l.getD i d=l[i]:=by grind
theorem Lu(rs:List (Int×Int))(i:Nat):eU rs (i+1)=(rs.getD i (0,0)).2:=rfl
def aux{o:Option (List (Int×Int))}(a:(o.getD []).length≤1073741824)(f:List aC):JO o (bK f:Int)=J (xK (o.getD []) f):=by
 unfold JO aM;have:=uK (F:=JN o (bK f:Int)) (o.getD []).length (λi=>(eU (o.getD []) i,(i:Int))) (λi=> !Am (o.getD []) f i) I () (λi hi=>by
  have b:=cI (i:=i) (by omega)
  unfold JN bq aF ag aj aq ay au;dsimp-proj only[ah]
  simp only[]
  rw[dq hi,ax (cS hi)]
  grind [Am,eU]) (by
  unfold JN bq aF ag aj aq ay au;dsimp-proj only[ah]
  simp_all) (Nat.lt_of_succ_lt (bT (by omega)))
 rw[show((0,0):Int×Int)=(eU (o.getD []) 0,((0:Nat):Int))from rfl,this,aw];unfold xK;split;rename_i h;rw[h];rfl;simp_all
def auy{o:Option (List (Int×Int))}(a:(o.getD []).length≤1073741824){g:Option (List aC)}(b:tot (g.getD [])≤1073741824)(e:Int):bA (De o (g,e)) (0,0)=J (if xK (o.getD []) (g.getD [])=W then .inr ()else .inl (1,0,O)):=by
 have:=uK (F:=De o (g,e)) (o.getD []).length (λi=>(eU (o.getD []) i,(i:Int))) (λi=> !Am (o.getD []) (g.getD []) i) (1,0,O) () (λi hi=>by
  have c:=cI (i:=i) (by omega)
  unfold De bq aF aB aj aq ay au;dsimp-proj only[ah]
  simp only[]
  rw[dq hi,ax (cS hi)]
  unfold Am
  grind [aw,qz,eU]) (by
  unfold De bq aF aB aj aq ay au;dsimp-proj only[ah]
  simp_all) (Nat.lt_of_succ_lt (bT (by omega)))
 grind [eU,xK]
structure kG(rs:List (Int×Int))(ts:List (Option (List aC)))(cs:List Nat)(raw:List UInt8)(f:List aC):Prop where
 n1:rs.length≤1024
 n2:ts.length=rs.length
 asc:xK rs f=true
 rw':raw.length≤65536
 tt:tot f≤2*raw.length
 len:cs.length=bK f+1
 up:cs.Pairwise (·≤ ·)
 le:∀c∈cs,c≤raw.length
 tg:∀t∈ts,tot (t.getD [])≤67108864
section
variable{rs:List (Int×Int)}{ts:List (Option (List aC))}{cs:List Nat}{raw:List UInt8}{f:List aC}
def kG.ok(h:kG rs ts cs raw f){i:Nat}(hi:i<rs.length):eU rs i≤(rs[i]).1∧(rs[i]).1≤(rs[i]).2∧(rs[i]).2≤bK f:=by have:=h.asc;simp_all [xK,Am]
def kG.la(h:kG rs ts cs raw f):∀i,i≤rs.length→∃k:Nat,eU rs i=(k:Int)∧k≤bK f|0,_=>⟨0,rfl,Nat.zero_le _⟩|i+1,hi=>by let⟨k,h1,h2⟩:=kG.la h i (by omega);have:=h.ok (i:=i) (by omega);rw[Lu,kg (show i<rs.length by omega)];exact⟨(rs[i].2).toNat,by omega,by omega⟩
def kG.cut(h:kG rs ts cs raw f){a b:Nat}(c:a≤b)(e:b≤bK f):cs.getD a 0≤cs.getD b 0∧cs.getD b 0≤raw.length:=by
 have g:=h.len;rw[kg (show a<cs.length by omega),kg (show b<cs.length by omega)];refine⟨?_,h.le _ (List.getElem_mem _)⟩;rcases Nat.eq_or_lt_of_le c with rfl|d
 exact Nat.le_refl _;exact(List.pairwise_iff_getElem.1 h.up) a b (by omega) (by omega) d
def kG.at'(h:kG rs ts cs raw f):∀i,i≤rs.length→∃a k:Nat,na rs cs i=(a:Int)∧eU rs i=(k:Int)∧k≤bK f∧a≤cs.getD k 0∧a≤raw.length|0,_=>⟨0,0,rfl,rfl,Nat.zero_le _,Nat.zero_le _,Nat.zero_le _⟩|i+1,hi=>by let⟨k,h1,h2⟩:=h.la (i+1) hi;have e:=Lu rs i;rw[h1]at e;refine⟨cs.getD k 0,k,?_,h1,h2,Nat.le_refl _,(h.cut (Nat.le_refl k) h2).2⟩;show((cs.getD (rs.getD i (0,0)).2.toNat 0:Nat):Int)=_;rw[←e];rfl
theorem lV(f:List aC)(a b:Int):tot ((fL f a b).1.getD [])≤tot f:=by grind [fL,tot,bS,acA]
def iw(fmt:Int)(ts:List (Option (List aC)))(i:Nat):Option Int:=if(encS fmt (nb ts i)).2=0 then O else J (encS fmt (nb ts i)).2
def Lv{fmt:Int}{g:List aC}(h:(encS fmt g).2=0):iu g=0∧(encS fmt g).1.length≤39424:=by unfold encS at h ⊢;by_cases hv:iu g=0;rw[ax hv]at h ⊢;refine⟨hv,?_⟩;split;exact Nat.zero_le _;exact(xJ hv).2 fmt;grind
def adA{fmt:Int}{i:Nat}(h:iw fmt ts i=O):(encS fmt (nb ts i)).2=0:=by simp_all [iw]
theorem S4{l:List UInt8}{a b:Nat}(h:a≤b)(c:b≤l.length):(aV (a:Int) (b:Int) l).length=b-a:=by rw[fF];simp;omega
def kG.bounds(h:kG rs ts cs raw f)(fmt:Int):∀i,i≤rs.length→(∀j,j<i→iw fmt ts j=O)→(∃a:Nat,na rs cs i=(a:Int)∧(sS rs ts cs raw fmt i).length≤a+39424*i)∧tot (wS rs ts f i)≤(tot f+34304)*i
 |0,_,_=>⟨⟨0,rfl,Nat.le_refl _⟩,Nat.le_refl _⟩|i+1,hi,g=>by
  have c:i<rs.length:=by omega
  let⟨⟨a,n,r⟩,s⟩:=kG.bounds h fmt i (by omega) λj t=>g j (by omega);let⟨hv,u⟩:=Lv (adA (g i (by omega)));let⟨a',k,o,v,w,x,y⟩:=h.at' i (by omega);let⟨l,k2,m,p,z,A,B⟩:=h.at' (i+1) hi;have C:=h.ok c;rw[n]at o;have:a=a':=by omega
  subst this;refine⟨⟨l,m,?_⟩,?_⟩;let⟨fr,q⟩:=Int.eq_ofNat_of_zero_le (show 0≤rs[i].1 by omega);let⟨to,d⟩:=Int.eq_ofNat_of_zero_le (show 0≤rs[i].2 by omega);have e:k2=to:=by rw[Lu,kg c,d]at p;omega
  subst e;have ea:(l:Int)=((cs.getD k2 0:Nat):Int):=by rw[←m];show((cs.getD (rs.getD i (0,0)).2.toNat 0:Nat):Int)=_;grind
  have c1:=h.cut (a:=k) (b:=fr) (by omega) (by omega);have D:=h.cut (a:=fr) (b:=k2) (by omega) (by omega);grind [sS,S4];grind [tot,nrm,wS,qC,lV,xJ]
end
def adB{cs:List Nat}{k:Nat}:(cs.map Int.ofNat).getD k 0=((cs.getD k 0:Nat):Int):=by grind
def auA{rs:Option (List (Int×Int))}{ts:Option (List (Option (List aC)))}{cs:List Nat}{q:cx}{f:List aC}{d:Dc}{k:Nat}{c:Option (List Int)}{e:Int}(h:kG (rs.getD []) (ts.getD []) cs q.2.2 f)(z:eO d.1)(N:(d.2.getD [])[k]?=J q)(v:c.getD []=cs.map Int.ofNat):bA (DY d (k:Int) rs ts (c,e)) ([],0,0)=J (match scan (iw d.1 (ts.getD [])) 0 (rs.getD []).length with|some r=>.inl (r,0,O)|none=>.inr (sS (rs.getD []) (ts.getD []) cs q.2.2 d.1 (rs.getD []).length,na (rs.getD []) cs (rs.getD []).length)):=by
 have A:=h.n1;have w:=h.rw';have m:(d.2.getD []).getD ((k:Int)).toNat (I,[],[])=q:=by grind
 have:=xI (F:=DY d (k:Int) rs ts (c,e)) (rs.getD []).length (λi=>(sS (rs.getD []) (ts.getD []) cs q.2.2 d.1 i,na (rs.getD []) cs i,(i:Int))) (λi=>(iw d.1 (ts.getD []) i).map λr=>(r,(0:Int),(O:Option (List cx)))) (sS (rs.getD []) (ts.getD []) cs q.2.2 d.1 (rs.getD []).length,na (rs.getD []) cs (rs.getD []).length) (λi hi B=>by
  have n:∀j,j<i→iw d.1 (ts.getD []) j=O:=λj C=>by simpa using B j C
  have hit:i<(ts.getD []).length:=by rw[h.n2];exact hi
  let⟨⟨a,x,P⟩,_⟩:=h.bounds d.1 i (by omega) n
  let⟨a',D,E,R,S,T,V⟩:=h.at' i (by omega)
  have X:=h.ok hi
  rw[x]at E
  obtain rfl:a=a':=by omega
  have G:=cI (i:=i) (by omega)
  have o:(ts.getD [])[i].getD []=nb (ts.getD []) i:=by unfold nb;rw[kg hit]
  have y:=auc z (h.tg _ (List.getElem_mem hit))
  rw[o]at y
  unfold DY bq bY aF al ag aj aq ay au cr;dsimp-proj only[ah]
  simp only[]
  rw[dq hi,ax (cS hi),ax (cS hit)]
  simp only[getD_at hi,getD_at hit,m,G,y,aw]
  by_cases p:(encS d.1 (nb (ts.getD []) i)).2=0
  have s:iw d.1 (ts.getD []) i=O:=by unfold iw;rw[ax p]
  let⟨_,H⟩:=Lv p
  rw[s,aK (by simp[p])]
  let⟨fr,t⟩:=Int.eq_ofNat_of_zero_le (show 0≤(rs.getD [])[i].1 by omega)
  let⟨to,u⟩:=Int.eq_ofNat_of_zero_le (show 0≤(rs.getD [])[i].2 by omega)
  have c1:=h.cut (a:=D) (b:=fr) (by omega) (by omega)
  have Y:=h.cut (a:=fr) (b:=to) (by omega) (by omega)
  have K:(c.getD []).length=bK f+1:=by rw[v,List.length_map,h.len]
  have g:=S4 (l:=q.2.2) (a:=a) (b:=cs.getD fr 0) (by omega) (by omega)
  rw[t,u,x]
  simp only[Int.toNat_natCast,v,adB]
  rw[ax (by
   simp only[bG,eh,dp,List.length_append,g,List.length_map,h.len]
   omega)]
  simp_all [sS,na]
  grind [iw]) (λ_=>by
  unfold DY bq bY aF al ag aj aq ay au cr;dsimp-proj only[ah]
  simp_all) (Nat.lt_of_succ_lt (bT (by omega)))
 rw[show(([],0,0):List UInt8×Int×Int)=(sS (rs.getD []) (ts.getD []) cs q.2.2 d.1 0,na (rs.getD []) cs 0,((0:Nat):Int))from rfl,this];have Z:∀k i,scan (λi=>(iw d.1 (ts.getD []) i).map λr=>(r,(0:Int),(O:Option (List cx)))) i k=(scan (iw d.1 (ts.getD [])) i k).map λr=>(r,(0:Int),(O:Option (List cx))):=by
  intro k;induction k with
  |zero=>intro i;rfl
  |succ k ih=>grind [scan]
 grind
def E5{ρ a:Type}(b:U→Q ρ)(g:ρ→a):∀k i,scan (λi=>(b i).map g) i k=(scan b i k).map g
 |0,i=>rfl|k+1,i=>by
  unfold scan;cases b i with|some r=>rfl|none=>exact E5 b g k (i+1)
def auB{rs:Q (L (M×M))}{ts:Q (L (Q (L aC)))}{cs:L U}{q:cx}{g:Q (L aC)}{d:Dc}{k:U}{A:Q (L aC)}{c:Q (L M)}{e m B:M}(h:kG (rs.getD []) (ts.getD []) cs q.2.2 (g.getD []))(H:eO d.1)(hq:(d.2.getD [])[k]?=J q)(C:c.getD []=cs.map eP):
  bA (Df d (k:M) rs ts (g,e) (A,c,m,B)) (0,[],0,O,0)=J (match scan (iw d.1 (ts.getD [])) 0 (rs.getD []).length with|some r=>.inl (r,0,O)|none=>.inr (eU (rs.getD []) (rs.getD []).length,sS (rs.getD []) (ts.getD []) cs q.2.2 d.1 (rs.getD []).length,na (rs.getD []) cs (rs.getD []).length,aL (wS (rs.getD []) (ts.getD []) (g.getD []) (rs.getD []).length))):=by
 have K:=h.n1
 have D:=h.rw'
 have N:=h.tt
 have p:(d.2.getD []).getD ((k:M)).toNat (I,[],[])=q:=by grind
 have:=xI (F:=Df d (k:M) rs ts (g,e) (A,c,m,B)) (rs.getD []).length (λi=>(eU (rs.getD []) i,sS (rs.getD []) (ts.getD []) cs q.2.2 d.1 i,na (rs.getD []) cs i,aL (wS (rs.getD []) (ts.getD []) (g.getD []) i),(i:M))) (λi=>(iw d.1 (ts.getD []) i).map λr=>(r,(0:M),(O:Q (L cx))))
  (eU (rs.getD []) (rs.getD []).length,sS (rs.getD []) (ts.getD []) cs q.2.2 d.1 (rs.getD []).length,na (rs.getD []) cs (rs.getD []).length,aL (wS (rs.getD []) (ts.getD []) (g.getD []) (rs.getD []).length)) (λi hi P=>by
  have s:∀j,j<i→iw d.1 (ts.getD []) j=O:=λj R=>by simpa using P j R
  have hit:i<(ts.getD []).length:=by rw[h.n2];exact hi
  obtain⟨⟨a,m,b1⟩,b2⟩:=h.bounds d.1 i (by omega) s
  obtain⟨a',S,T,g2,g3,g4,g5⟩:=h.at' i (by omega)
  have ho:=h.ok hi
  rw[m]at T
  obtain rfl:a=a':=by omega
  have V:=cI (i:=i) (by omega)
  have f:(ts.getD [])[i].getD []=nb (ts.getD []) i:=by unfold nb;rw[kg hit]
  have t:=h.tg _ (fk hit)
  have E:=ade H t
  rw[f]at E
  unfold Df bq bY aF al ag aj aq ay au cr;dsimp-proj only[ah]
  simp only[]
  rw[dq hi,ax (cS hi),ax (cS hit)]
  simp only[getD_at hi,getD_at hit,p,V,E,aw]
  by_cases u:(encS d.1 (nb (ts.getD []) i)).2=0
  ·have v:iw d.1 (ts.getD []) i=O:=by unfold iw;rw[ax u]
   obtain⟨hv,X⟩:=Lv u
   rw[v,aK (by simp[u])]
   obtain⟨fr,w⟩:=oq (show 0≤(rs.getD [])[i].1 by omega)
   obtain⟨to,x⟩:=oq (show 0≤(rs.getD [])[i].2 by omega)
   have c1:=h.cut (a:=S) (b:=fr) (by omega) (by omega)
   have c2:=h.cut (a:=fr) (b:=to) (by omega) (by omega)
   have Y:(c.getD []).length=bK (g.getD [])+1:=by rw[C,jf,h.len]
   have n:=S4 (l:=q.2.2) (a:=a) (b:=cs.getD fr 0) (by omega) (by omega)
   have Z:=lV (g.getD []) (eU (rs.getD []) i) (fr:M)
   have G:(tot (g.getD [])+34304)*i≤(131072+34304)*1024:=Nat.mul_le_mul (by omega) (by omega)
   have y:tot ((aL (wS (rs.getD []) (ts.getD []) (g.getD []) i)).getD [])+tot ((fL (g.getD []) (eU (rs.getD []) i) (fr:M)).1.getD [])≤536870912:=by rw[bS];omega
   have o:=qC (wS (rs.getD []) (ts.getD []) (g.getD []) i++(fL (g.getD []) (eU (rs.getD []) i) (fr:M)).1.getD []) []
   have t0:tot ([]:L aC)=0:=rfl
   have hvs:=(xJ hv).1
   rw[gR]at o
   have z:tot ((aL (nrm (wS (rs.getD []) (ts.getD []) (g.getD []) i++(fL (g.getD []) (eU (rs.getD []) i) (fr:M)).1.getD []))).getD [])+tot ((ts.getD [])[i].getD [])≤536870912:=by
    rw[bS,f];unfold nrm;omega
   rw[w,x,m]
   simp only[eE,C,adB]
   rw[ax (by
    simp only[bG,eh,dp,lr,n,jf,h.len]
    omega),ax (by
    grind [dp]),mY (by omega),aw,lh y,aw,ax (cS hit),bS,lh z,aw,bS,f]
   grind [sS,na,wS,Lu,eE]
  grind [iw]) (λ_=>by
  unfold Df bq bY aF al ag aj aq ay au cr;dsimp-proj only[ah]
  simp_all) (cb (bT (by omega)))
 rw[show((0,[],0,O,0):M×L ai×M×Q (L aC)×M)=(eU (rs.getD []) 0,sS (rs.getD []) (ts.getD []) cs q.2.2 d.1 0,na (rs.getD []) cs 0,aL (wS (rs.getD []) (ts.getD []) (g.getD []) 0),((0:U):M))from rfl,this,E5]
 cases scan (iw d.1 (ts.getD [])) 0 (rs.getD []).length<;>rfl
def auC{rs:Q (L (M×M))}{ts:Q (L (Q (L aC)))}{cs:L U}{raw:L ai}{g:Q (L aC)}{fmt:M}(h:kG (rs.getD []) (ts.getD []) cs raw (g.getD []))(c:∀j,j<(rs.getD []).length→iw fmt (ts.getD []) j=O):JY g rs ts=J (aL (nrm (wS (rs.getD []) (ts.getD []) (g.getD []) (rs.getD []).length++(fL (g.getD []) (eU (rs.getD []) (rs.getD []).length) (bK (g.getD []):M)).1.getD []))):=by
 have l:=h.n1;have k:=h.rw';have m:=h.tt;have a:∀i,i≤(rs.getD []).length→(tot (g.getD [])+34304)*i≤(131072+34304)*1024:=λi hi=>Nat.mul_le_mul (by omega) (by omega);unfold JY aM;have:bA (DT g rs ts) (O,0,0)=J (aL (wS (rs.getD []) (ts.getD []) (g.getD []) (rs.getD []).length),eU (rs.getD []) (rs.getD []).length):=by
  refine ep (f:=DT g rs ts) (rs.getD []).length (λi=>(aL (wS (rs.getD []) (ts.getD []) (g.getD []) i),eU (rs.getD []) i,(i:M))) (λi hi=>?_) ?_ (cb (bT (by omega)));have d:∀j,j<i→iw fmt (ts.getD []) j=O:=λj u=>c j (by omega);have hit:i<(ts.getD []).length:=by rw[h.n2];exact hi
  let⟨_,n⟩:=h.bounds fmt i (by omega) d;let⟨hv,_⟩:=Lv (adA (c i hi));have o:=cI (i:=i) (by omega);have e:(ts.getD [])[i].getD []=nb (ts.getD []) i:=by unfold nb;rw[kg hit]
  have p:=a i (by omega);have q:=lV (g.getD []) (eU (rs.getD []) i) (rs.getD [])[i].1;have r:tot ((aL (wS (rs.getD []) (ts.getD []) (g.getD []) i)).getD [])+tot ((fL (g.getD []) (eU (rs.getD []) i) (rs.getD [])[i].1).1.getD [])≤268435456:=by rw[bS];omega
  have b:=qC (wS (rs.getD []) (ts.getD []) (g.getD []) i++(fL (g.getD []) (eU (rs.getD []) i) (rs.getD [])[i].1).1.getD []) [];have t0:tot ([]:L aC)=0:=rfl;have s:=(xJ hv).1;rw[gR]at b;have t:tot ((aL (nrm (wS (rs.getD []) (ts.getD []) (g.getD []) i++(fL (g.getD []) (eU (rs.getD []) i) (rs.getD [])[i].1).1.getD []))).getD [])+tot ((ts.getD [])[i].getD [])≤268435456:=by rw[bS,e];unfold nrm;omega
  unfold DT bq bY aF aj aq ay au;simp only[];rw[dq hi,ax (cS hi)];simp only[getD_at hi,getD_at hit,o];grind [Lg,aw,ac4,cS,bS,wS,eU];unfold DT bq bY aF aj aq ay au;simp_all
 have p:=a _ (dD _);let⟨_,n⟩:=h.bounds fmt _ (dD _) c;grind [lV,aw,ES,Lg,ac4,bS]
theorem Lw{ρ:Type}{e:U→Q ρ}{k:U}(h:scan e 0 k=O):∀j,j<k→e j=O:=λj a=>(Ah k 0).1 h j (fm _) (by omega)
def auD{P:L cx}{k:U}{q q':cx}(h:P[k]?=J q):(dA (P.set k q')).length+q.2.2.length=(dA P).length+q'.2.2.length:=by grind [uY,List.take_append_drop,List.set_eq_take_append_cons_drop,dA]
def aaf(fmt:M)(raw:L ai)(x:M):M:=(((hO fmt raw).getD (O,O,0,0)).2.1.getD []).getD x.toNat 0
def gwR(fmt:M)(ts:L (Q (L aC)))(rs:L (M×M))(c:M→M)(j:U):M:=af (encS fmt (nb ts j)).1-(c (rs.getD j (0,0)).2-c (rs.getD j (0,0)).1)
def akK{rs:L (M×M)}{ts:L (Q (L aC))}{cs:L U}{raw:L ai}{f:L aC}(h:kG rs ts cs raw f)(fmt:M):∀i,i≤rs.length→((sS rs ts cs raw fmt i).length:M)=na rs cs i+((hY i).map (gwR fmt ts rs λx=>((cs.getD x.toNat 0:U):M))).sum
 |0,_=>rfl|i+1,hi=>by
  have g:=akK h fmt i (by omega);let⟨a,k,j,m,n,o,p⟩:=h.at' i (by omega);let⟨q,r,s⟩:=h.ok (i:=i) (by omega);let⟨x,d⟩:=oq (show 0≤(rs[i]'(by omega)).1 by omega);have l:=h.cut (a:=k) (b:=x) (by omega) (by omega);show(((sS rs ts cs raw fmt i)++(aV (na rs cs i) ((cs.getD (rs.getD i (0,0)).1.toNat 0:U):M) raw++(encS fmt (nb ts i)).1)).length:M)=((cs.getD (rs.getD i (0,0)).2.toNat 0:U):M)+_;rw[aaN,px,List.sum_append];rw[j]at g ⊢;have e:gwR fmt ts rs (λx=>((cs.getD x.toNat 0:U):M)) i=af (encS fmt (nb ts i)).1-(((cs.getD (rs.getD i (0,0)).2.toNat 0:U):M)-(cs.getD x 0:U)):=by unfold gwR;rw[kg (show i<rs.length by omega),d];rfl
  have c:(rs.getD i (0,0)).1.toNat=x:=by rw[kg (show i<rs.length by omega),d,eE]
  rw[dp]at e;simp only[lr,dO,List.map_nil,List.sum_cons,List.sum_nil,e,c];rw[S4 (by omega) l.2];omega
def adC{d:Dc}(h1:(d.2.getD []).length≤1048576)(h2:(dA (d.2.getD [])).length≤1073741824)(part:M){rs:Q (L (M×M))}{ts:Q (L (Q (L aC)))}(hn:(rs.getD []).length≤1024)(hnt:(ts.getD []).length≤1073741824)(ht:∀t∈ts.getD [],tot (t.getD [])≤67108864):∃n e,zK d part rs ts=J (n,e)∧mS d part rs ts=J (n,e)∧(e=0→n.1=d.1∧(n.2.getD []).length=(d.2.getD []).length∧(dA (n.2.getD [])).length≤65536∧∃(k:U)(q:cx)(S:L ai),part=(k:M)∧(d.2.getD [])[k]?=J q∧n.2.getD []=(d.2.getD []).set k (q.1,q.2.1,S)∧(S.length:M)=q.2.2.length+((hY (rs.getD []).length).map (gwR d.1 (ts.getD []) (rs.getD []) (aaf d.1 q.2.2))).sum):=by
 let⟨Z,v1,v2,v3⟩:=ac9 (d:=d) (by omega) h2;unfold zK mS aM bY aF al aB ag aj aR cr;dsimp-proj only[ah];rw[v1,v2];simp only[aw];by_cases i:Z=0;rotate_left;have p:(Z !=0)=W:=by simpa using i
 simp only[p,bf];grind;let⟨A,hpl,hjl⟩:=v3 i;subst i;simp only[show((0:M) !=0)=I from rfl,bh,bC];let⟨g,e,c1,c2,c3⟩:=E1 (d:=d) (λq c=>by have:=Ln c;omega) part;rw[c1,c2];simp only[aw];by_cases B:e=0;rotate_left;have p:(e !=0)=W:=by simpa using B
 simp only[p,bf];grind;have C:=B;subst C;simp only[show((0:M) !=0)=I from rfl,bh,bC];obtain⟨_,k,rfl,q,c,hu,s,at',g1,g2,g3⟩:=c3 B;have hk:k<(d.2.getD []).length:=(gi.1 c).1;have D:q∈d.2.getD []:=eA c;have apV:=Ln D;let⟨g4,cs,z,g6,g7,g8⟩:=g3 rfl;simp only[]at g4 z g6;have E:(d.2.getD []).getD ((k:M)).toNat (I,[],[])=q:=by grind
 have F:(d.2.getD []).getD k (I,[],[])=q:=by grind
 have u:decide ((0:M)≤(k:M)∧(k:M)<af (d.2.getD []))=W:=by simp;omega
 simp only[E,u,bf,g1,g2,aw];by_cases j:(ts.getD []).length=(rs.getD []).length;rotate_left;have G:(af (rs.getD []) !=af (ts.getD []))=W:=by rw[bne_iff_ne];simp;omega
 have H:(af (ts.getD []) !=af (rs.getD []))=W:=by grind
 simp only[G,H,bf];grind;have G:(af (rs.getD []) !=af (ts.getD []))=I:=by simp[j]
 have H:(af (ts.getD []) !=af (rs.getD []))=I:=by simp[j]
 simp only[G,H,bh,bC];rw[auy (by omega) (by omega),ES (by omega)];simp only[aw];rw[aux (by omega)];simp only[aw];simp only[show((0:M) !=0)=I from rfl,bh,bC];cases v:xK (rs.getD []) (g.getD [])with
 |false=>exact⟨((0,O):Dc),(1:M),rfl,rfl,λh=>by cases h⟩
 |true=>
  have o:kG (rs.getD []) (ts.getD []) cs q.2.2 (g.getD []):=⟨hn,j,v,by omega,g4,g6,g7,g8,ht⟩;rw[ax rfl,auB o A c z];simp only[jg,bh,bC,o0,aw];rw[auA o A c z];simp only[aw];cases hs:scan (iw d.1 (ts.getD [])) 0 (rs.getD []).length with
  |some r=>have hr:r≠0:=(by grind [xy,iw]);exact⟨((0,O):Dc),r,rfl,rfl,λh=>bX h hr⟩|none=>
   have hb:=Lw hs;let⟨⟨a,b1,b2⟩,b3⟩:=o.bounds d.1 _ (dD _) hb;let⟨a',k',b4,b5,b6,b7,b8⟩:=o.at' _ (dD _);rw[b1]at b4;obtain rfl:a=a':=(by omega);simp only[o0];rw[b1,show aV (a:M) (af q.2.2) q.2.2=q.2.2.drop a from gE q.2.2 a];have K:(q.2.2.drop a).length=q.2.2.length-a:=(by simp);have hc:(decide ((0:M)≤(a:M)∧(a:M)≤af q.2.2∧af q.2.2≤af q.2.2)&&decide ((sS (rs.getD []) (ts.getD []) cs q.2.2 d.1 (rs.getD []).length).length+(q.2.2.drop a).length≤1152921504606846976))=W:=(by simp only[bG,eh,dp];omega);rw[ax hc,ax hc,qz (by omega),aw];generalize hS:sS (rs.getD []) (ts.getD []) cs q.2.2 d.1 (rs.getD []).length++q.2.2.drop a=S;have hSl:S.length≤40501248:=(by grind);have hm:(tot (g.getD [])+34304)*(rs.getD []).length≤(131072+34304)*1024:=Nat.mul_le_mul (by omega) hn;have hsl:=lV (g.getD []) (eU (rs.getD []) (rs.getD []).length) (bK (g.getD []):M);let⟨f2,cut2,at2,N,q1,q2,_,q4⟩:=ac7 A (raw:=S) (by omega);rw[mY (by omega),aw];rw[lh (by rw[bS];omega),aw,bS,q1,q2,auC o hb];simp only[aw];by_cases m:N=0;rotate_left;have p:(N !=0)=W:=(by simpa using m);simp only[p,bf];grind;have zz:(N !=0)=I:=(by simp[m]);simp only[zz,bh,bC];have P:=qC (wS (rs.getD []) (ts.getD []) (g.getD []) (rs.getD []).length++(fL (g.getD []) (eU (rs.getD []) (rs.getD []).length) (bK (g.getD []):M)).1.getD []) [];have t0:tot ([]:L aC)=0:=rfl;rw[gR]at P;have ayV:tot (nrm (wS (rs.getD []) (ts.getD []) (g.getD []) (rs.getD []).length++(fL (g.getD []) (eU (rs.getD []) (rs.getD []).length) (bK (g.getD []):M)).1.getD []))≤536870912:=(by unfold nrm;omega);have w:(f2.getD []).length≤1073741824:=(by have:tot (f2.getD [])≤2*S.length:=(q4 m).1;grind [dH]);rw[aus (by simp_all),aur (by simp_all),aw,aw,adj w,aue w,aw,aw];simp only[bS];by_cases b:f2.getD []=S2 (nrm (wS (rs.getD []) (ts.getD []) (g.getD []) (rs.getD []).length++(fL (g.getD []) (eU (rs.getD []) (rs.getD []).length) (bK (g.getD []):M)).1.getD []));rotate_left;simp only[ia b,Bool.not_false,bf];grind;simp only[iM b,jg,bh,bC];have hP:d.2=J (d.2.getD []):=by
    cases hd:d.2 with|none=>grind|some l=>rfl
   have R:J4 d.2=J (J (d.2.getD [])):=(by grind [J4]);have y:(dj (d.2.getD [])).getD []=d.2.getD []:=(by cases d.2.getD []<;>rfl);have hset:(dA ((d.2.getD []).set k (q.1,q.2.1,S))).length+q.2.2.length=(dA (d.2.getD [])).length+S.length:=auD (q':=(q.1,q.2.1,S)) c;rw[R,aw,Le (by omega) h2,aw];simp only[eB,uP,eE,F,y,Fo];have T:bw k (d.2.getD []).length=W:=(by unfold bw;rw[gG];exact hk);rw[ax (show((W:ao)==W)=W from rfl)];simp only[u,T,aaQ,bf];rw[Aj (d:=(d.1,J ((d.2.getD []).set k (q.1,q.2.1,S)))) (by simp;omega) (by grind),aw];simp only[eB,dp];have V:aO.wrap (((dA (d.2.getD [])).length:M)-(q.2.2.length:M))=((dA (d.2.getD [])).length:M)-(q.2.2.length:M):=eo (by omega);have X:aO.wrap (((dA (d.2.getD [])).length:M)-(q.2.2.length:M)+(S.length:M))=((dA ((d.2.getD []).set k (q.1,q.2.1,S))).length:M):=(by grind [wrap_i64]);rw[V,X];by_cases f:((dA ((d.2.getD []).set k (q.1,q.2.1,S))).length:M)>65536;simp only[iM f,bf];grind;simp only[ia f,bh,bC];rw[ax (by rw[bG,eh];exact⟨by omega,by simp⟩)];refine⟨_,_,rfl,rfl,λ_=>⟨rfl,by simp,by simp;omega,k,q,S,rfl,c,rfl,?_⟩⟩;have Y:aaf d.1 q.2.2=λx=>((cs.getD x.toNat 0:U):M):=funext λx=>(by unfold aaf;rw[g1];show(s.getD []).getD _ _=_;rw[z,adB]);have:=akK o d.1 _ (dD _);rw[Y,←hS,lr,K];omega
abbrev uL:=Pn×M×ao
abbrev An:=ao×Q (L uL)×Q (L uL)
def auE(a:uL)(b:ai):∃v,wP a (eP b.toNat)=J v:=by unfold wP;have h1:=asg b;have h2:=ash b;have h1:(0:M)≤eP b.toNat:=h1;have h2:eP b.toNat<256:=h2;simp_all
def xL{α:Type}{l:L α}{k:U}(h:k<l.length):bw (0+((k:M)).toNat) l.length=W:=by grind [bw,gG]
def S5{α:Type}{l:L α}{k:U}(h:k<l.length):bw ((k:M)).toNat l.length=W:=by grind [bw,gG]
def auF{p:Q (L uL)}{s:L ai}{a:Q (L ao)}{j:U}(D:s.length≤1048576)(E:(a.getD []).length=s.length+1)(g:j<(p.getD []).length){x:L ao}(hx:x.length=s.length+1):∃r,bA (CD p s (a,(j:M))) (x,0)=J r∧r.length=s.length+1:=by
 refine eY (f:=CD p s (a,(j:M))) (λy=>∃k:U,y.2=(k:M)∧k≤s.length∧y.1.length=s.length+1) (λy=>s.length-y.2.toNat) (λr=>r.length=s.length+1) (λy h=>?_) (x,0) ⟨0,rfl,fm _,hx⟩ (cb (bT (by simp;omega)));let⟨y,i⟩:=y;obtain⟨k,rfl,hk,hy⟩:=h;have hy:y.length=s.length+1:=hy;by_cases d:k<s.length;have m:=cI (i:=k) (by omega);have n1:∃k':U,((k+1:U):M)=(k':M)∧k'≤s.length:=⟨k+1,rfl,d⟩;have c:∀e:L ao,e.length=s.length+1→(∃k':U,((k+1:U):M)=(k':M)∧k'≤s.length∧e.length=s.length+1)∧s.length-(((k+1:U):M)).toNat<s.length-((k:M)).toNat:=λe h=>⟨⟨k+1,rfl,d,h⟩,by omega⟩;let⟨v,hv⟩:=auE ((p.getD []).getD ((j:M)).toNat ((0,0,0,0,0,0,0,0,0,0,0,0,0,0,0,0,0,0,0,0,0,0,0,0,0,0,0,0,0,0,0,0),0,I)) (s.getD ((k:M)).toNat 0);have n:decide ((0:M)≤(k:M)∧(k:M)<af (a.getD []))=W:=cS (by omega);have o:decide ((0:M)≤(j:M)∧(j:M)<af (p.getD []))=W:=cS g;have q:decide ((0:M)≤(k:M)∧(k:M)<af y)=W:=cS (by omega);have t:decide ((0:M)≤((k+1:U):M)∧((k+1:U):M)<af y)=W:=cS (by omega);have u:decide ((0:M)≤(k:M))=W:=by simp
 have w:=xL (l:=a.getD []) (k:=k) (by omega);have A:=S5 (l:=s) (k:=k) d;have B:=xL (l:=y) (k:=k) (by omega);have C:=xL (l:=y) (k:=k+1) (by omega);unfold CD gC bY aF al aB ag bL aj aq ay au ej;dsimp-proj only[ah];simp only[];rw[dq d];simp only[n,o,q,t,u,w,A,B,C,m,hv,bf,aw,aaQ,Bool.or_true];cases(a.getD []).getD (0+((k:M)).toNat) I with|true=>exact c _ (by cases v<;>simp[hy])|false=>simp only[bh,bC];split;rename_i z b;split at b;split at b;cases b;exact c _ (by cases v<;>simp[hy]);grind;grind;rename_i z b;split at b;split at b<;>cases b;cases b;rename_i b;split at b;split at b<;>cases b;cases b
 obtain rfl:k=s.length:=by omega
 simp_all [CD,ah,gC,bY,aF,al,aB,ag,bL,aj,aq,ay,au,ej]
def auG{p:Q (L uL)}{n:U}{a:Q (L ao)}{j:U}(hn:n≤2097152)(s:(a.getD []).length=n)(c:j<(p.getD []).length){x:L ao}(hx:x.length=n):∃r,bA (CF p (a,(j:M)) x) (x,0)=J r∧r.length=n:=by
 refine eY (f:=CF p (a,(j:M)) x) (λy=>∃k:U,y.2=(k:M)∧k≤n∧y.1.length=n) (λy=>n-y.2.toNat) (λr=>r.length=n) (λy h=>?_) (x,0) ⟨0,rfl,fm _,hx⟩ (cb (bT (by simp;omega)));let⟨y,i⟩:=y;obtain⟨k,rfl,hk,hy⟩:=h;have hy:y.length=n:=hy;by_cases b:k<x.length;have d:=cI (i:=k) (by omega);have e:decide ((0:M)≤(k:M)∧(k:M)<af (a.getD []))=W:=cS (by omega);have g:decide ((0:M)≤(j:M)∧(j:M)<af (p.getD []))=W:=cS c;have m:decide ((0:M)≤(k:M)∧(k:M)<af y)=W:=cS (by omega);have o:=xL (l:=a.getD []) (k:=k) (by omega);have q:=xL (l:=y) (k:=k) (by omega);unfold CF aF al aB ag aj aq ay au;dsimp-proj only[ah];simp only[];rw[dq b];simp only[e,g,m,o,q,d,aaQ,r8,ite_self,bf];refine⟨⟨k+1,rfl,by omega,?_⟩,by simp;omega⟩;grind;obtain rfl:k=x.length:=by omega
 simp_all [CF,ah,aF,al,aB,ag,aj,aq,ay,au]
def adD{p:Q (L uL)}{s:L ai}{a:Q (L ao)}(hp:(p.getD []).length≤1048576)(c:s.length≤1048576)(d:(a.getD []).length=s.length+1):∃r,CG p s a=J r∧(r.getD []).length=s.length+1:=by
 unfold CG aM al aj;have e:(dj (a.getD [])).getD []=a.getD []:=by cases a.getD []<;>rfl
 let⟨r,h1,h2⟩:=eY (f:=IF p s) (λy=>∃k:U,y.2=(k:M)∧k≤(p.getD []).length∧(y.1.getD []).length=s.length+1) (λy=>(p.getD []).length-y.2.toNat) (λr=>(r.getD []).length=s.length+1) (λy h=>by
  let⟨y,i⟩:=y
  obtain⟨k,rfl,hk,hy⟩:=h
  have hy:(y.getD []).length=s.length+1:=hy
  by_cases b:k<(p.getD []).length
  have m:=cI (i:=k) (by omega)
  have g:aO.wrap (af s+1)=((s.length+1:U):M):=by grind [dp,wrap_i64]
  let⟨o,q,l⟩:=auF (p:=p) (j:=k) c hy b (x:=dk (s.length+1) I) (by simp)
  let⟨t,u,v⟩:=auG (p:=p) (n:=s.length+1) (j:=k) (by omega) hy b l
  unfold IF aM bJ aB aj aq ay au
  grind [eE,aw]
  obtain rfl:k=(p.getD []).length:=by omega
  simp_all [IF,aM,bJ,aB,aj,aq,ay,au]) (dj (a.getD []),0) ⟨0,rfl,fm _,by rw[e];exact d⟩ (cb (bT (by simp;omega)))
 grind [aw]
def S6{s:L ai}(a:s.length≤1048576):aO.wrap (af s+1)=((s.length+1:U):M):=by grind [dp,wrap_i64]
def auH{p:Q (L uL)}{s:L ai}(hp:(p.getD []).length≤1048576)(c:s.length≤1048576):∃b,II p s=J b:=by
 unfold II aM bY aF bJ aj aq;let⟨r,h1,h2⟩:=eY (f:=Pq s) (λy=>∃k:U,y.2=(k:M)∧k≤s.length+1∧y.1.length=s.length+1) (λy=>s.length+1-y.2.toNat) (λr=>r.length=s.length+1) (λy h=>by
  let⟨y,i⟩:=y
  obtain⟨k,rfl,hk,hy⟩:=h
  have hy:y.length=s.length+1:=hy
  have d:(dk (s.length+1) I).length=s.length+1:=by simp
  unfold Pq al aB aq ay au
  simp only[S6 c,eE]
  by_cases e:k<s.length+1
  have j:=cI (i:=k) (by omega)
  have g:=xL (l:=y) (k:=k) (by omega)
  simp only[eE]at g
  grind [cS]
  grind [af]) (dk (s.length+1) I,0) ⟨0,rfl,fm _,by simp⟩ (cb (bT (by simp;omega)))
 rw[S6 c,ax (by simp;omega),eE,h1,aw];let⟨m,h3,n⟩:=adD hp c (a:=J r) h2;simp_all
def auI{p:Q (L uL)}{s:L ai}(hp:(p.getD []).length≤1048576)(c:s.length≤1048576):∃b,IH p s=J b:=by
 unfold IH Pp Po aM bJ al aq;dsimp-proj only[ah];have e:(dk (s.length+1) I).length=s.length+1:=by simp
 rw[S6 c,ax (by simp;omega),eE,ax (by simp[bw])];simp only[aw];let⟨r,h1,h2⟩:=adD hp c (a:=J ((dk (s.length+1) I).set 0 W)) (by simp);rw[h1,aw];let⟨z,h3,_⟩:=eY (f:=IG r) (λy=>∃k:U,y.2=(k:M)∧k≤s.length+1) (λy=>s.length+1-y.2.toNat) (λr=>cZ) (λy h=>by
  let⟨y,i⟩:=y
  obtain⟨k,rfl,hk⟩:=h
  by_cases d:k<(r.getD []).length
  grind [wrap_i64,IG]
  obtain rfl:k=(r.getD []).length:=by omega
  unfold IG bq aF ag aj aq ay au
  simp_all) (-1,0) ⟨0,rfl,fm _⟩ (cb (bT (by simp;omega)))
 simp_all
def Ao(a:Q (L An)):Prop:=(a.getD []).length≤1048576∧∀r∈a.getD [],(r.2.1.getD []).length≤1048576∧(r.2.2.getD []).length≤1048576
def auJ{a:Q (L An)}(d:Ao a){text:L ai}(q:text.length≤1048576)(at':M):∃b,IK a text at'=J b:=by
 unfold IK aM ag;by_cases t:at'≤0∨at'≥(text.length:M);simp_all;rw[aK (by simp;omega)];obtain⟨n,rfl⟩:=oq (show 0≤at' by omega);let⟨z,h3,_⟩:=eY (f:=IJ a text (n:M)) (λy=>∃k:U,y=(k:M)∧k≤(a.getD []).length) (λy=>(a.getD []).length-y.toNat) (λr=>cZ) (λy h=>by
  obtain⟨k,rfl,hk⟩:=h
  by_cases c:k<(a.getD []).length
  have g:=d.1
  have j:=cI (i:=k) (by omega)
  have e:=d.2 _ (fk c)
  let⟨u,l⟩:=auH (p:=((a.getD [])[k]).2.1) (s:=aV 0 (n:M) text) e.1 (by have:=fF text 0 n;grind)
  let⟨v,m⟩:=auI (p:=((a.getD [])[k]).2.2) (s:=aV (n:M) (af text) text) e.2 (by rw[gE];simp;omega)
  have c1:decide ((0:M)≤0∧(0:M)≤(n:M)∧(n:M)≤af text)=W:=by simp;omega
  have o:decide ((0:M)≤(n:M)∧(n:M)≤af text∧af text≤af text)=W:=by simp;omega
  unfold IJ bq bY aF bJ ag aj aq ay au
  rw[dq c]
  simp only[cS c,c1,o,bf,getD_at c,l,m,aw,j]
  grind
  obtain rfl:k=(a.getD []).length:=by omega
  unfold IJ bq bY aF bJ ag aj aq ay au
  rw[eZ]
  trivial) 0 ⟨0,rfl,fm _⟩ (cb (bT (by have:=d.1;simp;omega)))
 rw[h3,aw];cases z<;>exact⟨_,rfl⟩
def auK{a:Q (L An)}(d:Ao a)(text:L ai):∃r,IM a text=J r∧(r.getD []).length≤1024:=by unfold IM aM al aB;by_cases e:text.length>1024;rw[ax (by grind [dp])];grind;rw[aK (by grind [dp])];let⟨r,h1,h2⟩:=eY (f:=IL a text) (λy=>∃k:U,y.2=(k:M)∧k≤text.length+1∧(y.1.getD []).length≤k∧(k≤text.length∨(y.1.getD []).length≤1)) (λy=>text.length+1-y.2.toNat) (λr=>(r.getD []).length≤1024) (λy h=>by let⟨y,i⟩:=y;obtain⟨k,rfl,hk,hy,c⟩:=h;simp only[]at hy c;by_cases g:k<text.length;have j:=cI (i:=k) (by omega);let⟨b,e⟩:=auJ d (text:=text) (by omega) (k:M);grind [IL,aw];unfold IL al aB ag aj aq ay au aY;simp only[];rw[aK (by simp;omega)];simp only[];omega) (O,1) ⟨1,rfl,by omega,by simp,.inr (by simp)⟩ (cb (bT (by simp;omega)));simp_all
def Lx(x:aC):L ai:=if x.1=1 then x.2.1 else if x.1=5 then[255]else[]
def lj(f:L aC):L ai:=f.flatMap Lx
def Ly:∀f:L aC,(lj f).length≤tot f|[]=>by simp[lj]|x::f=>by have:=Ly f;grind [tot,lj,Lx]
theorem E6{o:Q (L aC)}(c:tot (o.getD [])≤1073741824):tQ o=J (lj (o.getD [])):=by
 unfold tQ aM;have d:=dH (o.getD []);have:bA (Cz o) ([],0)=J (lj (o.getD [])):=by
  rw[show(([],0):L ai×M)=(lj ((o.getD []).take 0),((0:U):M)) by simp[lj]];refine ep (f:=Cz o) (o.getD []).length (λi=>(lj ((o.getD []).take i),(i:M))) (λi hi=>?_) ?_ (cb (bT (by omega)));have a:=cI (i:=i) (by omega);have h1:=Ly ((o.getD []).take i);have h2:=xG (o.getD []) i;have h3:=uI hi;have b:lj ((o.getD []).take (i+1))=lj ((o.getD []).take i)++Lx (o.getD [])[i]:=by unfold lj;rw[iz hi,uW];simp
  unfold Cz aF al aB ag aj aq ay au cr aY;dsimp-proj only[ah];simp only[];rw[dq hi,b];simp only[cS hi,getD_at hi,a,r8];grind [Lx];unfold Cz aF al aB ag aj aq ay au cr aY;dsimp-proj only[ah];simp_all
 rw[this];rfl
def S7(b:M):∃v,wO b=J v:=by
 unfold wO aB ag;dsimp-proj only[ah];repeat' split
 all_goals exact⟨_,rfl⟩
def auL{a b at':U}{x y:aC}(h:y∈uE a b at' x)(hy:y.1=1):0<y.2.1.length:=by grind [uE,wid]
def adE(a b:U):∀(f:L aC)(at':U)(y:aC),y∈gF a b at' f→y.1=1→0<y.2.1.length
 |[],_,y,h,_=>by simp[gF]at h|x::f,at',y,h,hy=>by
  rw[gF]at h;rcases l5.1 h with h|h
  exact auL h hy;exact adE a b f _ y h hy
def adF{f:Q (L aC)}(m:tot (f.getD [])≤536870912){p:M}(hp: -4≤p)(d:p≤1073741824):∃b,wQ f p=J b∧(b=W→0≤p∧p+1≤bK (f.getD [])):=by
 unfold wQ bY al ag aj aq ej;dsimp-proj only[ah];rw[eo (by omega),mY (by omega),aw];unfold fL;by_cases g:p<0∨p+1<p∨p+1>(bK (f.getD []):M);simp_all;rw[aK g];simp only[bf,bS];have h:0≤p∧p+1≤(bK (f.getD []):M):=by omega
 have c:=adE p.toNat (p+1).toNat (f.getD []) 0;generalize gF p.toNat (p+1).toNat 0 (f.getD [])=a at *;match a,c with
 |[],_=>simp_all|[y],c=>
  have e:(af [y]==(1:M))=W:=by simp
  have i:decide ((0:M)≤0∧(0:M)<af [y])=W:=by simp
  rw[e,i];simp only[bf];by_cases h1:y.1=1;have j:=c y (by simp) h1;have k:(([y].getD 0 ((0:M),([]:L ai),(0:M))).1==(1:M))=W:=by simp[h1]
  have l:bw 0 ([y].getD 0 ((0:M),([]:L ai),(0:M))).2.1.length=W:=by unfold bw;rw[gG];exact j
  rw[k,l];simp only[bf];let⟨v,hv⟩:=S7 (eP ((([y].getD 0 ((0:M),([]:L ai),(0:M))).2.1.getD 0 0)).toNat);simp_all;simp_all
 |y::z::a,_=>
  have e:(af (y::z::a)==(1:M))=I:=by simp;omega
  simp_all
def auM{f:Q (L aC)}(c:tot (f.getD [])≤536870912){x:M}(hx: -1≤x)(a:x≤bK (f.getD [])):∃r,bA (IU f) x=J r:=by have d:=pi (f.getD []);let⟨r,h,_⟩:=eY (f:=IU f) (λy=>-1≤y∧y≤bK (f.getD [])) (λy=>((bK (f.getD []):M)+1-y).toNat) (λr=>cZ) (λy hy=>by let⟨b,h1,h2⟩:=adF c (p:=y) (by omega) (by omega);grind [IU,aw,wrap_i64]) x ⟨hx,a⟩ (cb (bT (by omega)));exact⟨r,h⟩
def adG{f:Q (L aC)}(c:tot (f.getD [])≤536870912){x:M}(hx: -1≤x)(a:x≤bK (f.getD [])):∃r,bA (IV f) x=J r:=by have d:=pi (f.getD []);let⟨r,h,_⟩:=eY (f:=IV f) (λy=>-1≤y∧y≤bK (f.getD [])) (λy=>(y+1).toNat) (λr=>cZ) (λy hy=>by have e:aO.wrap (y-1)=y-1:=eo (by omega);let⟨b,h1,h2⟩:=adF c (p:=y-1) (by omega) (by omega);grind [IV,aw]) x ⟨hx,a⟩ (cb (bT (by omega)));exact⟨r,h⟩
def adH{s:L ai}(l:s.length≤1073741824):∃r,Cx s=J r:=by
 unfold Cx aM ag;let⟨r,h1,k,e,hk,b⟩:=eY (f:=IE s) (λy=>∃k:U,y=(k:M)∧k≤s.length) (λy=>s.length-y.toNat) (λr=>∃k:U,r=(k:M)∧k≤s.length∧(k<s.length→wO (eP (s.getD k 0).toNat)≠J 2)) (λy h=>by
  obtain⟨k,rfl,hk⟩:=h
  by_cases a:k<s.length
  have d:=cI (i:=k) (by omega)
  let⟨v,hv⟩:=S7 (eP (s.getD ((k:M)).toNat 0).toNat)
  unfold IE gC aB ag bL aq ay au ej
  rw[dq a,ax (by simp),ax (S5 a),hv,aw]
  grind
  obtain rfl:k=s.length:=by omega
  unfold IE gC aB ag bL aq ay au ej
  rw[eZ]
  grind) 0 ⟨0,rfl,fm _⟩ (cb (bT (by simp;omega)))
 rw[h1,aw];subst e;by_cases m:k=s.length;simp_all;rw[aK (by simp;omega)];have c:k<s.length:=by omega
 let⟨n,h2,_⟩:=eY (f:=Pm s) (λy=>∃j:U,y=(j:M)∧k<j∧j≤s.length) (λy=>y.toNat) (λr=>cZ) (λy h=>by
  obtain⟨j,rfl,o,g⟩:=h
  have d:aO.wrap ((j:M)-1)=((j-1:U):M):=by grind [wrap_i64]
  let⟨v,hv⟩:=S7 (eP (s.getD (((j-1:U):M)).toNat 0).toNat)
  unfold Pm gC ag bL aR ay au ej
  rw[d,ax (by simp),ax (S5 (by omega)),hv,aw]
  grind) (af s) ⟨s.length,by simp,c,dD _⟩ (cb (bT (by simp;omega)))
 simp_all
theorem auN{f:Q (L aC)}(c:tot (f.getD [])≤536870912){k:U}(hk:k≤bK (f.getD [])):∃r,bA (IP f (bK (f.getD []):M)) (k:M)=J r∧ -1≤r∧r≤(bK (f.getD []):M):=by have a:=pi (f.getD []);refine eY (f:=IP f (bK (f.getD []):M)) (λy=>∃j:U,y=(j:M)∧j≤bK (f.getD [])) (λy=>bK (f.getD [])-y.toNat) (λr=>-1≤r∧r≤(bK (f.getD []):M)) (λy h=>?_) (k:M) ⟨k,rfl,hk⟩ (cb (bT (by simp;omega)));obtain⟨j,rfl,d⟩:=h;unfold IP al aB ag aj aq ay au;by_cases b:j<bK (f.getD []);grind [wrap_i64,mY,aw];grind
def auO{f:Q (L aC)}(d:tot (f.getD [])≤536870912)(off:M):∃r,IR f off=J r∧ -1≤r∧r≤bK (f.getD []):=by
 have a:=pi (f.getD []);unfold IR aM aB;by_cases b:off<0;simp_all;rw[aK (by simpa using b),E6 (by omega),aw];by_cases h1:off>((lj (f.getD [])).length:M);simp_all;rw[aK (by simpa using h1),qz (by omega),aw];let⟨r,h2,h3⟩:=eY (f:=IQ f off (bK (f.getD []):M)) (λy=>∃k:U,y=(k:M)∧k≤bK (f.getD [])+1) (λy=>bK (f.getD [])+1-y.toNat) (λr=>match r with|.inl z=>-1≤z∧z≤(bK (f.getD []):M)|.inr _=>cZ) (λy h=>by obtain⟨k,rfl,hk⟩:=h;by_cases c:k≤bK (f.getD []);grind [wrap_i64,lV,auN,IQ,mY,aw,E6];simp_all [IQ,aK,aM,aB,ag,aq,ay,au]) 0 ⟨0,rfl,fm _⟩ (cb (bT (by simp;omega)))
 rw[h2,aw];cases r with|inl z=>exact⟨z,rfl,h3⟩|inr z=>simp_all
def auP{a:Q (L An)}(w:Ao a){f:Q (L aC)}(g:tot (f.getD [])≤536870912):∃r,IX a f=J r∧(r.getD []).length≤1025:=by
 have A:=pi (f.getD []);unfold IX aM al aj aY;rw[E6 (by omega),aw];let⟨br,B,C⟩:=auK w (lj (f.getD []));rw[B,aw,ax (by simp;omega)];have j:(br.getD []++[(-1:M)]).length≤1025:=by simp;omega
 let⟨r,h1,h2⟩:=eY (f:=IW f br) (λy=>∃k:U,y.2.2=(k:M)∧k≤(br.getD []++[(-1:M)]).length∧(y.1.getD []).length≤k∧ -1≤y.2.1∧y.2.1≤bK (f.getD [])) (λy=>(br.getD []++[(-1:M)]).length-y.2.2.toNat) (λr=>(r.getD []).length≤1025) (λy h=>by
  let⟨acc,fr,i⟩:=y
  obtain⟨k,rfl,hk,D,c,d⟩:=h
  simp only[]at D c d
  by_cases b:k<(br.getD []++[(-1:M)]).length
  have E:=cI (i:=k) (by omega)
  have F:(decide ((0:M)≤(k:M)∧(k:M)<af (br.getD []++[(-1:M)]))&&bw (0+((k:M)).toNat) (br.getD []++[(-1:M)]).length)=W:=by rw[cS b,xL b];rfl
  let⟨x,u⟩:=auM g c d
  unfold IW aM al aB aj aq ay au aY;dsimp-proj only[ah]
  simp only[]
  rw[dq b,ax F,qz (by omega),aw,E]
  have e:∀z:M×M,(decide (0+(acc.getD []).length=(acc.getD []).length)&&(decide ((acc.getD []).length+1≤68719476736)&&acc.isSome==acc.isSome))=W:=λz=>by simp;omega
  have e:=e (0,0)
  have l:bA (Zs f) fr=J x:=u
  by_cases v:(br.getD []++[(-1:M)]).getD (0+((k:M)).toNat) 0≥0
  rw[ax (by simpa using v)]
  let⟨to,G,H,K⟩:=auO g ((br.getD []++[(-1:M)]).getD (0+((k:M)).toNat) 0)
  have m:=lV (f.getD []) fr to
  have n:=Ly ((fL (f.getD []) fr to).1.getD [])
  let⟨t,o⟩:=adH (s:=lj ((fL (f.getD []) fr to).1.getD [])) (by omega)
  let⟨z,p⟩:=adG g H K
  rw[G,aw,mY (by omega),aw,E6 (by omega),aw,o,aw,u,p]
  grind [aw]
  rw[aK (by simpa using v)]
  have m:=lV (f.getD []) fr (bK (f.getD []):M)
  have n:=Ly ((fL (f.getD []) fr (bK (f.getD []):M)).1.getD [])
  let⟨t,o⟩:=adH (s:=lj ((fL (f.getD []) fr (bK (f.getD []):M)).1.getD [])) (by omega)
  let⟨z,p⟩:=adG g (x:=(bK (f.getD []):M)) (by omega) (Int.le_refl _)
  have q:bA (Zt f) (bK (f.getD []):M)=J z:=p
  rw[mY (by omega),aw,E6 (by omega),aw,o,aw,l,q]
  grind [aw]
  obtain rfl:k=(br.getD []++[(-1:M)]).length:=by omega
  unfold IW aM al aB aj aq ay au aY;dsimp-proj only[ah]
  simp only[]
  rw[eZ]
  omega) (O,0,0) ⟨0,rfl,fm _,by simp,by simp,by simp⟩ (cb (bT (by simp at j ⊢;omega)))
 simp_all
def LA{α:Type}[DecidableEq α]{F:M→Q (M⊕ao⊕Unit)}{a b:L α}{d:α}(h:a.length≤1073741824) (i:∀s:M,F s=if decide (s<af a)=W then(if(decide ((0:M)≤s∧s<af a)&&decide ((0:M)≤s∧s<af b))=W then(if(!decide (a.getD s.toNat d=b.getD s.toNat d))=W then J (.inr (.inl I))else J (.inl (aO.wrap (s+1))))else O)else J (.inr (.inr ()))):(if(af a !=af b)=W then J I else ak (bA F 0) λr1=>cC r1 (λc=>J c) λ_=>J W)=J (decide (a=b)):=by
 by_cases f:a.length=b.length;grind [af,Ld,cb,bT,wrap_i64,getD_at];have g:(af a !=af b)=W:=by simp;omega
 rw[ax g,ia (λe=>f (by rw[e]))]
def adI(a b:M):(a !=b)= !decide (a=b):=by by_cases h:a=b<;>simp[h]
def adJ{a b:Q (L M)}(c:(a.getD []).length≤1073741824):D7 a b=J (decide (a.getD []=b.getD [])):=by unfold D7 aM ag aj;exact LA (d:=0) c λs=>by unfold Zz aF al aB ag aj aq ay au;rw[adI]
def adK{a b:Q (L M)}(c:(a.getD []).length≤1073741824):zD a b=J (decide (a.getD []=b.getD [])):=by unfold zD aM ag aj;exact LA (d:=0) c λs=>by unfold Zu aF al aB ag aj aq ay au;rw[adI]
def auQ{a b:Q (L (L ai))}(c:(a.getD []).length≤1073741824):J6 a b=J (decide (a.getD []=b.getD [])):=by unfold J6 aM ag aj;exact LA (d:=[]) c λs=>rfl
def auR{a b:Q (L (L ai))}(c:(a.getD []).length≤1073741824):Jd a b=J (decide (a.getD []=b.getD [])):=by unfold Jd aM ag aj;exact LA (d:=[]) c λs=>rfl
def xM(s:L ai)(l:L (L ai)):L (L ai):=l.takeWhile (λx=>decide (x≤s))++[s]++l.dropWhile (λx=>decide (x≤s))
theorem adL:∀(x y:L ai),lY x y=decide (x<y)|[],[]=>by simp[lY]|_::_,[]=>by simp[lY]|[],_::_=>by simp[lY]|a::x,b::y=>by have:=adL x y;grind [lY,List.cons_lt_cons_iff]
theorem adM(a s:L ai):(lY a s||decide (a=s))=decide (a≤s):=by grind [adL]
def adN{α:Type}(p:α→ao)(l:L α):(l.takeWhile p).length≤l.length:=(List.takeWhile_sublist p).length_le
def auS{α:Type}(p:α→ao)(l:L α):l.takeWhile p=l.take (l.takeWhile p).length∧l.dropWhile p=l.drop (l.takeWhile p).length:=by grind [aeW]
def S8{α:Type}(p:α→ao):∀(l:L α)(i:U)(h:i<l.length),i<(l.takeWhile p).length→p l[i]=W|a::l,0,h,hi=>by grind [Fy]|a::l,i+1,h,hi=>by by_cases hp:p a=W;simp[Fy,hp]at hi;exact S8 p l i (by simpa using h) hi;simp_all
theorem adO{α:Type}(p:α→ao):∀(l:L α)(h:(l.takeWhile p).length<l.length),p l[(l.takeWhile p).length]=I|a::l,h=>by by_cases hp:p a=W;simp only[Fy,hp,bf,List.length_cons,List.getElem_cons_succ]at h ⊢;exact adO p l (by omega);simp_all
def auT{l:L (L ai)}{o:Q (L (L ai))}(b:o.getD []=l)(n:l.length≤1073741824)(s:L ai):Je o s=J (J (xM s l)):=by
 have p:=adN (λx=>decide (x≤s)) l;let⟨d,e⟩:=auS (λx=>decide (x≤s)) l;have a:bA (CV o s) 0=J (((l.takeWhile (λx=>decide (x≤s))).length:U):M):=by
  refine ep (f:=CV o s) (l.takeWhile (λx=>decide (x≤s))).length (λi=>(i:M)) (λi hi=>?_) ?_ (cb (bT (by omega)));have c:i<l.length:=by omega
  have g:=cI (i:=i) (by omega);have hp:=S8 (λx=>decide (x≤s)) l i c hi;unfold CV aF al ag aj aq ay au;rw[b,ax (by simp;try omega),getD_at c,adM,hp,ax (by simp;try omega),g];unfold CV aF al ag aj aq ay au;rw[b];by_cases h:(l.takeWhile (λx=>decide (x≤s))).length<l.length;grind [adO,getD_at,adM];rw[ax (by simp;try omega),aK (by simp;try omega)]
 unfold Je aM al aj aY;dsimp-proj only[ah];rw[a,aw];generalize hk:(l.takeWhile (λx=>decide (x≤s))).length=k at *;have j:∀x:L (L ai),(dj x).getD []=x:=λx=>by cases x<;>rfl
 have m:(eQ (aV 0 (k:M)) o).getD []=l.take k:=by
  cases o with|none=>grind|some x=>simp only[eB]at b;subst b;exact fF x 0 k
 have m2:(eQ (aV (k:M) (af (o.getD []))) o).getD []=l.drop k:=by
  cases o with|none=>grind|some x=>grind [gE]
 rw[m2];simp only[m,j,b];rw[ax (by simp;omega),ax (by simp;omega)];unfold xM;rw[d,e]
def jb(l:L (L ai)):L (L ai):=l.mergeSort λx y=>decide (x≤y)
theorem auU(s:L ai)(l:L (L ai)):(xM s l).Perm (s::l):=by grind [xM,aeW]
theorem auV{s:L ai}{l:L (L ai)}(h:l.Pairwise (·≤ ·)):(xM s l).Pairwise (·≤ ·):=by
 unfold xM;have d:=aeW (p:=λx=>decide (x≤s)) (l:=l);rw[←d]at h;have h1:=(Ff.1 h);rw[List.append_assoc,Ff];have e:∀x∈l.takeWhile (λx=>decide (x≤s)),x≤s:=λx c=>by obtain⟨i,hi,rfl⟩:=yb c;have a:i<l.length:=Nat.lt_of_lt_of_le hi (adN _ l);have:=S8 (λx=>decide (x≤s)) l i a hi;grind
 have hd:∀x∈l.dropWhile (λx=>decide (x≤s)),s≤x:=λx c=>by
  cases b:l.dropWhile (λx=>decide (x≤s))with|nil=>grind|cons y r=>have hy:s≤y:=(by have:=List.head_dropWhile_not (λx=>decide (x≤s)) (l:=l) (by rw[b];simp);grind);grind [Az]
 grind
def auW(s:L ai)(l:L (L ai)):xM s (jb l)=jb (l++[s]):=by grind [jb,List.mergeSort_perm,List.pairwise_mergeSort,List.Perm.eq_of_pairwise,auV,auU]
theorem auX(l:L (L ai)):J5 l=aL (jb l):=by
 cases l with
 |nil=>simp[jb,J5,aL]|cons a l=>
  have:jb (a::l)≠[]:=λe=>by grind [jb,awz]
  cases h:jb (a::l)with|nil=>exact bX h this|cons b r=>show J (jb (a::l))=_;rw[h];rfl
theorem LB(l:L (L ai)):(jb l).length=l.length:=awz l
def adP{o:Q (L aC)}(a:(o.getD []).length≤1073741824):ui o=J (aL (jb (hV (o.getD [])))):=by grind [ui,auX]
def auY{f:L aC}{i:U}(h:i<f.length):hV (f.take (i+1))=hV (f.take i)++if f[i].1==5 then[f[i].2.1]else[]:=by grind [hV,iz]
def adQ(f:L aC):(hV f).length≤f.length:=by simp_all [hV,Fv]
def adR{o:Q (L aC)}(k:(o.getD []).length≤1073741824):CX o=J (aL (jb (hV (o.getD [])))):=by
 unfold CX aM;have:bA (CW o) (O,0)=J (aL (jb (hV (o.getD [])))):=by
  rw[show((O,0):Q (L (L ai))×M)=(aL (jb (hV ((o.getD []).take 0))),((0:U):M)) by simp[jb,hV,aL]];refine ep (f:=CW o) (o.getD []).length (λi=>(aL (jb (hV ((o.getD []).take i))),(i:M))) (λi hi=>?_) ?_ (cb (bT (by omega)));have d:=cI (i:=i) (by omega);have g:=adQ ((o.getD []).take i);have j:((o.getD []).take i).length≤i:=by simp;omega
  unfold CW bq bY aF ag aj aq ay au;rw[dq hi,ax (cS hi),auY hi];simp only[getD_at hi,d];by_cases c:((o.getD [])[i].1==5)=W;rw[ax c,ax c,ax (cS hi),auT (bS _) (by rw[LB];omega),auW];have b:jb (hV ((o.getD []).take i)++[(o.getD [])[i].2.1])≠[]:=λe=>by grind [LB]
  rw[aw];cases h:jb (hV ((o.getD []).take i)++[(o.getD [])[i].2.1])with|nil=>exact bX h b|cons a l=>rfl
  grind;unfold CW bq bY aF ag aj aq ay au;simp_all
 rw[this];rfl
abbrev iT:Ty:=(Ty.int aO).pair (Ty.str.pair (Ty.int aO))
theorem S9(x y:aC):ij iT x y=decide (x=y):=by let⟨a,b,c⟩:=x;let⟨d,e,f⟩:=y;show((a==d)&&(decide (b=e)&&(c==f)))=_;by_cases h1:a=d<;>by_cases h2:b=e<;>by_cases h3:c=f<;>simp[h1,h2,h3]
theorem Ap{V:Type}(x:aC)(r:aC×V)(l:L (aC×V)):cF iT x (r::l)=if x=r.1 then J r.2 else cF iT x l:=by grind [cF,S9]
theorem Ta{V:Type}(x:aC)(y:V)(r:aC×V)(l:L (aC×V)):eI iT x y (r::l)=if x=r.1 then(x,y)::l else r::eI iT x y l:=by grind [eI,S9]
def LC(x:aC)(z v:M):∀m:L (aC×M),nI v (kP iT x m) (lG iT x z m)=eI iT x v m∧kP iT x m<(lG iT x z m).length|[]=>⟨rfl,Nat.lt_succ_self 0⟩|r::m=>by let⟨h1,h2⟩:=LC x z v m;grind [kP,S9,lG,Ta,nI.eq_2,nI.eq_3]
def adS{V:Type}(z x:aC)(y:V):∀l:L (aC×V),cF iT z (eI iT x y l)=if z=x then J y else cF iT z l|[]=>by show cF iT z [(x,y)]=_;rw[Ap]|r::l=>by rw[Ta];by_cases h:x=r.1;grind [Ap];rw[aK h,Ap,Ap,adS z x y l];grind
def adT{V:Type}(x:aC)(y:V):∀l:L (aC×V),(l.map (·.1)).Nodup→((eI iT x y l).map (·.1)).Nodup∧∀k∈(eI iT x y l).map (·.1),k=x∨k∈l.map (·.1)|[],_=>⟨by show([(x,y)].map (·.1)).Nodup;simp,λk hk=>.inl (by have hk:k∈[(x,y)].map (·.1):=hk;simpa using hk)⟩|r::l,h=>by rw[dO,xV]at h;let⟨h1,h2⟩:=adT x y l h.2;grind [Ta]
def pn(m:L (aC×M))(c:aC→M):Prop:=(m.map (·.1)).Nodup∧∀z,(cF iT z m).getD 0=c z
theorem pn.bump{m:L (aC×M)}{c:aC→M}(h:pn m c)(x:aC)(v:M):pn (nI v (kP iT x m) (lG iT x 0 m)) (λz=>if z=x then v else c z):=by rw[(LC x 0 v m).1];refine⟨(adT x v m h.1).1,λz=>?_⟩;rw[adS];by_cases a:z=x;simp[a];simp only[aK a];exact h.2 z
def adU(z x:aC)(l:L aC):List.count z (l++[x])=List.count z l+if z=x then 1 else 0:=by grind
def auZ{l:L aC}{o:Q (L aC)}(c:o.getD []=l)(n:l.length≤1073741824):∃m,bA (Ea o) ([],0)=J m∧pn m (λz=>(l.count z:M)):=by
 refine eY (f:=Ea o) (λs=>∃k:U,s.2=(k:M)∧k≤l.length∧pn s.1 (λz=>((l.take k).count z:M))) (λs=>l.length-s.2.toNat) (λm=>pn m (λz=>(l.count z:M))) (λs h=>?_) ([],0) ⟨0,rfl,fm _,by simp,λz=>by simp[cF]⟩ (cb (bT (by simp;omega)));let⟨m,i⟩:=s;obtain⟨k,rfl,hk,b⟩:=h;simp only[]at b;by_cases a:k<l.length;have d:=cI (i:=k) (by omega);have p:(l.take k).count l[k]≤k:=by grind [aeX]
 have q:=(LC l[k] 0 (aO.wrap ((cF iT l[k] m).getD 0+1)) m).2;have g:=b.bump l[k] (aO.wrap ((cF iT l[k] m).getD 0+1));unfold Ea;simp only[c,getD_at a];rw[dq a,ax (by simp_all)];simp only[eE,d];refine⟨⟨k+1,rfl,a,?_⟩,by omega⟩;have e:(λz=>((l.take (k+1)).count z:M))=λz=>if z=l[k]then aO.wrap ((cF iT l[k] m).getD 0+1)else((l.take k).count z:M):=funext λz=>by rw[iz a,adU];by_cases r:z=l[k];have j:=b.2 l[k];grind [wrap_i64];grind
 rw[e];exact g;obtain rfl:k=l.length:=by omega
 simp_all [Ea]
def au0{l:L aC}{o:Q (L aC)}(j:o.getD []=l)(v:l.length≤1073741824){b:L (aC×M)}{c:aC→U}(g:pn b (λz=>(c z:M)))(n:∀z,c z≤1073741824):∃m,bA (Eb o) (b,0)=J m∧pn m (λz=>(c z:M)-(l.count z:M)):=by
 refine eY (f:=Eb o) (λs=>∃k:U,s.2=(k:M)∧k≤l.length∧pn s.1 (λz=>(c z:M)-((l.take k).count z:M))) (λs=>l.length-s.2.toNat) (λm=>pn m (λz=>(c z:M)-(l.count z:M))) (λs h=>?_) (b,0) ⟨0,rfl,fm _,g.1,λz=>by simpa using g.2 z⟩ (cb (bT (by simp;omega)));let⟨m,i⟩:=s;obtain⟨k,rfl,hk,d⟩:=h;simp only[]at d;by_cases a:k<l.length;have p:=cI (i:=k) (by omega);have q:(l.take k).count l[k]≤k:=by grind [aeX]
 have r:=n l[k];have w:=(LC l[k] 0 (aO.wrap ((cF iT l[k] m).getD 0-1)) m).2;have t:=d.bump l[k] (aO.wrap ((cF iT l[k] m).getD 0-1));unfold Eb;simp only[j,getD_at a];rw[dq a,ax (by simp_all)];simp only[eE,p];refine⟨⟨k+1,rfl,a,?_⟩,by omega⟩;have e:(λz=>(c z:M)-((l.take (k+1)).count z:M))=λz=>if z=l[k]then aO.wrap ((cF iT l[k] m).getD 0-1)else(c z:M)-((l.take k).count z:M):=funext λz=>by rw[iz a,adU];by_cases x:z=l[k];have u:=d.2 l[k];grind [wrap_i64];grind
 rw[e];exact t;obtain rfl:k=l.length:=by omega
 simp_all [Eb]
def au1{m:L (aC×M)}(h:(m.map (·.1)).Nodup){r:aC×M}(a:r∈m):cF iT r.1 m=J r.2:=by
 induction m with
 |nil=>cases a
 |cons q m b=>grind [Ap]
def au2{m:L (aC×M)}{z:aC}{v:M}(h:cF iT z m=J v):(z,v)∈m:=by
 induction m with
 |nil=>cases h
 |cons q m a=>grind [Ap]
def au3{m:L (aC×M)}{c:aC→M}(h:pn m c):qf m.length (J7 m) PW ()=J (if m.all (λr=>decide (r.2=0))=W then .inr ()else .inl I):=by
 refine Yr λl b=>?_;have key:∀(l:L U)(a:L U),(∀i∈l,i<m.length)→lJ (J7 m) PW a l ()=J (if l.all (λi=>decide ((m.getD i ((0,[],0),0)).2=0))=W then .inr ()else .inl I):=by
  intro l;induction l with
  |nil=>intro a _;rfl
  |cons i l e=>grind [lJ,J7,bw,gG]
 rw[key l [] (λi hi=>by grind)];congr 2;have:l.all (λi=>decide ((m.getD i ((0,[],0),0)).2=0))=m.all (λr=>decide (r.2=0)):=by rw[Bool.eq_iff_iff,fO,fO];constructor;intro h r d;obtain⟨i,hi,rfl⟩:=yb d;have:=h i (b.mem_iff.2 (by simpa using hi));grind;grind
 rw[this]
theorem au4{o:Q (L aC)}(b:(o.getD []).length≤1073741824)(x:aC):C2 o x=J ((o.getD []).count x:M):=by
 unfold C2 aM;have:bA (C0 o x) (0,0)=J ((o.getD []).count x:M):=by
  rw[show((0,0):M×M)=((((o.getD []).take 0).count x:M),((0:U):M)) by simp];refine ep (f:=C0 o x) (o.getD []).length (λi=>((((o.getD []).take i).count x:M),(i:M))) (λi hi=>?_) ?_ (cb (bT (by omega)));have c:=cI (i:=i) (by omega);have d:((o.getD []).take i).count x≤i:=by grind [aeX]
  have a:aO.wrap ((((o.getD []).take i).count x:M)+1)=(((o.getD []).take i).count x:M)+1:=eo (by omega);unfold C0 bq aF ag aj aq ay au;rw[dq hi,ax (cS hi)];grind [getD_at,iz];unfold C0 bq aF ag aj aq ay au;simp_all
 rw[this];rfl
def au5{s t:L aC}(a:s.length=t.length)(h:∀x∈s,s.count x=t.count x):s.Perm t:=by
 have h1:s.Perm (t.filter λx=>decide (x∈s)):=by grind [List.count_filter,List.count_eq_zero]
 grind [List.Perm.length_eq,List.length_filter_eq_length_iff]
def adV{s t:Q (L aC)}(D:(s.getD []).length≤536870912)(E:(t.getD []).length≤536870912):∃b,qp s t=J b∧w7 s t=J b:=by
 let⟨a,j,k,G,H⟩:=ado (o:=s) (by omega);let⟨e,l,m,K,N⟩:=ado (o:=t) (by omega);have P:=Fv dU (s.getD []);have lt:=Fv dU (t.getD []);let⟨R,c1,d1⟩:=auZ (bS ((s.getD []).filter dU)) (by omega);let⟨m2,n,d2⟩:=au0 (bS ((t.getD []).filter dU)) (by omega) d1 (λz=>by grind);have p:=adQ (s.getD []);unfold qp w7 aM ag aj;rw[j,l,k,m];simp only[aw,adJ (show(a.1.getD []).length≤1073741824 by omega),adJ (show(a.2.1.getD []).length≤1073741824 by omega),adK (show(a.1.getD []).length≤1073741824 by omega),adK (show(a.2.1.getD []).length≤1073741824 by omega),adl (show(s.getD []).length≤1073741824 by omega),adl (show(t.getD []).length≤1073741824 by omega),adn (show(s.getD []).length≤1073741824 by omega),adn (show(t.getD []).length≤1073741824 by omega),c1,n,au3 d2,adP (show(s.getD []).length≤1073741824 by omega),adP (show(t.getD []).length≤1073741824 by omega),adR (show(s.getD []).length≤1073741824 by omega),adR (show(t.getD []).length≤1073741824 by omega)];rw[auQ (by rw[bS,LB];omega),auR (by rw[bS,LB];omega)];simp only[bS,aw];cases h1:a.2.2;simp_all;cases h2:e.2.2;simp_all;by_cases h3:a.1.getD []=e.1.getD [];rotate_left;simp_all;by_cases q:a.2.1.getD []=e.2.1.getD [];rotate_left;simp_all;simp only[h3,q,decide_true,jg,bh,bC];generalize V:(s.getD []).filter dU=S at *;generalize hT:(t.getD []).filter dU=T at *;have g:m2.all (λr=>decide (r.2=0))=W↔ ∀z,S.count z=T.count z:=by
  rw[fO];constructor;intro h z;have:=d2.2 z;cases u:cF iT z m2 with|none=>grind|some v=>have hv:v=0:=(by simpa using h _ (au2 u));grind
  intro h r w;have:=d2.2 r.1;simp only[au1 d2.1 w,h]at this;simpa using this
 by_cases f:jb (hV (s.getD []))=jb (hV (t.getD []));rotate_left;refine⟨I,?_,by simp[f]⟩;cases m2.all (λr=>decide (r.2=0))with|true=>simp[f]|false=>rfl
 simp only[f,decide_true,jg,bh,bC];have c:∀d:S.length=T.length,bA (C4 (aL S) (aL T)) 0=J (if S.any (λx=>decide (S.count x≠T.count x))=W then .inl I else .inr ()):=λd=>by
  have:=uK (F:=C4 (aL S) (aL T)) S.length (λi=>(i:M)) (λi=>decide (S.count (S.getD i (0,[],0))≠T.count (S.getD i (0,[],0)))) I () (λi hi=>by
   have X:=cI (i:=i) (by omega)
   have y:S.getD i (0,[],0)=S[i]:=by grind
   unfold C4 bq bY aF ag aj aq ay au
   rw[y]
   simp only[bS]
   rw[dq hi,ax (cS hi)]
   grind [getD_at,cS,au4,bS,aw]) (by
   unfold C4 bq bY aF ag aj aq ay au
   simp_all) (cb (bT (by omega)))
  grind [Lq]
 cases A:m2.all (λr=>decide (r.2=0))with
 |true=>have hp:=g.1 A;have d:S.length=T.length:=(awA.2 hp).length_eq;simp_all|false=>
  refine⟨I,rfl,?_⟩;by_cases d:S.length=T.length;rw[aK (by simp[d]),c d,aw,ax];rfl;have:∃x∈S,S.count x≠T.count x:=by refine awB λhn=>?_;have:=g.2 (awA.1 (au5 d λx B=>awB λC=>hn ⟨x,B,C⟩));grind
  grind;rw[ax (by rw[bne_iff_ne];simp;omega)]
abbrev kT:Ty:=(Ty.int aO).pair (Ty.int aO)
abbrev KV:=(M×M)×Q (L aC)
theorem eqK(x y:M×M):ij kT x y=decide (x=y):=by let⟨a,b⟩:=x;let⟨c,d⟩:=y;show((a==c)&&(b==d))=_;by_cases h1:a=c<;>by_cases h2:b=d<;>simp[h1,h2]
def rT(x y:M×M):Prop:=x.1<y.1∨(x.1=y.1∧x.2<y.2)
def adW(x y:M×M):nG kT x y=W↔rT x y:=by let⟨a,b⟩:=x;let⟨c,d⟩:=y;show(decide (a<c)||((a==c)&&decide (b<d)))=W↔_;simp[rT]
def adX(x:M×M)(r:KV)(l:L KV):cF kT x (r::l)=if x=r.1 then J r.2 else cF kT x l:=by grind [cF,eqK]
theorem LD{x:M×M}:∀{l:L KV},(∀r∈l,r.1≠x)→cF kT x l=O|[],_=>rfl|r::l,h=>by rw[adX,aK (λe=>h r (by simp) e.symm)];exact LD λq a=>h q (by simp[a])
def adY(x:M×M)(y:Q (L aC))(r:KV)(l:L KV):nH kT x y (r::l)=if nG kT x r.1=W then(x,y)::r::l else r::nH kT x y l:=by grind [nH]
def Tb(x:M×M)(y:Q (L aC)):∀l:L KV,(nH kT x y l).Perm ((x,y)::l)|[]=>awC _|r::l=>by rw[adY];split;exact awC _;·exact((Tb x y l).cons r).trans (List.Perm.swap _ _ _)
def rU(l:L KV):Prop:=l.Pairwise λa b=>rT a.1 b.1
def adZ{x:M×M}{y:Q (L aC)}:∀{l:L KV},rU l→(∀r∈l,r.1≠x)→rU (nH kT x y l)
 |[],_,_=>List.pairwise_singleton _ _|r::l,h,hn=>by
  have c:=Az.1 h;rw[adY];split;rename_i a;have a:=(adW _ _).1 a;refine Az.2 ⟨λq b=>?_,h⟩;rcases iA.1 b with rfl|b
  exact a;have:=c.1 q b;unfold rT at *;grind;rename_i a;have a:¬rT x r.1:=λe=>a ((adW _ _).2 e);refine Az.2 ⟨λq b=>?_,adZ c.2 λq b=>hn q (by simp[b])⟩;rcases iA.1 ((Tb x y l).mem_iff.1 b)with rfl|b
  have d:=hn r (by simp);have:r.1.1≠x.1∨r.1.2≠x.2:=by grind
  unfold rT at *;grind;exact c.1 q b
def au7{l l':L KV}(h:rU l)(c:rU l')(hp:l.Perm l'):l=l':=List.Perm.eq_of_pairwise (le:=λa b:KV=>rT a.1 b.1) (λa b _ _ h1 h2=>by unfold rT at h1 h2;omega) h c hp
def Aq(a:M)(m:L KV)(r:M×Q (L aC)):L KV:=match(cF kT (a,r.1) m).isSome with|true=>eI kT (a,r.1) r.2 m|false=>nH kT (a,r.1) r.2 m
def ad1(a:M):∀(rs:L (M×Q (L aC)))(m:L KV),rU m→(∀q∈m,∀r∈rs,q.1≠(a,r.1))→(rs.map (·.1)).Nodup→rU (rs.foldl (Aq a) m)∧(rs.foldl (Aq a) m).Perm (m++rs.map λr=>((a,r.1),r.2))
 |[],m,h,_,_=>⟨h,by simp⟩|r::rs,m,h,hn,hd=>by
  rw[dO,xV]at hd;have c:cF kT (a,r.1) m=O:=LD λq b=>hn q b r (by simp);have e:Aq a m r=nH kT (a,r.1) r.2 m:=by unfold Aq;rw[c];rfl
  rw[List.foldl_cons,e];have hp:=Tb (a,r.1) r.2 m;let⟨f,g⟩:=ad1 a rs _ (adZ (y:=r.2) h λq b=>hn q b r (by simp)) (λq b i d=>by grind) hd.2;grind
def jc(d:Dc)(k:U):Q (L aC):=match lc d (k:M)with|some r=>r.1|none=>O
def lm(d:Dc):L (M×Q (L aC)):=(jE (d.2.getD []) (d.2.getD []).length).map λ(k:U)=>((k:M),jc d k)
def ad3(P:L cx)(n:U):∀k∈jE P n,k<n∧(P.getD k (I,[],[])).1=W:=λk hk=>by simp_all [jE]
def ad4(P:L cx)(n:U):(jE P n).Pairwise (·< ·):=List.Pairwise.filter _ List.pairwise_lt_range
def ad5{V:Type}(x:M)(y:V):∀l:L (M×V),(∀r∈l,r.1≠x)→eI (.int .i64) x y l=l++[(x,y)]|[],_=>rfl|r::l,h=>by rw[S1,aK (λe=>h r (by simp) e.symm),ad5 x y l λq a=>h q (by simp[a])];rfl
def au8{d:Dc}(h1:(d.2.getD []).length≤1073741824)(h2:∀q∈d.2.getD [],q.2.2.length≤67108864):JJ d=J (lm d):=by
 unfold JJ aM;rw[EZ h1,aw];generalize l:jE (d.2.getD []) (d.2.getD []).length=a;have g:=EY (d.2.getD []) (d.2.getD []).length;have c:=ad4 (d.2.getD []) (d.2.getD []).length;rw[l]at g c;have:bA (Dy d (aL (a.map eP))) ([],0)=J (a.map λ(k:U)=>((k:M),jc d k)):=by
  rw[show(([],0):L (M×Q (L aC))×M)=((a.take 0).map λ(k:U)=>((k:M),jc d k),((0:U):M)) by simp];refine ep (f:=Dy d (aL (a.map eP))) a.length (λi=>((a.take i).map λ(k:U)=>((k:M),jc d k),(i:M))) (λi hi=>?_) ?_ (cb (bT (by omega)));have m:=cI (i:=i) (by omega);have b:i<(a.map eP).length:=by simpa using hi
  let⟨f,e,n,o,_⟩:=E1 h2 (a[i]:M);have p:jc d a[i]=f:=by unfold jc;rw[n]
  unfold Dy bq aF aj aq ay au;simp only[bS];rw[dq b,ax (cS b),getD_at b,List.getElem_map];simp only[m];rw[show xi d (eP a[i])=_ from o,aw];rw[iz hi,px,dO,List.map_nil,p];refine congrArg (λz=>J (Sum.inl (z,((i+1:U):M)))) (ad5 _ _ _ λr s=>?_);obtain⟨k,hk,rfl⟩:=kH.1 s;obtain⟨j,t,rfl⟩:=yb hk;have h:j<i:=by simp at t;omega
  rw[List.getElem_take];have:=(List.pairwise_iff_getElem.1 c) j i (by omega) hi h;grind;simp_all [Dy,bq,aF,aj,aq,ay,au]
 rw[this,aw];unfold lm;rw[l]
def eT(docs:L Dc)(n:U):L KV:=(hY n).flatMap λi=>(lm (docs.getD i (0,O))).map λr=>(((i:M),r.1),r.2)
theorem ad6(docs:L Dc)(n:U):eT docs (n+1)=eT docs n++(lm (docs.getD n (0,O))).map λr=>(((n:M),r.1),r.2):=by unfold eT;rw[aaN,uW];simp
theorem Tc{docs:L Dc}{n:U}{q:KV}(h:q∈eT docs n):∃i:U,i<n∧q.1.1=(i:M):=by grind [eT]
def ad7(d:Dc):(lm d).Pairwise λa b=>a.1<b.1:=by simp_all [lm,LO,ad4]
def LG(docs:L Dc):∀n,rU (eT docs n)|0=>awy|n+1=>by rw[ad6];unfold rU;rw[Ff];refine⟨LG docs n,?_,λa c b d=>?_⟩;rw[LO];exact(ad7 _).imp λh=>.inr ⟨rfl,h⟩;let⟨i,hi,e⟩:=Tc c;obtain⟨r,_,rfl⟩:=kH.1 d;refine .inl ?_;grind
abbrev fX:=M×M×M×(M×M)×M×Q (L aC)×L ai×M×ao
abbrev dV:=Q (L Dc)×Q (L fX)×M
def ad8(a:M×Q (L Dc)×Q (L fX)×M×L KV)(rows:L (M×Q (L aC))):∀(l sn:L U)(x:Q (L Dc)×Q (L fX)×M×L KV),(∀i∈l,i<rows.length)→lJ (Ed a rows) PX sn l x=J (x.1,x.2.1,x.2.2.1,(l.map λi=>rows.getD i (0,O)).foldl (Aq a.1) x.2.2.2)
 |[],sn,x,_=>rfl|i::l,sn,x,h=>by
  have step:Ed a rows sn i x=J (.inl (x.1,x.2.1,x.2.2.1,Aq a.1 x.2.2.2 (rows.getD i (0,O)))):=by unfold Ed;rw[ax (by grind [bw,gG])];rfl
  rw[lJ,step];simp only[];rw[ad8 a rows l _ _ λj b=>h j (by simp[b])];rfl
def au9{α:Type}(d:α)(l:L α):(hY l.length).map (λi=>l.getD i d)=l:=by apply List.ext_getElem (by simp);grind
def ava(docs:L Dc)(i:U)(x:Q (L Dc)×Q (L fX)×M):qf (lm (docs.getD i (0,O))).length (Ed ((i:M),x.1,x.2.1,x.2.2,eT docs i) (lm (docs.getD i (0,O)))) PX (x.1,x.2.1,x.2.2,eT docs i)=J (x.1,x.2.1,x.2.2,eT docs (i+1)):=by
 refine Yr λl c=>?_;rw[ad8 _ _ l [] _ λj f=>by grind];simp only[];have hp:(l.map λa=>(lm (docs.getD i (0,O))).getD a (0,O)).Perm (lm (docs.getD i (0,O))):=by have:=c.map λa=>(lm (docs.getD i (0,O))).getD a (0,O);rwa [au9]at this
 have b:((lm (docs.getD i (0,O))).map (·.1)).Nodup:=by rw[List.nodup_iff_pairwise_ne,LO];exact(ad7 _).imp λh=>by omega
 let⟨d,g⟩:=ad1 (i:M) (l.map λa=>(lm (docs.getD i (0,O))).getD a (0,O)) (eT docs i) (LG docs i) (λq k r m e=>by grind [Tc]) ((hp.map _).nodup_iff.2 b);have:=au7 d (LG docs (i+1)) (by grind [ad6]);rw[this]
def avb{o:Q (L aC)}(h:(o.getD []).length≤1073741824):JK o=J o:=by
 unfold JK al ag aj;cases o with|none=>rfl|some l=>grind
def avc{o:Q (L cx)}(h:(o.getD []).length≤1073741824):JL o=J o:=by
 unfold JL al ag aj;cases o with|none=>rfl|some l=>grind
def sgZ:fX:=(0,0,0,(0,0),0,O,[],0,I)
structure po(p:dV):Prop where
 parts:∀d∈p.1.getD [],(d.2.getD []).length≤1048576∧(dA (d.2.getD [])).length≤1073741824
 tg:∀s∈p.2.1.getD [],tot (s.2.2.2.2.2.1.getD [])≤67108864
 nd:(p.1.getD []).length≤1048576
 ns:(p.2.1.getD []).length≤1048576
def ave{p:dV}(h:po p):JM p=J (aL (p.1.getD []),aL (p.2.1.getD []),p.2.2):=by
 have b:=h.nd;have c:=h.ns;unfold JM aM al;have g:bA (Dz p) (0,O,O,p.2.2)=J (aL (p.1.getD []),O,p.2.2):=by rw[show((0,O,O,p.2.2):M×Q (L Dc)×Q (L fX)×M)=(((0:U):M),aL ((p.1.getD []).take 0),O,p.2.2) by simp[aL]];refine ep (f:=Dz p) (p.1.getD []).length (λi=>((i:M),aL ((p.1.getD []).take i),O,p.2.2)) (λi hi=>?_) ?_ (cb (bT (by omega)));have a:=cI (i:=i) (by omega);have d:=(h.parts _ (fk hi)).1;unfold Dz bq aF al aj aq ay au aY;simp only[bS];rw[dq hi,ax (cS hi)];simp only[getD_at hi,a];unfold PP;rw[avc (by omega),aw,aw,ax (by simp;omega),iz hi,←Sl,bS];unfold Dz bq aF al aj aq ay au aY;simp_all
 have j:bA (DA p) (0,aL (p.1.getD []),O,p.2.2)=J (aL (p.1.getD []),aL (p.2.1.getD []),p.2.2):=by rw[show((0,aL (p.1.getD []),O,p.2.2):M×Q (L Dc)×Q (L fX)×M)=(((0:U):M),aL (p.1.getD []),aL ((p.2.1.getD []).take 0),p.2.2) by simp[aL]];refine ep (f:=DA p) (p.2.1.getD []).length (λi=>((i:M),aL (p.1.getD []),aL ((p.2.1.getD []).take i),p.2.2)) (λi hi=>?_) ?_ (cb (bT (by omega)));have a:=cI (i:=i) (by omega);have d:=h.tg _ (fk hi);have e:=dH ((p.2.1.getD [])[i].2.2.2.2.2.1.getD []);unfold DA bq aF al aj aq ay au aY;simp only[bS];rw[dq hi,ax (cS hi)];simp only[getD_at hi,a];unfold PN;rw[avb (by omega),aw,aw,ax (by simp;omega),iz hi,←Sl,bS];unfold DA bq aF al aj aq ay au aY;simp_all
 simp_all
def avf(s:fX):∃b,J8 s=J b∧Jc s=J b:=by
 unfold J8 Jc ag aj;dsimp-proj only[ah];have hn:(!(s.2.2.2.2.2.2.2.1 !=(0:M)))=(s.2.2.2.2.2.2.2.1==(0:M)):=by simp[bne]
 simp only[uB,Ai,aw,hn];split;grind
 ·repeat' split
  all_goals exact⟨_,rfl,rfl⟩
def avg(a b:fX):Ka a b=zX b a:=by grind [Ka,zX]
def ad9{d:Dc}(h1:(d.2.getD []).length≤1048576)(h2:(dA (d.2.getD [])).length≤1073741824){src:Q (L aC)}(l:tot (src.getD [])≤536870912){s:fX}(m:tot (s.2.2.2.2.2.1.getD [])≤67108864){v:Q (L Dc)×Q (L fX)×M×L KV}{k:U}(hk:s.2.1=(k:M))(hv:(v.1.getD [])[k]?=J d):∃e,J9 s src v=J e∧zL d src s=J e∧(e=0→iu (s.2.2.2.2.2.1.getD [])=0∧(s.2.2.2.2.1=3→w7 src s.2.2.2.2.2.1=J W)):=by
 let⟨b,f1,f2⟩:=avf s;have c:k<(v.1.getD []).length:=(gi.1 hv).1;have f:=dH (src.getD []);have g:=dH (s.2.2.2.2.2.1.getD []);unfold J9 zL bY aF ag aj;rw[f1,f2,aw,aw];cases b with
 |false=>simp_all|true=>
  rw[adb (by omega),SW (by omega)];simp only[jg,bh,bC,aw];by_cases i:iu (s.2.2.2.2.2.1.getD [])=0;simp only[i];by_cases h3:s.2.2.2.2.1=3;have a:(s.2.2.2.2.1 !=(3:M))=I:=by simp[h3]
  let⟨b,c1,j⟩:=adV (s:=src) (t:=s.2.2.2.2.2.1) (by omega) (by omega);rw[a,c1,j];simp only[show((0:M) !=0)=I from rfl,Bool.or_self,bh,bC,aw];cases b with|false=>simp_all|true=>have hd:(v.1.getD []).getD s.2.1.toNat ((0:M),O)=d:=(by grind);let⟨n,e,o,p,_⟩:=adC h1 h2 s.2.2.1 (rs:=J [s.2.2.2.1]) (ts:=J [s.2.2.2.2.2.1]) (by simp) (by simp) (λt h=>by grind);simp_all
  simp_all;simp_all
def avh{o:Q (L M)}(a:(o.getD []).length≤1073741824)(n:M):Ko o n=J (decide (n∈o.getD [])):=by
 unfold Ko aM;have:=uK (F:=Kn o n) (o.getD []).length (λi=>(i:M)) (λi=>(o.getD []).getD i 0==n) W () (λi hi=>by
  have b:=cI (i:=i) (by omega)
  unfold Kn bq aF ag aj aq ay au
  simp_all) (by
  unfold Kn bq aF ag aj aq ay au
  rw[eZ]) (cb (bT (by omega)))
 rw[show(0:M)=((0:U):M)from rfl,this,aw];by_cases h:n∈o.getD [];let⟨i,hi,e⟩:=yb h;rw[ax,iM h];rfl;rw[List.any_eq_true];refine⟨i,by simpa using hi,?_⟩;grind;rw[aK,ia h];rfl;grind
def Ar(P:L cx)(b:M):ao:=decide (b∈(jE P P.length).map eP)
theorem E7{P:L cx}{b:M}:Ar P b=W↔ ∃k:U,b=(k:M)∧k∈jE P P.length:=by grind [Ar]
def avi{d:Dc}(h:(d.2.getD []).length≤1073741824)(part:M):Kp d part=J (Ar (d.2.getD []) part):=by unfold Kp;have a:=EY (d.2.getD []) (d.2.getD []).length;rw[SU,EZ h,aw,avh (by rw[bS,jf];omega),aw,bS];rfl
def avj{l:L KV}(h:rU l){r:KV}(a:r∈l):cF kT r.1 l=J r.2:=by
 induction l with
 |nil=>cases a
 |cons q l c=>
  have b:=Az.1 h;rw[adX];rcases iA.1 a with rfl|a
  rw[ax rfl];have:=b.1 r a;rw[aK (λe=>by rw[e]at this;unfold rT at this;omega)];exact c b.2 a
theorem aea{docs:L Dc}{n:U}{a:U}(c:a<n){d:Dc}(hd:docs.getD a (0,O)=d)(b:M):cF kT ((a:M),b) (eT docs n)=if Ar (d.2.getD []) b=W then J (jc d b.toNat)else O:=by split;rename_i h;obtain⟨k,rfl,hk⟩:=E7.1 h;refine avj (r:=(((a:M),(k:M)),jc d k)) (LG docs n) ?_;grind [eT,lm];grind [LD,eT,lm,E7]
def aeb{docs:L Dc}{n:U}{a b:M}(h:a<0∨(n:M)≤a):cF kT (a,b) (eT docs n)=O:=LD λq c e=>by grind [Tc]
def aec(x:M):∀l:L M,oQ (.int .i64) x l=decide (x∈l)
 |[]=>rfl|r::l=>by
  show(match(x==r)with|true=>W|false=>oQ (.int .i64) x l)=_
  rw[aec x l];grind
def aed(x z:M):∀l:L M,z∈mG (.int .i64) x l↔z=x∨z∈l
 |[]=>by show z∈[x]↔_;simp|r::l=>by
  have e:mG (.int .i64) x (r::l)=if x=r then x::l else r::mG (.int .i64) x l:=by
   show(match(x==r)with|true=>x::l|false=>r::mG (.int .i64) x l)=_
   grind
  rw[e];split;grind;rw[iA,aed x z l,iA];grind
def n7(segs:L fX)(i:U):L M:=(segs.take i).foldl (λl s=>mG (.int .i64) s.1 l) []
def aee{segs:L fX}{i:U}(h:i<segs.length):n7 segs (i+1)=mG (.int .i64) segs[i].1 (n7 segs i):=by unfold n7;rw[iz h,List.foldl_append];rfl
def aef(segs:L fX)(z:M):∀i,i≤segs.length→(z∈n7 segs i↔ ∃j,∃h:j<i,∃a:j<segs.length,(segs[j]).1=z)|0,_=>by simp[n7]|i+1,hi=>by rw[aee (show i<segs.length by omega),aed,aef segs z i (by omega)];grind
def avk{p:dV}{i:U}(hi:i<(p.2.1.getD []).length)(f:(p.2.1.getD []).length≤1048576):bA (Ef p (i:M)) 0=J (if oQ (.int .i64) (p.2.1.getD [])[i].1 (n7 (p.2.1.getD []) i)=W then .inl 5 else .inr ()):=by
 have g:(eQ (aV 0 (i:M)) p.2.1).getD []=(p.2.1.getD []).take i:=by
  cases p.2.1 with|none=>simp|some x=>exact fF x 0 i
 have b:((p.2.1.getD []).take i).length=i:=by simp;omega
 have:=uK (F:=Ef p (i:M)) i (λj=>(j:M)) (λj=>(((p.2.1.getD []).take i).getD j sgZ).1==(p.2.1.getD [])[i].1) 5 () (λj a=>by
  have k:=cI (i:=j) (by omega)
  simp_all [Ef,ah,bq,aF,ag,aj,aq,ay,au]) (by
  grind [Ef,af]) (cb (bT (by omega)))
 rw[show(0:M)=((0:U):M)from rfl,this,aec];congr 1;have c:=aef (p.2.1.getD []) (p.2.1.getD [])[i].1 i (by omega);by_cases h:(p.2.1.getD [])[i].1∈n7 (p.2.1.getD []) i;rw[iM h,ax,ax rfl];let⟨j,a,d,e⟩:=c.1 h;rw[List.any_eq_true];refine⟨j,by simpa using a,?_⟩;grind;grind
def LH(docs:L Dc)(s:fX):Prop:=∃k d,s.2.1=((k:U):M)∧docs[k]?=J d∧Ar (d.2.getD []) s.2.2.1=W∧0≤s.2.2.2.1.1∧s.2.2.2.1.1<s.2.2.2.1.2∧s.2.2.2.1.2≤bK ((jc d s.2.2.1.toNat).getD [])∧iu (s.2.2.2.2.2.1.getD [])=0∧(s.2.2.2.2.1=3→w7 (fL ((jc d s.2.2.1.toNat).getD []) s.2.2.2.1.1 s.2.2.2.1.2).1 s.2.2.2.2.2.1=J W)
def lW(d:Dc):Prop:=eO d.1∧(d.2.getD []).length≤131075∧(dA (d.2.getD [])).length≤65536
def aeg{fmt:M}(a:eO fmt){raw:L ai}(b:raw.length≤67108864):bo (λr=>tot (r.1.getD [])≤2*raw.length+2) (hO fmt raw):=by
 rcases a with rfl|rfl|rfl
 grind [Li,bo.ret];grind [acX,bo.ret];grind [acr,bo.ret]
def aeh{d:Dc}(h:∀q∈d.2.getD [],q.2.2.length≤67108864)(part:M):bo (λr=>tot (r.1.getD [])≤134217730) (lc d part):=by
 unfold lc rz bY aF al ag aj;rw[aw];have c:tot ((O:Q (L aC)).getD [])≤134217730:=by simp[tot]
 refine bo.ite (λ_=>bo.ret c) λe=>bo.ite (λ_=>bo.ite (λ_=>bo.ret c) λ_=>bo.ite (λf=>bo.call λr a=>bo.ret ?_) λ_=>bo.nil) λ_=>bo.nil;have e:eO d.1:=by grind [uH]
 simp only[eh,dp]at f;have b:part.toNat<(d.2.getD []).length:=by omega
 rw[kg b]at a;have g:=h _ (fk b);have:=aeg e g r a;grind
theorem lW.raw{d:Dc}(h:lW d):∀q∈d.2.getD [],q.2.2.length≤67108864:=λq a=>by have:=Ln a;have:=h.2.2;omega
def aei{d:Dc}(h:lW d)(k:U):tot ((jc d k).getD [])≤134217730∧∃e,lc d (k:M)=J (jc d k,e)∧xi d (k:M)=J (jc d k,e):=by
 let⟨f,e,a,b,g⟩:=E1 (d:=d) h.raw (k:M);have c:jc d k=f:=by unfold jc;rw[a]
 rw[c];exact⟨aeh h.raw (k:M) _ a,e,a,b⟩
def avl{p:dV}(hp:po p)(C:∀d∈p.1.getD [],lW d)(D:1≤p.2.2∧p.2.2≤1073741824){i:U}(hi:i<(p.2.1.getD []).length):∃e,Ec (i:M) (n7 (p.2.1.getD []) i) (aL (p.1.getD []),aL (p.2.1.getD []),p.2.2,eT (p.1.getD []) (p.1.getD []).length)=J e∧zY p (i:M)=J e∧(e=0→LH (p.1.getD []) (p.2.1.getD [])[i]):=by
 have E:=hp.ns;have r:=hp.tg _ (fk hi);have l:=avk hi hp.ns;have t:=cS hi;have F:aO.wrap (p.2.2-1)=p.2.2-1:=eo (by omega);have a:∀f:Q (L aC),ud (i:M) (aL (p.1.getD []),aL (p.2.1.getD []),p.2.2,eT (p.1.getD []) (p.1.getD []).length)=J ((cF kT ((p.2.1.getD [])[i].2.1,(p.2.1.getD [])[i].2.2.1) (eT (p.1.getD []) (p.1.getD []).length)).getD O):=λf=>by unfold ud aF al aj;dsimp-proj only[ah];simp_all
 have a:=a O;unfold Ec zY uf aM bY aF bJ aB ag aj aR;dsimp-proj only[ah];simp only[bS,t,bf,getD_at hi,l,a,F];generalize hS:(p.2.1.getD [])[i]=s at *;generalize G:oQ (.int .i64) s.1 (n7 (p.2.1.getD []) i)=H;by_cases c:s.2.1<0;rw[aeb (.inl c)];simp_all;rw[aK (show ¬decide (s.2.1<0)=W by simpa using c)];by_cases m:s.2.1≥((p.1.getD []).length:M);rw[aeb (.inr m)];simp_all;rw[aK (show ¬decide (s.2.1≥af (p.1.getD []))=W by simp;omega)];let⟨k,hk⟩:=oq (show 0≤s.2.1 by omega);have g:k<(p.1.getD []).length:=by omega
 have j:=C _ (fk g);have u:(p.1.getD []).getD s.2.1.toNat ((0:M),O)=(p.1.getD [])[k]:=by grind
 have w:decide ((0:M)≤s.2.1∧s.2.1<af (p.1.getD []))=W:=by simp_all
 have o:=aea (n:=(p.1.getD []).length) g (d:=(p.1.getD [])[k]) (kg g) s.2.2.1;rw[←hk]at o;rw[o];simp only[u,w,bf];generalize K:(p.1.getD [])[k]=d at *;have N:=j.2.1;rw[avi (by omega),aw];cases A:Ar (d.2.getD []) s.2.2.1 with
 |false=>simp|true=>
  let⟨b,P,_⟩:=E7.1 A;let⟨R,e,c1,c2⟩:=aei j b;rw[P,eE,c1];simp only[bf,Fo,jg,bh,bC,aw,eB];rw[ES (by omega),qz (by omega)];simp only[aw];by_cases h1:s.1<1;simp_all;simp only[ia h1,bh,bC];by_cases h2:s.1>p.2.2-1;simp only[iM h2,iM (show s.1≥p.2.2 by omega),bf];grind;simp only[ia h2,ia (show ¬s.1≥p.2.2 by omega),bh,bC];by_cases h3:s.2.2.2.1.1<0;simp_all;simp only[ia h3,bh,bC];by_cases S:s.2.2.2.1.2≤s.2.2.2.1.1;simp_all;simp only[ia S,bh,bC];by_cases T:s.2.2.2.1.2>(bK ((jc d b).getD []):M);simp_all;simp only[ia T,bh,bC];rw[ax (show decide ((0:M)≤0∧(0:M)≤(i:M)∧(i:M)≤af (p.2.1.getD []))=W by simp;omega)];cases H with
  |true=>simp_all|false=>
   simp only[bh,bC,aw,o0];rw[Lg (by omega),mY (by omega)];simp only[aw];have V:=lV ((jc d b).getD []) s.2.2.2.1.1 s.2.2.2.1.2;have X:=j.2.2;let⟨Y,d1,d2,d3⟩:=ad9 (d:=d) (by omega) (by omega) (src:=(fL ((jc d b).getD []) s.2.2.2.1.1 s.2.2.2.1.2).1) (by omega) (s:=s) r (v:=(aL (p.1.getD []),aL (p.2.1.getD []),p.2.2,eT (p.1.getD []) (p.1.getD []).length)) hk (by simp_all);have B:Y=0→LH (p.1.getD []) s:=λZ=>⟨k,d,hk,by grind,A,by omega,by omega,by grind,(d3 Z).1,λh=>by grind⟩;rw[d1,d2];by_cases x:(i:M)>0;have y:aO.wrap ((i:M)-1)=((i-1:U):M):=(by grind [wrap_i64]);simp only[iM x,bf,y];have q:i-1<(p.2.1.getD []).length:=(by omega);rw[ax (cS q),ax (cS q),avg];have z:∃bb,zX s ((p.2.1.getD []).getD (((i-1:U):M)).toNat (0,0,0,(0,0),0,O,[],0,I))=J bb:=(by grind [zX]);let⟨bb,z⟩:=z;rw[z];cases bb with|false=>simp_all|true=>simp_all
   simp_all
def vD(d:Dc):M:=(rD d).getD 0
def Td{d:Dc}(h1:(d.2.getD []).length≤1048576)(h2:(dA (d.2.getD [])).length≤1073741824):rD d=J (vD d)∧xh d=J (vD d)∧(vD d=0→lW d):=by
 let⟨e,v1,a,b⟩:=ac9 (d:=d) (by omega) h2;have:vD d=e:=by unfold vD;rw[v1];rfl
 rw[this];exact⟨v1,a,b⟩
def oE(p:dV)(i:U):M:=(zY p (i:M)).getD 0
def iK(e:M):Q M:=if e=0 then O else J e
def gS(p:dV):M:=if(p.1.getD []).length>16∨(p.2.1.getD []).length>512 then 3 else
 match scan (λi=>iK (vD ((p.1.getD []).getD i (0,O)))) 0 (p.1.getD []).length with
 |some e=>e|none=>if p.2.2<1∨p.2.2>1073741824 then 1 else
  match scan (λi=>iK (oE p i)) 0 (p.2.1.getD []).length with|some e=>e|none=>0
theorem Te{e r:M}(h:iK e=J r):r=e∧r≠0:=by grind [iK]
theorem Tf{e:M}(h:iK e=O):e=0:=by simp_all [iK]
structure LI(p:dV):Prop where
 nd:(p.1.getD []).length≤16
 ns:(p.2.1.getD []).length≤512
 docs:∀d∈p.1.getD [],lW d
 nx:1≤p.2.2∧p.2.2≤1073741824
 sg:∀s∈p.2.1.getD [],LH (p.1.getD []) s
set_option maxHeartbeats 1000000 in
theorem pp{p:dV}(hp:po p):xn p=J (gS p)∧Kd p=J (if gS p=0 then(0,W,aL (p.1.getD []),aL (p.2.1.getD []),p.2.2,eT (p.1.getD []) (p.1.getD []).length)else(gS p,I,O,O,0,[]))∧(gS p=0→LI p):=by
 have w:=hp.nd;have x:=hp.ns;unfold xn Kd aM ag aj;by_cases b:(p.1.getD []).length>16∨(p.2.1.getD []).length>512;grind [gS,af];have y:(decide (af (p.1.getD [])>16)||decide (af (p.2.1.getD [])>512))=I:=by simp;omega
 rw[y];simp only[bh,bC];have o:∀i,i<(p.1.getD []).length→rD ((p.1.getD []).getD i (0,O))=J (vD ((p.1.getD []).getD i (0,O)))∧xh ((p.1.getD []).getD i (0,O))=J (vD ((p.1.getD []).getD i (0,O)))∧(vD ((p.1.getD []).getD i (0,O))=0→lW ((p.1.getD []).getD i (0,O))):=λi hi=>by rw[kg hi];have:=hp.parts _ (fk hi);exact Td this.1 this.2
 have q:=xI (F:=Kq p) (p.1.getD []).length (λi=>(i:M)) (λi=>iK (vD ((p.1.getD []).getD i (0,O)))) () (λi hi _=>by
  have a:=cI (i:=i) (by omega)
  unfold Kq bq aF ag aj aq ay au
  rw[dq hi,ax (cS hi),a,eE,(o i hi).1,aw]
  grind [iK]) (λ_=>by
  unfold Kq bq aF ag aj aq ay au
  rw[eZ]) (cb (bT (by omega)))
 have g:=xI (F:=Kb p) (p.1.getD []).length (λi=>(i:M)) (λi=>(iK (vD ((p.1.getD []).getD i (0,O)))).map λr=>((),r)) () (λi hi _=>by
  have a:=cI (i:=i) (by omega)
  unfold Kb bq aF ag aj aq ay au
  rw[dq hi,ax (cS hi),a,eE,(o i hi).2.1,aw]
  grind [iK]) (λ_=>by
  unfold Kb bq aF ag aj aq ay au
  rw[eZ]) (cb (bT (by omega)))
 rw[E5]at g;rw[show((0:U):M)=0 from rfl]at q g;rw[q,g];simp only[aw];unfold gS;rw[aK b];cases t:scan (λi=>iK (vD ((p.1.getD []).getD i (0,O)))) 0 (p.1.getD []).length with
 |some e=>let⟨j,_,_,h⟩:=xy t;have z:=(Te h).2;simp_all
 |none=>
  have k:∀d∈p.1.getD [],lW d:=λd hd=>by grind [yb,Tf,Lw]
  simp only[Option.map_none,o0];by_cases l:p.2.2<1∨p.2.2>1073741824;grind;have m:(decide (p.2.2<1)||decide (p.2.2>1073741824))=I:=by simp;omega
  rw[aK l];simp only[m,bh,bC];have C:=λi(hi:i<(p.2.1.getD []).length)=>avl hp k (by omega) hi;have u:∀i(hi:i<(p.2.1.getD []).length),Ec (i:M) (n7 (p.2.1.getD []) i) (aL (p.1.getD []),aL (p.2.1.getD []),p.2.2,eT (p.1.getD []) (p.1.getD []).length)=J (oE p i)∧zY p (i:M)=J (oE p i)∧(oE p i=0→LH (p.1.getD []) (p.2.1.getD [])[i]):=λi hi=>by grind [oE]
  have c:=xI (F:=Kr p) (p.2.1.getD []).length (λi=>(i:M)) (λi=>iK (oE p i)) () (λi hi _=>by
   have a:=cI (i:=i) (by omega)
   unfold Kr aB ag aj aq ay au
   rw[dq hi,(u i hi).2.1,aw,a]
   grind [iK]) (λ_=>by
   unfold Kr aB ag aj aq ay au
   rw[eZ]) (cb (bT (by omega)))
  rw[show((0:U):M)=0 from rfl]at c;have A:bA (Ee p) (0,aL (p.1.getD []),aL (p.2.1.getD []),p.2.2,[])=J (aL (p.1.getD []),aL (p.2.1.getD []),p.2.2,eT (p.1.getD []) (p.1.getD []).length):=by rw[show((0,aL (p.1.getD []),aL (p.2.1.getD []),p.2.2,[]):M×Q (L Dc)×Q (L fX)×M×L KV)=(((0:U):M),aL (p.1.getD []),aL (p.2.1.getD []),p.2.2,eT (p.1.getD []) 0)from rfl];refine ep (f:=Ee p) (p.1.getD []).length (λi=>((i:M),aL (p.1.getD []),aL (p.2.1.getD []),p.2.2,eT (p.1.getD []) i)) (λi hi=>?_) ?_ (cb (bT (by omega)));have a:=cI (i:=i) (by omega);have hd:=k _ (fk hi);have B:=hd.2.1;unfold Ee bq aF aj aq ay au;simp only[];rw[dq hi,ax (cS hi),eE,au8 (by rw[kg hi];omega) (by rw[kg hi];exact hd.raw),aw];rw[ava (p.1.getD []) i (aL (p.1.getD []),aL (p.2.1.getD []),p.2.2),aw,a];unfold Ee bq aF aj aq ay au;simp_all
  have v:=xI (F:=Kc (aL (p.1.getD []),aL (p.2.1.getD []),p.2.2,eT (p.1.getD []) (p.1.getD []).length)) (p.2.1.getD []).length (λi=>(n7 (p.2.1.getD []) i,(i:M))) (λi=>(iK (oE p i)).map λr=>((),r)) () (λi hi _=>by
   have a:=cI (i:=i) (by omega)
   unfold Kc bq aF ag aj aq ay au
   simp only[bS]
   rw[dq hi,ax (cS hi),(u i hi).1,aw,a,getD_at hi,aee hi]
   grind [iK]) (λ_=>by
   unfold Kc bq aF ag aj aq ay au
   simp_all) (cb (bT (by omega)))
  rw[E5,show((n7 (p.2.1.getD []) 0,((0:U):M)):L M×M)=([],0)from rfl]at v;rw[c,ave hp];simp only[aw];rw[A,aw,v,aw];cases n:scan (λi=>iK (oE p i)) 0 (p.2.1.getD []).length with
  |some e=>let⟨j,_,_,h⟩:=xy n;have z:=(Te h).2;simp_all
  |none=>refine⟨rfl,rfl,λ_=>⟨by omega,by omega,k,by omega,λs t=>?_⟩⟩;grind [yb,Tf,Lw]
def jd{n:M}(b:0<n)(h1:n≤1099511627776)(o:Q (L M)){N:U}(f:N≤1152921504606846976):∃k:U,(k:M)<n∧gD n (o,(N:M))=J ((k:M),((N+1:U):M)):=by unfold gD PZ aF bJ al aB aj aq aR;have c:=cI (i:=N) (by omega);simp only[];rw[ax (by simp<;>omega),ax (by simp<;>omega)];generalize (if decide ((N:M)<af (o.getD []))=W then(o.getD []).getD ((N:M)).toNat 0 else 0)=x;have d:x.tmod n<n:=Int.tmod_lt_of_pos x b;have e: -n<x.tmod n:=Int.lt_tmod_of_pos x b;simp only[aw,c];by_cases a:x.tmod n<0;rw[ax (by simpa using a),eo (by omega)];exact⟨(x.tmod n+n).toNat,by omega,by grind⟩;rw[aK (by simpa using a)];exact⟨(x.tmod n).toNat,by omega,by grind⟩
def Tg(nd:U)(s:fX):Prop:=(∃k:U,s.2.1=(k:M)∧k<nd)∧tot (s.2.2.2.2.2.1.getD [])≤34304
structure fh(p:dV):Prop where
 nd:(p.1.getD []).length≤16
 docs:∀d∈p.1.getD [],lW d∧vD d=0
 ns:(p.2.1.getD []).length≤512
 sg:∀s∈p.2.1.getD [],Tg (p.1.getD []).length s
theorem fh.b{p:dV}(h:fh p):po p:=⟨λd hd=>by have:=(h.docs d hd).1.2;grind,λs a=>by have:=(h.sg s a).2;omega,by have:=h.nd;omega,by have:=h.ns;omega⟩
abbrev As:=L Dc×Q (L fX)×M
def BI(D:L Dc)(B:U)(b:As):Prop:=b.1=D∧(b.2.1.getD []).length≤B∧∀s∈b.2.1.getD [],Tg D.length s
def avm{D:L Dc}{i j:U}(hi:i<D.length){x:As}{r1:Q (L M)}{s2:M×As}{a:Q (L (M×M))}(g:(a.getD []).length≤1025){B:U}(l:B≤4294967296){y:As}(hy:BI D B y):∃r,bA (Ja ((i:M),x) r1 s2 a) (0,y)=J r∧BI D (B+1025) r:=by
 refine eY (f:=Ja ((i:M),x) r1 s2 a) (λz=>∃k:U,z.1=(k:M)∧k≤(a.getD []).length∧BI D (B+k) z.2) (λz=>(a.getD []).length-z.1.toNat) (BI D (B+1025)) (λz h=>?_) (0,y) ⟨0,rfl,fm _,hy⟩ (cb (bT (by simp;omega)));let⟨c,z⟩:=z;obtain⟨k,rfl,hk,h1,h2,h3⟩:=h;simp only[]at h1 h2 h3;unfold Ja aF al aB aj aq ay au aY;simp only[];by_cases b:k<(a.getD []).length;have e:=cI (i:=k) (by omega);rw[dq b,ax (by rw[cS b];simp;omega),e];refine⟨⟨k+1,rfl,b,h1,by simp;omega,λs d=>?_⟩,by simp;omega⟩;rw[eB]at d;rcases l5.1 d with d|d
 exact h3 s d;rw[ng]at d;subst d;exact⟨⟨i,rfl,hi⟩,by simp[tot]⟩;obtain rfl:k=(a.getD []).length:=by omega
 rw[eZ];exact⟨h1,by omega,h3⟩
def avn{docs:Q (L Dc)}{a:Q (L An)}(n:Ao a)(o:∀d∈docs.getD [],lW d){i:U}(hi:i<(docs.getD []).length){x:As}{r1:Q (L M)}(p:(r1.getD []).length≤131075){B:U}(v:B≤3221225472){y:As}(hy:BI (docs.getD []) B y):∃r,bA (Jb docs a ((i:M),x) r1) (0,y)=J r∧BI (docs.getD []) (B+134351875) r:=by
 refine eY (f:=Jb docs a ((i:M),x) r1) (λz=>∃k:U,z.1=(k:M)∧k≤(r1.getD []).length∧BI (docs.getD []) (B+1025*k) z.2) (λz=>(r1.getD []).length-z.1.toNat) (BI (docs.getD []) (B+134351875)) (λz h=>?_) (0,y) ⟨0,rfl,fm _,hy⟩ (cb (bT (by simp;omega)));let⟨c,z⟩:=z;obtain⟨k,rfl,hk,g⟩:=h;unfold Jb bq aM aF aj aq ay au;simp only[];by_cases b:k<(r1.getD []).length;have q:=cI (i:=k) (by omega);have hd:=o _ (fk hi);rw[dq b,ax (cS b),getD_at hi,q];let⟨f,e,m,_,_⟩:=E1 (d:=(docs.getD [])[i]) hd.raw ((r1.getD []).getD ((k:M)).toNat 0);have l:=aeh hd.raw _ _ m;simp only[]at l;let⟨rg,s,t⟩:=auP n (f:=f) (by omega);let⟨r,u,w⟩:=avm (D:=docs.getD []) (i:=i) (j:=k) hi (x:=x) (r1:=r1) (s2:=((k:M),z)) t (B:=B+1025*k) (by omega) g;rw[m,aw,s,aw,u,aw];refine⟨⟨k+1,rfl,b,?_⟩,by simp;omega⟩;grind;obtain rfl:k=(r1.getD []).length:=by omega
 rw[eZ];exact⟨g.1,by have:=g.2.1;grind,g.2.2⟩
def avo{docs:Q (L Dc)}{a:Q (L An)}(v:Ao a)(q:∀d∈docs.getD [],(d.2.getD []).length≤1048576∧(dA (d.2.getD [])).length≤1073741824):∃p e,zC docs a=J (p,e)∧(e=0→fh p):=by
 unfold zC aM al aB aj;by_cases hn:(docs.getD []).length>16;rw[ax (by simp;omega)];grind;rw[aK (by simp;omega)];have t:=xI (F:=I9 docs) (docs.getD []).length (λi=>(i:M)) (λi=>(iK (vD ((docs.getD []).getD i (0,O)))).map λe=>(e,((O,O,0):dV))) () (λi hi _=>by
  have n:=cI (i:=i) (by omega)
  have o:=q _ (fk hi)
  have hv:=(Td (d:=(docs.getD []).getD i (0,O)) (by grind) (by grind)).1
  unfold I9 bq aF ag aj aq ay au
  rw[dq hi,ax (cS hi),n,eE,hv,aw]
  grind [iK]) (λ_=>by
  unfold I9 bq aF ag aj aq ay au
  rw[eZ]) (cb (bT (by omega)))
 rw[E5,show((0:U):M)=0 from rfl]at t;rw[t,aw];cases l:scan (λi=>iK (vD ((docs.getD []).getD i (0,O)))) 0 (docs.getD []).length with
 |some e=>let⟨j,_,_,w⟩:=xy l;exact⟨(O,O,0),e,rfl,λh=>bX h (Te w).2⟩
 |none=>
  have g:∀d∈docs.getD [],lW d∧vD d=0:=λd hd=>by obtain⟨i,hi,rfl⟩:=yb hd;have y:=Tf (Lw l i hi);rw[kg hi]at y;have o:=q _ (fk hi);simp_all [Td]
  simp only[Option.map_none,o0];rw[ax (by simp;omega)];let⟨r,h1,h2⟩:=eY (f:=Pt docs a) (λz=>∃k:U,z.1=(k:M)∧k≤(docs.getD []).length∧BI (docs.getD []) (134351875*k) z.2) (λz=>(docs.getD []).length-z.1.toNat) (BI (docs.getD []) 2149630000) (λz h=>by let⟨c,z⟩:=z;obtain⟨k,rfl,hk,m⟩:=h;unfold Pt bq aM aF aj aq ay au;simp only[];by_cases b:k<(docs.getD []).length;have n:=cI (i:=k) (by omega);have hd:=(g _ (fk b)).1;have A:=EY (((docs.getD [])[k]).2.getD []) (((docs.getD [])[k]).2.getD []).length;have C:=hd.2.1;rw[dq b,ax (cS b),getD_at b,n,SU,EZ (by omega),aw];let⟨r,D,E⟩:=avn v (λd hd=>(g d hd).1) b (x:=z) (r1:=aL ((jE (((docs.getD [])[k]).2.getD []) (((docs.getD [])[k]).2.getD []).length).map eP)) (by rw[bS,jf];omega) (B:=134351875*k) (by omega) m;rw[D,aw];refine⟨⟨k+1,rfl,b,?_⟩,by simp;omega⟩;grind;obtain rfl:k=(docs.getD []).length:=(by omega);rw[eZ];exact⟨m.1,by have:=m.2.1;grind,m.2.2⟩) (0,[]++docs.getD [],O,1) ⟨0,rfl,fm _,by simp,by simp,λs l=>by simp at l⟩ (cb (bT (by simp;omega)));rw[h1,aw];let⟨h3,G,H⟩:=h2;by_cases u:(r.2.1.getD []).length>512;rw[ax (by simp;omega)];grind;rw[aK (by simp;omega)];refine⟨(J r.1,r.2),0,by simp,λ_=>⟨?_,?_,?_,?_⟩⟩;grind;grind;simp only[];omega;grind
def avp(tags:ao)(o:Q (L M)){N:U}(a:N≤1152921504606846976):∃f,Kw tags (o,(N:M))=J (f,((N+1:U):M))∧tot (f.getD [])≤100:=by
 unfold Kw qu al ag aR;dsimp-proj only[ah];simp only[aw];have key:∀n:M,n=6∨n=8→∃k:U,k<8∧gD n (o,(N:M))=J ((k:M),((N+1:U):M)):=λn hn=>by let⟨k,h1,h2⟩:=jd (n:=n) (by omega) (by omega) o a;grind
 have hn:∀(l:L (Q (L aC))),l.length=8→((if(!tags)=W then aO.wrap (af l-2)else af l)=6∨(if(!tags)=W then aO.wrap (af l-2)else af l)=8):=λl b=>by rw[dp,b];cases tags;exact .inl rfl;exact .inr rfl
 let⟨k,h1,h2⟩:=key _ (hn [J [(1,[83,97,118,101,46],0)],J [(1,[114,101,100,32,99,97,114,32,50,50,33],0)],J [(1,[79,112,101,110,32],0),(5,[110],0),(1,[32,110,111,119,46],0)],J [(1,[97,32,82,101,100,32,99,97,114,46],0)],J [(1,[83,97,118,101,46],0)],J [(1,[120],0)],J [(2,[98],1),(1,[83,97,118,101,46],0),(3,[98],1)],J [(1,[79,112,101,110,32],0),(2,[98],1),(1,[99,97,114,115],0),(3,[98],1),(1,[46],0),(4,[98,114],2)]] rfl);rw[h2,aw];have hk:k=0∨k=1∨k=2∨k=3∨k=4∨k=5∨k=6∨k=7:=by omega
 rcases hk with rfl|rfl|rfl|rfl|rfl|rfl|rfl|rfl<;>exact⟨_,rfl,of_decide_eq_true rfl⟩
def avq{fmt:M}{f:L aC}(h:tot f≤100):(encS fmt f).1.length≤500:=by grind [encS,E2]
def Ti{k:U}(h:k<3):aO.wrap (1+(k:M))=((k+1:U):M)∧eO ((k+1:U):M):=by refine⟨by grind [wrap_i64],?_⟩;unfold eO;omega
def avr{s:Q (L M)×M}{k0:U}(d:k0<3){z:M}{i N:U}(hi:i<3)(q:N≤1125899906842624):∃(r:L ai)(b:U),bA (Kx s ((k0:M),z)) ([],(i:M),(N:M))=J (r,(b:M))∧r.length≤1503∧b≤N+3:=by
 let⟨r,h1,b,h2,h3,t⟩:=eY (f:=Kx s ((k0:M),z)) (λy=>∃k a:U,y.2.1=(k:M)-1∧k≤3∧y.1.length≤501*(3-k)∧y.2.2=(a:M)∧a≤N+(3-k)) (λy=>(y.2.1+1).toNat) (λr=>∃b:U,r.2=(b:M)∧r.1.length≤1503∧b≤N+3) (λy h=>by
  let⟨acc,c,m⟩:=y
  obtain⟨k,a,rfl,hk,e,rfl,u⟩:=h
  simp only[]at e
  let⟨g,j⟩:=Ti d
  unfold Kx al aB ag aR ay au cr aY
  simp only[]
  by_cases l:0<k
  have hd:aO.wrap ((k:M)-1-1)=((k-1:U):M)-1:=by grind [wrap_i64]
  let⟨f,n,o⟩:=avp (((k0+1:U):M)==1) s.1 (N:=a) (by omega)
  have v:=avq (fmt:=((k0+1:U):M)) o
  rw[ax (by simp;omega),g,hd,n,aw]
  simp only[]
  rw[ade j (by omega),aw]
  have p:((!!decide (acc=[])||decide (acc.length+1≤1152921504606846976))&&decide ((if(!decide (acc=[]))=W then acc++[32]else acc).length+(encS ((k0+1:U):M) (f.getD [])).1.length≤1152921504606846976))=W:=by grind [Decidable.decide]
  rw[ax p]
  refine⟨⟨k-1,a+1,rfl,by omega,?_,rfl,by omega⟩,by simp;omega⟩
  grind
  grind) ([],(i:M),(N:M)) ⟨i+1,N,by simp,by omega,by simp,rfl,by omega⟩ (cb (bT (by simp;omega)))
 grind
def avs{k:U}(h:k≤3):(x9 k).length≤2:=by grind [x9]
def avt{s:Q (L M)×M}{k0:U}(e:k0<3){z:M}{i N:U}(hi:i≤3)(w:N≤1125899906842000){a:L ai}(j:a.length≤10):∃(r:L ai)(d:U),bA (Ky s ((k0:M),z)) (a,(i:M),(N:M))=J (r,(d:M))∧r.length≤6000∧d≤N+12:=by
 let⟨r,h1,d,h2,h3,A⟩:=eY (f:=Ky s ((k0:M),z)) (λy=>∃k b:U,y.2.1=(k:M)∧k≤3∧y.1.length≤10+1600*(3-k)∧y.2.2=(b:M)∧b≤N+4*(3-k)) (λy=>y.2.1.toNat) (λr=>∃d:U,r.2=(d:M)∧r.1.length≤6000∧d≤N+12) (λy h=>by
  let⟨acc,c,m⟩:=y
  obtain⟨k,b,rfl,hk,j,rfl,B⟩:=h
  simp only[]at j
  let⟨o,C⟩:=Ti e
  unfold Ky aM al aB ag aR ay au cr aY gP Zh;dsimp-proj only[ah]
  simp only[]
  by_cases p:0<k
  have hd:aO.wrap ((k:M)-1)=((k-1:U):M):=by grind [wrap_i64]
  let⟨q,D,t⟩:=jd (n:=3) (by omega) (by omega) s.1 (N:=b) (by omega)
  let⟨r,d,u,E,F⟩:=avr (s:=s) e (z:=z) (i:=q) (N:=b+1) (by omega) (by omega)
  have v:=avs hk
  rw[ax (by simp;omega),t,aw,u,aw,o,hd]
  simp only[]
  have g:k0=0∨k0=1∨k0=2:=by omega
  have fin:∀x:L ai,x.length≤1520→((∃k' l:U,((k-1:U):M)=(k':M)∧k'≤3∧(acc++x).length≤10+1600*(3-k')∧((d:U):M)=(l:M)∧l≤N+4*(3-k'))∧((k-1:U):M).toNat<((k:M)).toNat):=λx G=>by refine⟨⟨k-1,d,rfl,by omega,?_,rfl,by omega⟩,by simp;omega⟩;grind
  rcases g with rfl|rfl|rfl
  rw[ax (show(((0+1:U):M)==1)=W from rfl),ax (by simp;omega)]
  exact fin _ (by simp;omega)
  rw[aK (show ¬(((1+1:U):M)==1)=W by decide),ax (show(((1+1:U):M)==2)=W from rfl),Sw k (by omega),aw,ax (by simp;omega)]
  exact fin _ (by simp;omega)
  grind
  grind) (a,(i:M),(N:M)) ⟨i,N,rfl,hi,by simp only[];omega,rfl,by omega⟩ (cb (bT (by simp;omega)))
 grind
def xN(d:Dc):Prop:=(d.2.getD []).length≤1048576∧(dA (d.2.getD [])).length≤1073741824
def aej(fmt:M)(data:L ai):∃d at' e,o8 fmt data=J (d,at',e)∧xN d:=by
 let⟨d,at',e,h1,_,h3⟩:=ac8 fmt data;refine⟨d,at',e,h1,?_⟩;by_cases a:e=0;let⟨_,_,b,c,f⟩:=h3 a;exact⟨by omega,by rw[b];omega⟩;have:bo (λr:Dc×M×M=>r.2.2≠0→xN r.1) (o8 fmt data):=by have g:xN (0,O):=⟨by simp,by simp[dA]⟩;grind [o8,bo.call,bo.ret]
 exact this _ h1 a
def avu(o:Q (L M)){N:U}(u:N≤1125899906841000):∃(d:Dc)(a:U),Kz 3 (o,(N:M))=J (d,(a:M))∧xN d∧a≤N+14:=by
 unfold Kz;let⟨k,h1,h2⟩:=jd (n:=3) (by omega) (by omega) o (N:=N) (by omega);let⟨g,v⟩:=Ti (k:=k) (by omega);have b:aO.wrap (((k+1:U):M)-1)=(k:M):=by grind [wrap_i64]
 rw[h2,aw,g,b,ax (by grind [bw,gG])];let⟨i,h3,h⟩:=jd (n:=aO.wrap (3+1)) (by decide) (by decide) o (N:=N+1) (by omega);have h3:(i:M)<4:=h3;rw[h,aw];have c:k=0∨k=1∨k=2:=by omega
 have j:(([[60,104,116,109,108,62],[35,32,99,10],[116,101,120,116]]:L (L ai)).getD (0+((k:M)).toNat) []).length≤10:=by rcases c with rfl|rfl|rfl<;>decide
 let⟨r,a,l,_,w⟩:=avt (s:=(o,(N:M))) (k0:=k) (by omega) (z:=((N+1:U):M)) (i:=i) (N:=N+1+1) (by omega) (by omega) j;rw[l,aw];let⟨d,at',e,m,x⟩:=aej ((k+1:U):M) r;rw[m,aw];by_cases f:(e !=0)=W;rw[ax f];let⟨y,p,A,q,t⟩:=aej 1 [60,112,62,83,97,118,101,46,32,83,97,118,101,46,60,47,112,62,60,112,62,114,101,100,32,99,97,114,32,50,50,33,60,47,112,62];rw[q,aw];grind;rw[aK f];grind
def avv(o:Q (L M)){N:U}(s:N≤1000):∃(l:Q (L Dc))(b:U),KA (o,(N:M))=J (l,(b:M))∧(∀d∈l.getD [],xN d)∧b≤N+100:=by
 unfold KA aM al;let⟨k,h1,h2⟩:=jd (n:=3) (by omega) (by omega) o (N:=N) (by omega);rw[h2,aw];let⟨r,t,b,u,v,w⟩:=eY (f:=P2 (o,(N:M))) (λy=>∃i a:U,y.2.1=(i:M)-1∧i≤3∧y.2.2=(a:M)∧a≤N+1+14*(3-i)∧(y.1.getD []).length≤3-i∧∀d∈y.1.getD [],xN d) (λy=>(y.2.1+1).toNat) (λr=>∃b:U,r.2=(b:M)∧(∀d∈r.1.getD [],xN d)∧b≤N+100) (λy h=>by
  let⟨acc,c,m⟩:=y
  obtain⟨i,a,rfl,hi,rfl,x,e,hd⟩:=h
  simp only[]at e hd
  unfold P2 al aB aj aR ay au aY
  simp only[]
  by_cases g:0<i
  have j:aO.wrap ((i:M)-1-1)=((i-1:U):M)-1:=by grind [wrap_i64]
  let⟨d,b,p,z,A⟩:=avu o (N:=a) (by omega)
  rw[ax (by simp;omega),p,aw,j,ax (by simp;omega)]
  refine⟨⟨i-1,b,rfl,by omega,rfl,by omega,by simp;omega,λB q=>?_⟩,by simp;omega⟩
  grind
  grind) (O,(k:M),((N+1:U):M)) ⟨k+1,N+1,by simp,by omega,rfl,by omega,by simp,λd hd=>by simp at hd⟩ (cb (bT (by simp;omega)))
 grind [aw]
def aek{α:Type}(o:Q (L α))(k:U):(eQ (aV 0 (k:M)) o).getD []=(o.getD []).take k:=by
 cases o with|none=>simp|some x=>exact fF x 0 k
def ael{α:Type}(o:Q (L α))(k:U):(eQ (aV (k:M) (af (o.getD []))) o).getD []=(o.getD []).drop k:=by
 cases o with|none=>simp|some x=>exact gE x k
def aem{α:Type}(l:L α):(dj l).getD []=l:=by cases l<;>rfl
def avw{B:U}(g:B≤67108864){d:Dc}(h:∀q∈d.2.getD [],q.2.2.length≤B)(part:M):bo (λr=>tot (r.1.getD [])≤2*B+2) (lc d part):=by
 unfold lc rz bY aF al ag aj;rw[aw];have c:tot ((O:Q (L aC)).getD [])≤2*B+2:=by simp[tot]
 refine bo.ite (λ_=>bo.ret c) λe=>bo.ite (λ_=>bo.ite (λ_=>bo.ret c) λ_=>bo.ite (λf=>bo.call λr a=>bo.ret ?_) λ_=>bo.nil) λ_=>bo.nil;have e:eO d.1:=by grind [uH]
 simp only[eh,dp]at f;have b:part.toNat<(d.2.getD []).length:=by omega
 rw[kg b]at a;have i:=h _ (fk b);have:=aeg e (by omega) r a;grind
def aen{d:Dc}(h:lW d)(part:M):∃f e,lc d part=J (f,e)∧tot (f.getD [])≤131074:=by let⟨f,e,a,_,_⟩:=E1 (d:=d) h.raw part;refine⟨f,e,a,?_⟩;exact avw (B:=65536) (by decide) (λq b=>by have:=Ln b;have:=h.2.2;omega) part _ a
def aeo{p:dV}(h:fh p){i:U}(hi:i<(p.2.1.getD []).length):∃f,tV p (i:M)=J f∧tot (f.getD [])≤131074:=by
 let⟨⟨k,hk,a⟩,_⟩:=h.sg _ (fk hi);unfold tV bY aF aj;dsimp-proj only[ah];rw[ax (cS hi)];simp only[getD_at hi];generalize (p.2.1.getD [])[i]=s at *;have b:(p.1.getD []).getD s.2.1.toNat ((0:M),O)=(p.1.getD [])[k]:=by grind
 have hd:=(h.docs _ (fk a)).1;let⟨f,e,c,d⟩:=aen hd s.2.2.1;grind [cS,aw,mY,lV]
def Tj{p:dV}(hn:(p.2.1.getD []).length≤1048576)(id:M):w6 p id=J (-1)∨∃k:U,k<(p.2.1.getD []).length∧w6 p id=J (k:M):=by
 unfold w6 aM;let⟨r,h1,h2⟩:=eY (f:=Pu p id) (λy=>∃k:U,y=(k:M)∧k≤(p.2.1.getD []).length) (λy=>(p.2.1.getD []).length-y.toNat) (λr=>match r with|.inl z=>∃k:U,k<(p.2.1.getD []).length∧z=(k:M)|.inr _=>cZ) (λy h=>by
  obtain⟨k,rfl,hk⟩:=h
  unfold Pu bq aF ag aj aq ay au
  by_cases a:k<(p.2.1.getD []).length
  grind [wrap_i64]
  obtain rfl:k=(p.2.1.getD []).length:=by omega
  rw[eZ]
  trivial) 0 ⟨0,rfl,fm _⟩ (cb (bT (by simp;omega)))
 rw[h1,aw];cases r with|inl z=>simp_all|inr z=>exact .inl rfl
def avx{p:dV}(h:fh p){k:U}(hk:k<(p.1.getD []).length){src:Q (L aC)}(b:tot (src.getD [])≤536870912){s:fX}(c:tot (s.2.2.2.2.2.1.getD [])≤67108864)(a:s.2.1=(k:M)):∃e,zL ((p.1.getD [])[k]) src s=J e∧(e=0→iu (s.2.2.2.2.2.1.getD [])=0):=by have hd:=(h.docs _ (fk hk)).1;let⟨e,_,h2,h3⟩:=ad9 (d:=(p.1.getD [])[k]) (by have:=hd.2.1;omega) (by have:=hd.2.2;omega) b c (v:=(p.1,O,0,[])) a (List.getElem?_eq_getElem hk);grind
theorem avy{p:dV}(h:fh p){s:fX}(j:tot (s.2.2.2.2.2.1.getD [])≤67108864):∃d e,tW p s=J (d,e)∧(e=0→fh d):=by
 have l:=h.ns;have m:=h.nd;have n:=dH (s.2.2.2.2.2.1.getD []);unfold tW bY aF al aB ag aj;dsimp-proj only[ah];rcases Tj (p:=p) (by omega) s.1 with b|⟨i,hi,b⟩
 rw[b,aw,ax (by decide)];grind;let⟨⟨k,hk,a⟩,o⟩:=h.sg _ (fk hi);let⟨f,q,r⟩:=aeo h hi;rw[b,aw,aK (by simp),ax (cS hi),ax (by simp;omega)];simp only[getD_at hi,q];generalize u:(p.2.1.getD [])[i]=x at *;have c:(p.1.getD []).getD x.2.1.toNat ((0:M),O)=(p.1.getD [])[k]:=by grind
 let⟨e,t,hv⟩:=avx h a (src:=f) (by omega) (s:=(x.1,x.2.1,x.2.2.1,x.2.2.2.1,s.2.2.2.2.1,J ([]++s.2.2.2.2.2.1.getD []),s.2.2.2.2.2.2)) (by simpa using j) hk;rw[ax (by simp_all),c,aw,t,aw];by_cases g:e=0;rw[aK (by simp[g])];unfold Pv al aj;rw[ax (by simp;omega),ax (by simp[bw];omega),ax (by simp;omega)];refine⟨_,0,rfl,λ_=>⟨?_,?_,?_,?_⟩⟩;simpa using h.nd;simpa using h.docs;simpa using h.ns;intro y hy;simp only[eB,List.nil_append]at hy ⊢;rcases List.mem_or_eq_of_mem_set hy with hy|rfl
 exact h.sg y hy;refine⟨⟨k,hk,a⟩,?_⟩;simp_all [xJ];rw[ax (by simpa using g)];grind
theorem avz{p:dV}(h:fh p){s:fX}(c:tot (s.2.2.2.2.2.1.getD [])≤67108864):∃a e,mT p s=J (a,e)∧(e=0→fh a):=by grind [mT,pp,fh.b,aw,avy]
def avA(s:fX):∃r,Eg s=J r:=by
 unfold Eg ag;repeat' split
 all_goals exact⟨_,rfl⟩
def fh.cut{p:dV}(h:fh p){k:U}{l:L fX}{n:U}{x:M}(b:∀s∈l,Tg (p.1.getD []).length s)(hn:((p.2.1.getD []).take k++l++(p.2.1.getD []).drop n).length≤512):fh (J ([]++p.1.getD []),J ((p.2.1.getD []).take k++l++(p.2.1.getD []).drop n),x):=by
 refine⟨by simpa using h.nd,by simpa using h.docs,by simpa using hn,λs a=>?_⟩;simp only[eB,List.nil_append]at a ⊢;rcases l5.1 a with a|a
 rcases l5.1 a with a|a
 exact h.sg s (List.mem_of_mem_take a);exact b s a;exact h.sg s (List.mem_of_mem_drop a)
def avB{p:dV}(h:fh p)(id at' tg:M):∃f e,Ku p id at' tg=J (f,e)∧(e=0→fh f):=by
 have o:=h.ns;have q:=h.nd;unfold Ku bY aF al aB ag aj aq aR gP;dsimp-proj only[ah];rw[(pp h.b).1,aw];by_cases g:gS p=0;rotate_left;rw[ax (by simpa using g)];grind;rw[aK (by simp[g])];rcases Tj (p:=p) (by omega) id with d|⟨i,hi,d⟩
 rw[d,aw,ax (by decide)];grind;let⟨⟨k,hk,a⟩,r⟩:=h.sg _ (fk hi);rw[d,aw,aK (by simp),ax (cS hi)];simp only[getD_at hi];generalize c:(p.2.1.getD [])[i]=x at *;let⟨z,t⟩:=avA x;rw[qz (by omega)];simp only[aw,t];rw[mY (by omega),mY (by omega)];simp only[aw];have u:=cI (i:=i) (by omega);simp only[u,aek,ael,aem];by_cases c1:at'<1;simp only[iM c1,bf];grind;simp only[ia c1,bh,bC];by_cases j:at'≥aO.wrap (x.2.2.2.1.2-x.2.2.2.1.1);simp only[iM j,bf];grind;simp only[ia j,bh,bC];by_cases l:tg<0;simp only[iM l,bf];grind;simp only[ia l,bh,bC];by_cases m:tg>(bK (x.2.2.2.2.2.1.getD []):M);simp only[iM m,bf];grind;simp only[ia m,bh,bC];by_cases n:(decide (af (p.2.1.getD [])≥512)||decide (p.2.2≥1073741824))=W;simp only[n,bf];grind;simp only[n,bh,bC];have v:(p.2.1.getD []).length<512:=by grind [dp]
 have h1:=lV (x.2.2.2.2.2.1.getD []) 0 tg;have h2:=lV (x.2.2.2.2.2.1.getD []) tg (bK (x.2.2.2.2.2.1.getD []):M);rw[ax (by simp;omega),ax (by simp;omega)];refine⟨_,0,rfl,λ_=>h.cut (λs c=>?_) (by simp;omega)⟩;rcases iA.1 c with rfl|c
 exact⟨⟨k,hk,a⟩,by simp only[];omega⟩;rw[ng]at c;subst c;exact⟨⟨k,hk,a⟩,by simp only[];omega⟩
def avC{p:dV}(hn:(p.2.1.getD []).length≤1048576){i:U}(hi:i<(p.2.1.getD []).length):∃b,Ks p (i:M)=J b∧(b=W→i+1<(p.2.1.getD []).length):=by
 have a:=cI (i:=i) (by omega);unfold Ks aF al aj aq;dsimp-proj only[ah];simp only[a];by_cases c:i+1<(p.2.1.getD []).length;rw[ax (by grind)];grind;have:decide (((i+1:U):M)<af (p.2.1.getD []))=I:=by simp;omega
 rw[this];simp_all
set_option maxHeartbeats 1000000 in
def avD{p:dV}(h:fh p)(id:M):∃v e,Kt p id=J (v,e)∧(e=0→fh v):=by
 have C:=h.ns
 have D:=h.nd
 unfold Kt bY aF al aB ag aj aq aR aY;dsimp-proj only[ah]
 rw[(pp h.b).1,aw]
 by_cases w:gS p=0
 rotate_left
 ·rw[ax (by simpa using w)];grind
 rw[aK (by simp[w])]
 rcases Tj (p:=p) (by omega) id with m|⟨i,hi,m⟩
 ·rw[m,aw,ax (by decide)];grind
 obtain⟨b,E,n⟩:=avC (by omega) hi
 rw[m,aw,aK (by simp),E,aw]
 cases b with
 |false=>exact⟨(O,O,0),8,rfl,λh=>by cases h⟩
 |true=>
  have d:=n rfl
  have F:=cI (i:=i) (by omega)
  have o:aO.wrap ((i:M)+2)=((i+2:U):M):=by grind [wrap_i64]
  obtain⟨⟨k,hk,g⟩,G⟩:=h.sg _ (fk hi)
  obtain⟨_,A⟩:=h.sg _ (fk d)
  simp only[F,o,aek,ael,aem,jg,bh,bC]
  rw[ax (by rw[cS hi,cS d];rfl)]
  simp only[getD_at hi,getD_at d]
  generalize j:(p.2.1.getD [])[i]=x at *
  generalize H:(p.2.1.getD [])[i+1]=y at *
  have q:(p.1.getD []).getD x.2.1.toNat ((0:M),O)=(p.1.getD [])[k]:=by grind
  have hd:=(h.docs _ (fk g)).1
  have c:∀z:fX,((p.2.1.getD []).take i++[z]++(p.2.1.getD []).drop (i+2)).length≤512:=λz=>by simp;omega
  by_cases l:(x.2.2.2.2.1 !=0||y.2.2.2.2.1 !=0)=W
  ·rw[ax l]
   obtain⟨f,e,K,S⟩:=aen hd x.2.2.1
   rw[ax (by simp_all),q,K,aw]
   simp only[]
   have N:=lV (f.getD []) x.2.2.2.1.2 y.2.2.2.1.1
   rw[mY (by omega),aw,lh (by omega),aw]
   have r:=qC (x.2.2.2.2.2.1.getD []++(fL (f.getD []) x.2.2.2.1.2 y.2.2.2.1.1).1.getD []) []
   have t0:tot ([]:L aC)=0:=rfl
   rw[gR]at r
   have B:tot ((aL (nrm (x.2.2.2.2.2.1.getD []++(fL (f.getD []) x.2.2.2.1.2 y.2.2.2.1.1).1.getD []))).getD [])+tot (y.2.2.2.2.2.1.getD [])≤536870912:=by rw[bS];unfold nrm;omega
   rw[lh B,aw,bS]
   have t:=qC (nrm (x.2.2.2.2.2.1.getD []++(fL (f.getD []) x.2.2.2.1.2 y.2.2.2.1.1).1.getD [])++y.2.2.2.2.2.1.getD []) []
   rw[bS]at B
   rw[gR]at t
   generalize T:nrm (nrm (x.2.2.2.2.2.1.getD []++(fL (f.getD []) x.2.2.2.1.2 y.2.2.2.1.1).1.getD [])++y.2.2.2.2.2.1.getD [])=a
   have P:tot a≤1073741824:=by grind [nrm]
   rw[SW (by simp_all),aw,bS]
   by_cases hv:iu a=0
   ·rw[aK (by simp[hv]),ax (by simp;omega)]
    have R:=(xJ hv).1
    have u:∀z:fX,(decide ((0:M)≤0∧(0:M)≤(i:M)∧(i:M)≤af (p.2.1.getD []))&&(decide (((p.2.1.getD []).take i).length≤68719476736)&&(decide (0+((p.2.1.getD []).take i).length=((p.2.1.getD []).take i).length)&&(decide (((p.2.1.getD []).take i).length+1≤68719476736)&&((dj ((p.2.1.getD []).take i)).isSome==(dj ((p.2.1.getD []).take i)).isSome&&(decide ((0:M)≤((i+2:U):M)∧((i+2:U):M)≤af (p.2.1.getD [])∧af (p.2.1.getD [])≤af (p.2.1.getD []))&&(decide (0+((p.2.1.getD []).take i++[z]).length=((p.2.1.getD []).take i++[z]).length)&&decide (((p.2.1.getD []).take i++[z]).length+((p.2.1.getD []).drop (i+2)).length≤68719476736))))))))=W:=λz=>by simp;omega
    simp only[u,bf]
    repeat' split
    all_goals
     refine⟨_,0,rfl,λ_=>h.cut (λs j=>?_) (c _)⟩
     rw[ng]at j
     subst j
     exact⟨⟨k,hk,g⟩,by simp_all⟩
   ·rw[ax (by simpa using hv)];grind
  ·rw[aK l]
   rw[ax (by simp;omega)]
   have u:∀z:fX,(decide ((0:M)≤0∧(0:M)≤(i:M)∧(i:M)≤af (p.2.1.getD []))&&(decide (((p.2.1.getD []).take i).length≤68719476736)&&(decide (0+((p.2.1.getD []).take i).length=((p.2.1.getD []).take i).length)&&(decide (((p.2.1.getD []).take i).length+1≤68719476736)&&((dj ((p.2.1.getD []).take i)).isSome==(dj ((p.2.1.getD []).take i)).isSome&&(decide ((0:M)≤((i+2:U):M)∧((i+2:U):M)≤af (p.2.1.getD [])∧af (p.2.1.getD [])≤af (p.2.1.getD []))&&(decide (0+((p.2.1.getD []).take i++[z]).length=((p.2.1.getD []).take i++[z]).length)&&decide (((p.2.1.getD []).take i++[z]).length+((p.2.1.getD []).drop (i+2)).length≤68719476736))))))))=W:=λz=>by simp;omega
   simp only[u,bf]
   repeat' split
   all_goals
    refine⟨_,0,rfl,λ_=>h.cut (λs j=>?_) (c _)⟩
    rw[ng]at j
    subst j
    exact⟨⟨k,hk,g⟩,by simp[tot]⟩
def avE(o:Q (L M)){N:U}(b:N≤1152921504606846976):∃w,Kk (o,(N:M))=J (w,((N+1:U):M))∧w.length≤5:=by
 unfold Kk al;let⟨k,h1,h2⟩:=jd (n:=24) (by omega) (by omega) o b;rw[h2,aw,ax (by grind [bw,gG])];refine⟨_,rfl,?_⟩;simp only[uP,eE];have a:∀w∈([[114,101,100],[99,97,114],[82,101,100],[97],[99,97,114,115],[49,44,53],[50,50],[100,111,110,39,116],[46],[33],[32],[32,32],[60],[38],[123],[34],[92],[120,45,121],[10],[61],[125],[62],[9],[98]]:L (L ai)),w.length≤5:=by decide
 grind
def avF(o:Q (L M)){N:U}(p:N≤1125899906842624):∃(w:L ai)(b:U),Kl 2 (o,(N:M))=J (w,(b:M))∧w.length≤12∧b≤N+5:=by
 unfold Kl aM aq;let⟨k,h1,h2⟩:=jd (n:=aO.wrap (2+1)) (by decide) (by decide) o (N:=N) (by omega);have h1:(k:M)<3:=h1;rw[h2,aw];let⟨r,q,b,s,u,v⟩:=eY (f:=P0 (o,(N:M))) (λy=>∃i a:U,y.2.1=(i:M)∧i≤2∧y.1.length≤6*(2-i)∧y.2.2=(a:M)∧a≤N+1+2*(2-i)) (λy=>y.2.1.toNat) (λr=>∃b:U,r.2=(b:M)∧r.1.length≤12∧b≤N+5) (λy h=>by
  let⟨acc,c,m⟩:=y
  obtain⟨i,a,rfl,hi,e,rfl,x⟩:=h
  simp only[]at e
  unfold P0 fW al aB ag aR ay au cr aY
  simp only[]
  by_cases g:0<i
  have hd:aO.wrap ((i:M)-1)=((i-1:U):M):=by grind [wrap_i64]
  let⟨w,j,z⟩:=avE o (N:=a) (by omega)
  rw[ax (by simp;omega),j,aw,hd]
  by_cases d:acc=[]
  rw[aK (by simp[d]),ax (by grind)]
  exact⟨⟨i-1,a+1,rfl,by omega,by grind,rfl,by omega⟩,by simp;omega⟩
  rw[ax (by simp[d])]
  let⟨t,A,l⟩:=jd (n:=3) (by omega) (by omega) o (N:=a+1) (by omega)
  have B:(if decide ((t:M)>0)=W then acc++[32]else acc).length≤acc.length+1:=by split<;>simp
  rw[l,aw,ax (by
   rw[bG,pw,eh,eh]
   grind)]
  exact⟨⟨i-1,a+1+1,rfl,by omega,by grind,rfl,by omega⟩,by simp;omega⟩
  grind) ([],(k:M),((N+1:U):M)) ⟨k,N+1,rfl,by omega,by simp,rfl,by omega⟩ (cb (bT (by simp;omega)))
 grind [aw]
def avG(o:Q (L M)){N:U}(a:N≤1152921504606846976):∃w,Kj (o,(N:M))=J (w,((N+1:U):M)):=by unfold Kj al;let⟨k,h1,h2⟩:=jd (n:=4) (by omega) (by omega) o a;rw[h2,aw,ax (by grind [bw,gG])];exact⟨_,rfl⟩
def avH{src:Q (L aC)}(E:tot (src.getD [])≤131074)(o:Q (L M))(z:M){N:U}(F:N≤1125899000000000):∃(f:Q (L aC))(e:U),Km src (o,(N:M))=J (f,(e:M))∧tot (f.getD [])≤2500000∧e≤N+1000000:=by
 have k:=dH (src.getD []);unfold Km aM;let⟨r,G,e,H,K,P⟩:=eY (f:=P1 src (o,(N:M))) (λy=>∃i b:U,y.2.1=(i:M)∧i≤(src.getD []).length∧tot (y.1.getD [])≤tot ((src.getD []).take i)+14*i∧y.2.2=(b:M)∧b≤N+6*i) (λy=>(src.getD []).length-y.2.1.toNat) (λr=>∃e:U,r.2=(e:M)∧tot (r.1.getD [])≤2500000∧e≤N+1000000) (λy h=>by
  let⟨acc,c,m⟩:=y
  obtain⟨i,b,rfl,hi,p,rfl,R⟩:=h
  simp only[]at p
  unfold P1 bq aF fW al ag aj aq ay au;dsimp-proj only[ah]
  simp only[]
  have q:=xG (src.getD []) i
  by_cases d:i<(src.getD []).length
  have s:=cI (i:=i) (by omega)
  have u:=uI d
  have v:tot ((src.getD []).take (i+1))=tot ((src.getD []).take i)+((src.getD [])[i].2.1.length+1):=by rw[iz d,gR];simp[tot]
  have t0:tot ([]:L aC)=0:=rfl
  have one:∀x:aC,tot [x]=x.2.1.length+1:=λx=>by simp[tot]
  have cat:∀(a:Q (L aC))(x:aC),tot (a.getD [])+(x.2.1.length+1)≤536870912→∃r,kc a (J [x])=J r∧tot (r.getD [])≤tot (a.getD [])+(x.2.1.length+1):=λa x S=>by grind [qC,lh,bS,nrm]
  rw[dq d,ax (cS d)]
  simp only[getD_at d,s]
  generalize (src.getD [])[i]=x at *
  by_cases h1:x.1=1
  rw[ax (by simp[h1]),ax (by simp;omega)]
  let⟨t,A,g⟩:=jd (n:=5) (by omega) (by omega) o (N:=b) (by omega)
  rw[g,aw,ax (by
   simp only[bG,eh]
   exact⟨by simp;omega,by grind [bw,gG]⟩)]
  have B:(([[114,111,116],[100,97,115,32,65,117,116,111],[],[101,105,110,32]++x.2.1,x.2.1]:L (L ai)).getD (0+((t:M)).toNat) []).length≤x.2.1.length+8:=by have T:t=0∨t=1∨t=2∨t=3∨t=4:=(by omega);grind
  let⟨r,c1,j⟩:=cat acc (x.1,([[114,111,116],[100,97,115,32,65,117,116,111],[],[101,105,110,32]++x.2.1,x.2.1]:L (L ai)).getD (0+((t:M)).toNat) [],x.2.2) (by simp only[];omega)
  simp only[]at j
  rw[c1,aw]
  exact⟨⟨i+1,b+1,rfl,d,by simp only[];omega,rfl,by omega⟩,by simp only[];omega⟩
  rw[aK (by simp[h1])]
  let⟨t,A,g⟩:=jd (n:=3) (by omega) (by omega) o (N:=b) (by omega)
  rw[g,aw]
  by_cases h3:((t:M)==0)=W
  rw[ax h3]
  let⟨w,V,X,Y,Z⟩:=avF o (N:=b+1) (by omega)
  let⟨r,c1,j⟩:=cat acc (1,w,0) (by simp only[];omega)
  simp only[]at j
  let⟨C,l,D⟩:=cat r x (by omega)
  grind [aw]
  rw[aK h3]
  let⟨C,l,D⟩:=cat acc x (by omega)
  rw[l,aw]
  exact⟨⟨i+1,b+1,rfl,d,by simp only[];omega,rfl,by omega⟩,by simp only[];omega⟩
  obtain rfl:i=(src.getD []).length:=by omega
  rw[eZ]
  grind) (O,0,(N:M)) ⟨0,N,rfl,fm _,by simp[tot],rfl,by omega⟩ (cb (bT (by simp;omega)))
 grind [aw]
def aep{p:dV}(h:fh p){r:dV×M}(b:r.2=0→fh r.1)(a:U):∃q,(if(r.2 !=0)=W then J (p,(a:M))else J (r.1,(a:M)))=J (q,(a:M))∧fh q:=by grind
def Tk{p:dV}(h:fh p){s:fX}(b:tot (s.2.2.2.2.2.1.getD [])≤67108864)(a:U):∃q,(ak (mT p s) λr=>if(r.2 !=0)=W then J (p,(a:M))else J (r.1,(a:M)))=J (q,(a:M))∧fh q:=by grind [avz,aw]
set_option maxHeartbeats 1000000 in
def avI{p:dV}(h:fh p)(o:Q (L M)){N:U}(V:N≤1000000000000):∃(g:dV)(m:U),Kv p (o,(N:M))=J (g,(m:M))∧fh g∧m≤N+1000010:=by
 have G:=h.ns
 unfold Kv bY aF ag aj aq aR;dsimp-proj only[ah]
 by_cases X:(p.2.1.getD []).length=0
 ·rw[ax (by simp_all)];grind
 rw[aK (by simp_all)]
 obtain⟨i,hi,n1⟩:=jd (n:=af (p.2.1.getD [])) (by simp;omega) (by simp;omega) o (N:=N) (by omega)
 have hi:i<(p.2.1.getD []).length:=by simp at hi;exact hi
 obtain⟨f,H,v⟩:=aeo h hi
 obtain⟨_,K⟩:=h.sg _ (fk hi)
 obtain⟨c,Y,n2⟩:=jd (n:=8) (by omega) (by omega) o (N:=N+1) (by omega)
 rw[n1,aw,ax (cS hi)]
 simp only[getD_at hi,H,aw]
 rw[n2,aw]
 generalize (p.2.1.getD [])[i]=x at *
 simp only[]
 have P:=pi (f.getD [])
 have R:=pi (x.2.2.2.2.2.1.getD [])
 by_cases c0:((c:M)==0)=W
 ·rw[ax c0,qz (by omega),aw]
  have B:0<mI 1 (aO.wrap ((bK (f.getD []):M)-1))∧mI 1 (aO.wrap ((bK (f.getD []):M)-1))≤1099511627776:=by
   grind [wrap_i64,mI]
  obtain⟨a,_,w⟩:=jd B.1 B.2 o (N:=N+1+1) (by omega)
  rw[w,aw,qz (by omega),aw]
  have C:aO.wrap ((bK (x.2.2.2.2.2.1.getD []):M)+1)=(bK (x.2.2.2.2.2.1.getD []):M)+1:=eo (by omega)
  obtain⟨b,_,S⟩:=jd (n:=aO.wrap ((bK (x.2.2.2.2.2.1.getD []):M)+1)) (by rw[C];omega) (by rw[C];omega) o (N:=N+1+1+1) (by omega)
  rw[S,aw]
  obtain⟨g,e,y,z⟩:=avB h x.1 (aO.wrap (1+(a:M))) (b:M)
  rw[y,aw]
  obtain⟨q,j,k⟩:=aep h (r:=(g,e)) z (N+1+1+1+1)
  exact⟨q,_,j,k,by omega⟩
 rw[aK c0]
 by_cases c1:((c:M)==1)=W
 ·rw[ax c1]
  obtain⟨g,e,y,z⟩:=avD h x.1
  rw[y,aw]
  obtain⟨q,j,k⟩:=aep h (r:=(g,e)) z (N+1+1)
  exact⟨q,_,j,k,by omega⟩
 rw[aK c1]
 by_cases E:((c:M)==2)=W
 ·rw[ax E]
  obtain⟨q,j,k⟩:=Tk h (s:=(x.1,x.2.1,x.2.2.1,x.2.2.2.1,0,O,[],0,x.2.2.2.2.2.2.2.2)) (by simp[tot]) (N+1+1)
  exact⟨q,_,j,k,by omega⟩
 rw[aK E]
 by_cases F:((c:M)==3)=W
 ·rw[ax F]
  obtain⟨q,j,k⟩:=Tk h (s:=(x.1,x.2.1,x.2.2.1,x.2.2.2.1,x.2.2.2.2.1,x.2.2.2.2.2.1,x.2.2.2.2.2.2.1,x.2.2.2.2.2.2.2.1,!x.2.2.2.2.2.2.2.2)) (by simp only[];omega) (N+1+1)
  exact⟨q,_,j,k,by omega⟩
 rw[aK F]
 obtain⟨a,Z,w⟩:=jd (n:=3) (by omega) (by omega) o (N:=N+1+1) (by omega)
 obtain⟨t,u,t1,t2,t3⟩:=avH v o 0 (N:=N+1+1+1) (by omega)
 obtain⟨nm,T⟩:=avG o (N:=u) (by omega)
 rw[w,aw]
 simp only[]
 rw[t1,aw]
 simp only[]
 rw[T,aw]
 simp only[]
 obtain⟨z1,_,k1⟩:=jd (n:=5) (by omega) (by omega) o (N:=u+1) (by omega)
 obtain⟨z2,_,k2⟩:=jd (n:=3) (by omega) (by omega) o (N:=u+1) (by omega)
 obtain⟨z3,_,k3⟩:=jd (n:=5) (by omega) (by omega) o (N:=u+1+1) (by omega)
 simp only[k1,k2,aw]
 simp only[k3,aw]
 have D:∀(st:M)(l:L ai)(fr:M)(A:ao)(d:U),d≤N+1000010→∃(g:dV)(m:U),(ak (mT p (x.1,x.2.1,x.2.2.1,x.2.2.2.1,st,t,l,fr,A)) λr=>if(r.2 !=0)=W then J (p,(d:M))else J (r.1,(d:M)))=J (g,(m:M))∧fh g∧m≤N+1000010:=λst l fr A d hM=>by
  obtain⟨q,j,k⟩:=Tk h (s:=(x.1,x.2.1,x.2.2.1,x.2.2.2.1,st,t,l,fr,A)) (by simp only[];omega) d
  grind
 repeat' split
 all_goals
  refine D _ _ _ _ _ ?_
  omega
def avJ:∃r,wN=J r∧Ao r:=by unfold wN;refine⟨_,rfl,by simp,λr a=>?_⟩;grind
def avK(o:Q (L M)):∃(p:dV)(b:U),KB 10 (o,0)=J (p,(b:M))∧fh p:=by
 unfold KB aM al ag aq;let⟨l,g,u,v,D⟩:=avv o (N:=0) (by omega);let⟨E,w,x⟩:=avJ;rw[show((o,0):Q (L M)×M)=(o,((0:U):M))from rfl,u,aw,w,aw,ax (by simp)];let⟨p,e,z,A⟩:=avo x (docs:=l) v;simp only[];rw[z,aw];by_cases j:e=0;rotate_left;rw[ax (by simpa using j)];exact⟨(O,O,1),g,rfl,⟨by simp,λd hd=>by simp at hd,by simp,λs B=>by simp at B⟩⟩;rw[aK (by simp[j])];let⟨k,hk,n1⟩:=jd (n:=aO.wrap (10+1)) (by decide) (by decide) o (N:=g) (by omega);have hk:(k:M)<11:=hk;rw[n1,aw];simp only[];let⟨r,F,b,G,H⟩:=eY (f:=P3 (o,((0:U):M))) (λy=>∃i a:U,y.1=(i:M)∧i≤10∧y.2.1=(a:M)∧a≤g+1+1000010*(10-i)∧fh y.2.2) (λy=>y.1.toNat) (λr=>∃b:U,r.1=(b:M)∧fh r.2) (λy h=>by
  let⟨c,m,q⟩:=y
  obtain⟨i,a,rfl,hi,rfl,K,t⟩:=h
  simp only[]at t
  unfold P3 aB aR ay au
  simp only[]
  by_cases C:0<i
  have hd:aO.wrap ((i:M)-1)=((i-1:U):M):=by grind [wrap_i64]
  let⟨P,b,R,S,T⟩:=avI t o (N:=a) (by omega)
  grind [aw]
  grind) ((k:M),((g+1:U):M),p) ⟨k,g+1,rfl,by omega,rfl,by omega,A j⟩ (cb (bT (by simp;omega)))
 grind [aw]
def avL{p:dV}{i:U}(hi:i<(p.2.1.getD []).length):qv p (i:M) I=J (decide ((bH (p.2.1.getD []) i).2.2.2.2.1=3)):=by grind [qv,bH,cS]
def qE(segs:L xk)(keep:U→ao)(num p:M)(k:U):L U:=(hY k).filter λi=>decide ((bH segs i).2.1=num)&&(keep i&&decide ((bH segs i).2.2.1=p))
def avM(segs:L xk)(keep:U→ao)(num p:M)(k:U):qE segs keep num p (k+1)=qE segs keep num p k++if(decide ((bH segs k).2.1=num)&&(keep k&&decide ((bH segs k).2.2.1=p)))=W then[k]else[]:=by unfold qE;rw[aaN,List.filter_append];grind
def aeq(segs:L xk)(keep:U→ao)(num p:M)(k:U):(qE segs keep num p k).length≤k:=by grind [qE]
def avN{p:dV}(hn:(p.2.1.getD []).length≤1048576){num:M}{preview:ao}{keep:U→ao}(hk:∀i,i<(p.2.1.getD []).length→(bH (p.2.1.getD []) i).2.1=num→qv p (i:M) preview=J (keep i)){us:Q (L M)}{j:U}(c:j<(us.getD []).length)(d:Dc):bA (Eh p num preview us ((j:M),d)) (O,O,0)=J (aL ((lR (p.2.1.getD []) keep num (us.getD [])[j]).map λi=>(bH (p.2.1.getD []) i).2.2.2.1),aL ((lR (p.2.1.getD []) keep num (us.getD [])[j]).map λi=>(bH (p.2.1.getD []) i).2.2.2.2.2.1)):=by
 rw[show((O,O,0):Q (L (M×M))×Q (L (Q (L aC)))×M)=(aL ((qE (p.2.1.getD []) keep num (us.getD [])[j] 0).map λi=>(bH (p.2.1.getD []) i).2.2.2.1),aL ((qE (p.2.1.getD []) keep num (us.getD [])[j] 0).map λi=>(bH (p.2.1.getD []) i).2.2.2.2.2.1),((0:U):M)) by simp[qE,aL]];refine ep (f:=Eh p num preview us ((j:M),d)) (p.2.1.getD []).length (λi=>(aL ((qE (p.2.1.getD []) keep num (us.getD [])[j] i).map λi=>(bH (p.2.1.getD []) i).2.2.2.1),aL ((qE (p.2.1.getD []) keep num (us.getD [])[j] i).map λi=>(bH (p.2.1.getD []) i).2.2.2.2.2.1),(i:M))) (λi hi=>?_) ?_ (cb (bT (by omega)));have e:=cI (i:=i) (by omega);have a:bH (p.2.1.getD []) i=(p.2.1.getD [])[i]:=by unfold bH;rw[kg hi]
 have g:=aeq (p.2.1.getD []) keep num (us.getD [])[j] i;have b:=hk i hi;unfold Eh bq aF al ag aj aq ay au aY;dsimp-proj only[ah];simp only[];rw[dq hi,ax (cS hi),avM];simp only[getD_at hi,getD_at c,e];rw[←a];by_cases h1:(bH (p.2.1.getD []) i).2.1=num;rw[ax (by simp[h1])];by_cases h2:(bH (p.2.1.getD []) i).2.2.1=(us.getD [])[j];rw[ax (by simp[h2]),b h1,aw,ax (by simp;omega)];grind [Sl];grind;grind;unfold Eh bq aF al ag aj aq ay au aY;dsimp-proj only[ah];simp only[];rw[eZ];rfl
def Tl(d:Dc):Prop:=(d.2.getD []).length≤131075∧(dA (d.2.getD [])).length≤65536
def Tm{p:dV}(hn:(p.2.1.getD []).length≤512)(x:∀s∈p.2.1.getD [],tot (s.2.2.2.2.2.1.getD [])≤67108864){num:M}{preview:ao}{keep:U→ao}(hk:∀i,i<(p.2.1.getD []).length→(bH (p.2.1.getD []) i).2.1=num→qv p (i:M) preview=J (keep i)){us:Q (L M)}(y:(us.getD []).length≤1048576):∀(m j:U)(d:Dc)(f:U),j+m=(us.getD []).length→m<f→Tl d→∃(b:Dc)(e:M),dy (zZ p num preview us) f ((j:M),d)=J (if e=0 then .inr b else .inl (e,0,O))∧jC (lR (p.2.1.getD []) keep num) (λi=>(bH (p.2.1.getD []) i).2.2.2.1) (λi=>(bH (p.2.1.getD []) i).2.2.2.2.2.1) ((us.getD []).drop j) d=J (b,e)∧(e=0→Tl b)∧(e≠0→b=(0,O))
 |0,j,d,f+1,z,_,hd=>by
  have:j=(us.getD []).length:=by omega
  subst this;refine⟨d,0,?_,?_,λ_=>hd,λh=>bX rfl h⟩;unfold dy zZ bq aM aF al ag aj aq ay au;simp_all;rw[List.drop_length];rfl
 |m+1,j,d,f+1,z,G,hd=>by
  have n:j<(us.getD []).length:=by omega
  have H:=cI (i:=j) (by omega);have K:=avN (by omega) hk n d;have o:=aeq (p.2.1.getD []) keep num (us.getD [])[j] (p.2.1.getD []).length;have o:(lR (p.2.1.getD []) keep num (us.getD [])[j]).length≤(p.2.1.getD []).length:=o
  have c:∀(l:L U),lR (p.2.1.getD []) keep num (us.getD [])[j]=l→jC (lR (p.2.1.getD []) keep num) (λi=>(bH (p.2.1.getD []) i).2.2.2.1) (λi=>(bH (p.2.1.getD []) i).2.2.2.2.2.1) ((us.getD []).drop j) d=if l=[]then jC (lR (p.2.1.getD []) keep num) (λi=>(bH (p.2.1.getD []) i).2.2.2.1) (λi=>(bH (p.2.1.getD []) i).2.2.2.2.2.1) ((us.getD []).drop (j+1)) d else match mS d (us.getD [])[j] (J (l.map λi=>(bH (p.2.1.getD []) i).2.2.2.1)) (J (l.map λi=>(bH (p.2.1.getD []) i).2.2.2.2.2.1))with|none=>O|some (b,e)=>if e=0 then jC (lR (p.2.1.getD []) keep num) (λi=>(bH (p.2.1.getD []) i).2.2.2.1) (λi=>(bH (p.2.1.getD []) i).2.2.2.2.2.1) ((us.getD []).drop (j+1)) b else J ((0,O),e):=λl q=>by
   rw[uY n,jC,q]
   split
   rfl
   split<;>simp_all
  have k:zZ p num preview us ((j:M),d)=if(af (lR (p.2.1.getD []) keep num (us.getD [])[j])==0)=W then J (.inl (((j+1:U):M),d))else ak (zK d (us.getD [])[j] (aL ((lR (p.2.1.getD []) keep num (us.getD [])[j]).map λi=>(bH (p.2.1.getD []) i).2.2.2.1)) (aL ((lR (p.2.1.getD []) keep num (us.getD [])[j]).map λi=>(bH (p.2.1.getD []) i).2.2.2.2.2.1))) λr=>if(r.2 !=0)=W then J (.inr (.inl (r.2,0,O)))else J (.inl (((j+1:U):M),r.1)):=by unfold zZ bq aM aF al ag aj aq ay au;simp_all
  rw[dy,k];cases q:lR (p.2.1.getD []) keep num (us.getD [])[j]with|nil=>rw[c [] q,ax (by decide)];simp only[bf];exact Tm hn x hk y m (j+1) d f (by omega) (by omega) hd|cons a l=>have A:(a::l).length≤512:=(by rw[←q];omega);have u:∀t∈((a::l).map λi=>(bH (p.2.1.getD []) i).2.2.2.2.2.1),tot (t.getD [])≤67108864:=λt v=>(by obtain⟨i,hi,rfl⟩:=kH.1 v;have hi:i<(p.2.1.getD []).length:=(by grind [lR]);unfold bH;rw[kg hi];grind);let⟨b,e,B,C,r⟩:=adC (d:=d) (by have:=hd.1;omega) (by have:=hd.2;omega) (us.getD [])[j] (rs:=J ((a::l).map λi=>(bH (p.2.1.getD []) i).2.2.2.1)) (ts:=J ((a::l).map λi=>(bH (p.2.1.getD []) i).2.2.2.2.2.1)) (by grind) (by grind) u;have ea:∀{β:Type}(g:U→β),aL ((a::l).map g)=J ((a::l).map g):=λg=>rfl;have w:(af (a::l)==0)=I:=(by simp;omega);rw[c (a::l) q,w,ea,ea,B,C];simp only[bh,bC,aw,List.cons_ne_nil];by_cases D:e=0;subst D;let⟨_,E,F,_⟩:=r rfl;simp only[show((0:M) !=0)=I from rfl,bh,bC,bf];exact Tm hn x hk y m (j+1) b f (by omega) (by omega) ⟨by rw[E];exact hd.1,F⟩;grind
def aer{p:dV}(hp:po p)(o:gS p=0→LI p){num:M}{preview:ao}{keep:U→ao}(hk:∀i,i<(p.2.1.getD []).length→(bH (p.2.1.getD []) i).2.1=num→qv p (i:M) preview=J (keep i)):(gS p≠0→rI p num preview=J ((0,O),gS p))∧(gS p=0→(num<0∨((p.1.getD []).length:M)≤num)→rI p num preview=J ((0,O),6))∧(gS p=0→0≤num→num<(p.1.getD []).length→∃(d:Dc)(e:M),rI p num preview=J (d,e)∧zU keep num (aL (p.1.getD []),aL (p.2.1.getD []),p.2.2,eT (p.1.getD []) (p.1.getD []).length)=J (d,e)∧(e=0→Tl d)∧(e≠0→d=(0,O))):=by
 unfold rI aM bY aF al ag aj;rw[(pp hp).1,aw];refine⟨λh=>by grind,λh hn=>?_,λh f q=>?_⟩;simp_all;have a:=o h;have r:(decide (num<0)||decide (num≥af (p.1.getD [])))=I:=by simp;omega
 have t:decide (0≤num∧num<af (p.1.getD []))=W:=by simp;omega
 obtain⟨k,rfl⟩:=oq f;have c:k<(p.1.getD []).length:=by omega
 have hd:=a.docs _ (fk c);have u:=hd.2.1;have v:=EY ((p.1.getD [])[k].2.getD []) ((p.1.getD [])[k].2.getD []).length;have g:=a.ns;rw[h,r,t,getD_at c,SU,EZ (by omega)];simp only[show((0:M) !=0)=I from rfl,bh,bC,bf,aw];let⟨d,e,w,D,y,z⟩:=Tm g (λs j=>by let⟨_,_,_,_,_,_,_,_,hv⟩:=a.sg s j;grind [xJ]) hk (us:=aL ((jE ((p.1.getD [])[k].2.getD []) ((p.1.getD [])[k].2.getD []).length).map eP)) (by rw[bS,jf];omega) _ 0 (p.1.getD [])[k] fuel (uP _) (by rw[bS,jf];exact cb (bT (by omega))) ⟨hd.2.1,hd.2.2⟩;refine⟨d,e,?_,?_,y,z⟩;rw[show bA (zZ p (k:M) preview (aL ((jE ((p.1.getD [])[k].2.getD []) ((p.1.getD [])[k].2.getD []).length).map eP))) (0,(p.1.getD [])[k])=_ from w,aw];by_cases A:e=0;subst A;rfl;simp_all;unfold zU;simp only[bS];have E:∀s∈p.2.1.getD [],qr s.2.2.1=W:=λs j=>by let⟨k2,d2,_,h2,h3,_⟩:=a.sg s j;let⟨b,n,l⟩:=E7.1 h3;have B:=(ad3 _ _ _ l).1;have m:=a.docs d2 (eA h2);have:=m.2.1;grind [qr]
 rw[ax (by grind)];rw[getD_at c,EZ (by omega)];simp only[bS];rw[ax (by simp only[bG,eh,fO,jf];refine⟨by omega,λx C=>?_⟩;obtain⟨b,n,rfl⟩:=kH.1 C;have:=(ad3 _ _ _ n).1;unfold qr;simp;omega)];simp_all
def lX(p:dV):kN:=(aL (p.1.getD []),aL (p.2.1.getD []),p.2.2,eT (p.1.getD []) (p.1.getD []).length)
def LJ{p:dV}(hp:po p)(num:M):(gS p≠0→qq p num=J (gS p,I,O,O,0,[]))∧(gS p=0→num<0∨((p.1.getD []).length:M)≤num→qq p num=J (6,I,O,O,0,[]))∧(gS p=0→¬(num<0∨((p.1.getD []).length:M)≤num)→qq p num=J (0,W,lX p)):=by unfold qq bJ ag aj;rw[(pp hp).2.1,aw];refine⟨λh=>?_,λh hn=>?_,λh hn=>?_⟩;grind;simp_all;simp only[h,bf,bS,qI,bh,bC,dp,pw,eh,ge_iff_le];rw[aK hn];rfl
def aes{p:dV}(hp:po p)(num:M):∃b e,xl p num=J (b,e)∧Ei p num=J (b,e):=by
 let⟨m,n,c⟩:=aer (preview:=I) (num:=num) (keep:=λi=>decide ((bH (p.2.1.getD []) i).2.2.2.2.1=3)) hp (pp hp).2.2 (λi hi _=>avL hi);unfold xl Ei al ag;let⟨o,q,d⟩:=LJ hp num;by_cases h:gS p=0;rotate_left;simp_all;by_cases hn:num<0∨((p.1.getD []).length:M)≤num;simp_all;rw[d h hn,aw];let⟨f,e,g,r,j,k⟩:=c h (by omega) (by omega);have l:uj num (lX p)=J (f,e):=by unfold uj lX;simp_all
 rw[g,aw];simp only[bf,qI,bh,bC];rw[l,aw];by_cases a:e=0;let⟨s,t⟩:=j a;subst a;simp only[];rw[Aj (by omega) (by omega),aw,aK (by simp),Le (by omega) (by omega),aw];grind;rw[ax (by simpa using a),k a];grind [Aj,dA,aw]
def avO(l:Q (L M)):∃b,Ki (J [l])=J b:=by
 unfold Ki aM;have:bA (ZC (J [l])) (0,0)=J (aO.wrap (0+af (l.getD []))):=by rfl
 simp_all
def avP(l:Q (L M)):∃p,KC l=J p∧fh p:=by let⟨p,N,h1,h2⟩:=avK l;simp_all [KC,PY]
def aet{p:dV}(a:LI p){i:U}(hi:i<(p.2.1.getD []).length):∃k d,(p.2.1.getD [])[i].2.1=((k:U):M)∧k<16∧(p.1.getD [])[k]?=J d∧lW d∧∃f,tot (f.getD [])≤268435462∧
  f=(fL ((jc d (p.2.1.getD [])[i].2.2.1.toNat).getD []) (p.2.1.getD [])[i].2.2.2.1.1 (p.2.1.getD [])[i].2.2.2.1.2).1∧tV p (i:M)=J f∧uf (i:M) (lX p)=J f:=by
 obtain⟨k,d,hk,hd,j,n,h1,h2,hv,o⟩:=a.sg _ (fk hi)
 have g:k<(p.1.getD []).length:=(gi.1 hd).1
 have h:(p.1.getD [])[k]=d:=(gi.1 hd).2
 have c:lW d:=h▸a.docs _ (fk g)
 refine⟨k,d,hk,by have:=a.nd;omega,hd,c,_,?_,rfl,?_,?_⟩
 all_goals
  obtain⟨b,q,_⟩:=E7.1 j
  obtain⟨l,e,c1,r⟩:=aei c b
  have m:=lV ((jc d b).getD []) (p.2.1.getD [])[i].2.2.2.1.1 (p.2.1.getD [])[i].2.2.2.1.2
 ·grind
 ·grind [tV,cS,eE,aw,mY]
 ·unfold uf ud lX bY aF al aj;dsimp-proj only[ah]
  grind [cS,aea,bS,aw,eE,Lg]
def aeu{p:dV}(hp:po p)(a:LI p){i:U}(hi:i<(p.2.1.getD []).length):∃b,qt (lX p) i=J b∧qv p (i:M) W=J b:=by
 let⟨k,d,hk,e,hd,h,f,j,c,hT,v⟩:=aet a hi;let⟨_,l,m,n,_,_,_,_,_,o⟩:=a.sg _ (fk hi);have:l=d:=by grind
 subst this;rw[←c]at o;have q:=dH (f.getD []);have r:=hp.tg _ (fk hi);have g:=dH ((p.2.1.getD [])[i].2.2.2.2.2.1.getD []);let⟨b,c1,w⟩:=adV (s:=f) (t:=(p.2.1.getD [])[i].2.2.2.2.2.1) (by omega) (by omega);have u:bH ((lX p).2.1.getD []) i=(p.2.1.getD [])[i]:=by unfold bH lX;simp_all
 grind [qt,Kf,qv,cS,aw,getD_at]
def avT{p:dV}(hp:po p)(num:M):∃b e,Kg p num=J (b,e)∧Tn p num=J (b,e):=by
 have c:gS p=0→∀i,i<(p.2.1.getD []).length→(bH (p.2.1.getD []) i).2.1=num→qv p (i:M) W=J ((qt (lX p) i).getD I):=λh i hi _=>by let⟨b,h1,h2⟩:=aeu hp ((pp hp).2.2 h) hi;rw[h1,h2];rfl
 let⟨t,u,g⟩:=LJ hp num;unfold Kg Tn al ag;by_cases h:gS p=0;rotate_left;have j:rI p num W=J ((0,O),gS p):=by grind [rI,pp,aw]
 simp_all;let⟨j,v,l⟩:=aer (preview:=W) (num:=num) (keep:=λi=>(qt (lX p) i).getD I) hp (pp hp).2.2 (c h);by_cases hn:num<0∨((p.1.getD []).length:M)≤num;simp_all;rw[g h hn,aw];let⟨m,e,n,o,q,r⟩:=l h (by omega) (by omega);have s:xm num (lX p)=J (m,e):=by
  unfold xm;rw[ax];exact o;rw[fO];intro i hi;have hi:i<(p.2.1.getD []).length:=by simpa[lX]using hi
  let⟨b,h1,h2⟩:=aeu hp ((pp hp).2.2 h) hi;let⟨k,d,hk,f,_⟩:=aet ((pp hp).2.2 h) hi;grind [bH,lX,bS,qr]
 rw[n,aw];simp only[bf,qI,bh,bC];rw[s,aw];by_cases a:e=0;let⟨w,x⟩:=q a;subst a;simp only[];rw[Aj (by omega) (by omega),aw,aK (by simp),Le (by omega) (by omega),aw];grind;rw[ax (by simpa using a),r a];grind [Aj,dA,aw]
def kD:Dc:=(3,J [(I,[],[116,101,120,116,10,34]),(W,[49],[79,110,101,46,32,84,119,111,46]),(I,[],[34])])
def kP0:dV:=(J [kD],J [(1,0,1,(0,4),0,O,[],0,I),(2,0,1,(5,9),0,O,[],0,I)],3)
def kP1:dV:=(J [kD],J [(1,0,1,(0,4),3,J [(1,[85,34,110,46],0)],[97,110,110],0,I),(2,0,1,(5,9),0,O,[],0,I)],3)
def pq:dV:=(J [kD],J [(1,0,1,(0,4),3,J [(1,[85,34,110,46],0)],[97,110,110],0,I),(2,0,1,(5,9),2,J [(1,[68,101,117,120,46],0)],[97,110,110],0,I)],3)
def avU:o8 3 [116,101,120,116,10,34,79,110,101,46,32,84,119,111,46,34]=J (kD,0,0):=by kernel_rfl
def avV:(ak wN λa=>zC (J [kD]) a)=J (kP0,0):=by kernel_rfl
def avW:tW kP0 (1,0,0,(0,0),3,J [(1,[85,34,110,46],0)],[97,110,110],0,I)=J (kP1,0):=by kernel_rfl
def avX:tW kP1 (2,0,0,(0,0),2,J [(1,[68,101,117,120,46],0)],[97,110,110],0,I)=J (pq,0):=by kernel_rfl
def Tp:po pq:=⟨by intro d hd;rw[show pq.1.getD []=[kD]from rfl,ng]at hd;subst hd;exact⟨by decide,by decide⟩,by intro s a;rw[show pq.2.1.getD []=[(1,0,1,(0,4),3,J [(1,[85,34,110,46],0)],[97,110,110],0,I),(2,0,1,(5,9),2,J [(1,[68,101,117,120,46],0)],[97,110,110],0,I)]from rfl]at a;simp only[iA,List.not_mem_nil,or_false]at a;rcases a with rfl|rfl<;>simp[tot],by decide,by decide⟩
def avY:gS pq=0:=by kernel_rfl
def avZ:Ei pq 0=J ([116,101,120,116,10,34,85,34,34,110,46,32,84,119,111,46,34],0):=by kernel_rfl
def av0:Tn pq 0=J ([116,101,120,116,10,34,85,34,34,110,46,32,68,101,117,120,46,34],0):=by kernel_rfl
def aex:qq pq 0=J (0,W,lX pq):=(LJ Tp 0).2.2 avY (by decide)
def av1:Kh pq 0=J (J [(1,6,11),(2,12,16)],0):=by unfold Kh aM bY al ag aj;rw[aex,aw];kernel_rfl
def av2:Ke pq 0=J (J [2]):=by unfold Ke aM al ag;rw[aex,aw];kernel_rfl
theorem av3:zV=J W:=by
 unfold zV al aB ag;rw[avU,aw];have a:=avV;cases c:wN with
 |none=>rw[c]at a;cases a
 |some f=>rw[c,aw]at a;rw[aw,ax (by simp)];simp only[];rw[a,aw];simp only[];rw[avW,aw];simp only[];rw[avX,aw];let⟨b,e,h1,h2⟩:=aes Tp 0;rw[avZ]at h2;cases h2;let⟨b,e,h3,d⟩:=avT Tp 0;rw[av0]at d;cases d;simp only[];rw[h1,aw,h3,aw,av1,aw,av2];rfl
theorem ayw{p:dV}(hp:fh p)(a:M):bA (abu a p) 0=J (.inr ()):=by refine ep (f:=abu a p) 4 (λi=>(i:M)) (λi hi=>?_) ?_ (cb (bT (by omega)));let⟨b,e,h1,h2⟩:=avT hp.b ([a,(0:M),1,2].getD (0+i) 0);unfold abu al aB ag aq ay au;dsimp-proj only[ah];rw[ax (by rw[eh];show(i:M)<4;omega),ax (by rw[bG,eh];refine⟨⟨by omega,by show(i:M)<4;omega⟩,?_⟩;unfold bw;rw[gG];simp;omega)];grind [aw,wrap_i64];rfl
def ayx(l:Q (L M))(a:M):abq l a=J W:=by
 unfold abq aM ag;let⟨b,c⟩:=avO l;rw[c,aw];cases b with|true=>rw[ax rfl,av3];rfl|false=>rw[aK (by simp)];let⟨p,h1,hp⟩:=avP l;grind [aw,ayw,cC,av3]
end Go.Fd
