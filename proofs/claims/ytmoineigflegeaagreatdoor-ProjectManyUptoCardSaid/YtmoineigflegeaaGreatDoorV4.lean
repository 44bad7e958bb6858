/- An evaluator of this program's code over plain values, proved sound: part 4. -/
import Derived.SevenTiedAt
import Derived.Stop.Joined
import Derived.Laws.StructEq
import Derived.ChangeKeysEq
import Derived.Test.YtmoineigflegeaaGreatDoorV3
set_option linter.unusedVariables false
set_option linter.unusedSimpArgs false
set_option linter.unusedSectionVars false
namespace Go.Ve
open Go.Vs
structure eI where
 live:List Nat
 aO:List Key
 vs:List Pl
structure aX where
 head:eI
 bT:List (Ex×eI)
 rng:Option Nat:=none
def aAT:E→Bool
 | .dead=>true
 |_=>false
def wQ (a c:E):Bool:=aAT a||(usable a&&usable c)
def aeE:List E→List E→Bool
 | [],[]=>true
 |a :: as,c :: cs=>wQ a c&&aeE as cs
 |_,_=>false
def usS (v u:aj):Bool:=
 match v,u with
 | .undef,_=>true
 | .one a,.one c=>wQ a c
 | .agg as,.agg cs=>aeE as cs
 |_,_=>false
def tU (l:List Pl) (d:cU) (k:Key):Nat→List E→List E→Bool
 |_,[],[]=>true
 |j,a :: as,c :: cs=>(l.any (Pl.gG k j)||(!part (.box k) j d&&wQ a c))&&tU l d k (j+1) as cs
 |_,_,_=>false
def base (A:List aj) (L:eI) (h:aN):aN:={ cJ (bg A h) L.live L.aO with bC:=[] }
def aAU (l:List Pl) (d:cU) (p:aN) (b:List (Nat×aj)):Bool:=b.all fun x=>l.any (Pl.eM x.1)||(!fZ (.tmp x.1) d&&usS x.2 (bM x.1 p.slots))
def aAV (l:List Pl) (k:Key) (n:Nat):Bool:=(List.range n).all fun j=>l.any (Pl.gG k j)
def aAW (l:List Pl) (d:cU) (p:aN) (b:List (Key×List E)):Bool:=b.all fun x=>match bw x.1 p.boxes with
 |some cs=>(!whole (.box x.1) d||aAV l x.1 x.2.length)&&tU l d x.1 0 x.2 cs
 |none=>false
def fit (A:List aj) (inb:List Key) (L:eI) (b p:aN):Option (VT L.vs):=
 let bk:=b.boxes.map (·.1)
 let p1:=cJ (bg A p) (p.slots.map (·.1)) bk
 match decide (p.aB=b.aB)&&jV A inb bk&&aAU L.vs p.bC p1 b.slots&&aAW L.vs p.bC p1 b.boxes with
 |true=>rB L.vs p1
 |false=>none
theorem aiQ {z a c:E} (h:wQ a c=true) (h1:cD z a) (h2:cD z c):cC (cE c) (cE a):=by
 simp only[wQ,Bool.or_eq_true,Bool.and_eq_true]at h
 rcases h with h|⟨h,h'⟩
 ·cases a<;>first|(cases h;done)|exact .inr rfl
 ·rw[aq2 h1 h2 h h'];exact .inl rfl
theorem arp:∀{zs as cs:List E},aeE as cs=true→au cD zs as→au cD zs cs→au cC (aq cs) (aq as)
 | [],[],[],_,_,_=>trivial
 |z :: zs,a :: as,c :: cs,h,h1,h2=>by
  simp only[aeE,Bool.and_eq_true]at h
  exact⟨aiQ h.1 h1.1 h2.1,arp h.2 h1.2 h2.2⟩
 | [],_ :: _,_,_,h1,_=>h1.elim
 |_ :: _,[],_,_,h1,_=>h1.elim
 | [],[],_ :: _,_,_,h2=>h2.elim
 |_ :: _,_ :: _,[],_,_,h2=>h2.elim
theorem aAX {z v u:aj} (h:usS v u=true) (h1:eE z v) (h2:eE z u):jT (ai u) (ai v):=by
 unfold usS at h
 split at h
 ·cases u<;>trivial
 ·cases z with
  |one z=>exact aiQ h h1 h2
  |_=>exact h1.elim
 ·cases z with
  |agg z=>exact arp h h1 h2
  |_=>exact h1.elim
 ·cases h
theorem arq {l:List Pl} {d:cU} {k:Key}:∀{as cs:List E} {j:Nat},tU l d k j as cs=true→as.length=cs.length
 | [],[],_,_=>rfl
 |a :: as,c :: cs,j,h=>by
  simp only[tU,Bool.and_eq_true]at h
  simp[arq h.2]
 | [],_ :: _,_,h=>by cases h
 |_ :: _,[],_,h=>by cases h
theorem ars {l:List Pl} {d:cU} {k:Key}:∀{as cs:List E} {j i:Nat} {a c:E},tU l d k j as cs=true→as[i]? =some a→cs[i]? =some c→l.any (Pl.gG k (j+i))=true∨(part (.box k) (j+i) d=false∧wQ a c=true)
 |a :: as,c :: cs,j,0,x,y,h,hx,hy=>by
  simp only[tU,Bool.and_eq_true,Bool.or_eq_true,Bool.not_eq_true']at h
  simp only[List.getElem?_cons_zero,Option.some.injEq]at hx hy
  subst hx hy
  exact h.1
 |a :: as,c :: cs,j,i+1,x,y,h,hx,hy=>by
  simp only[tU,Bool.and_eq_true]at h
  rw[show j+(i+1)=j+1+i by omega]
  exact ars h.2 (by simpa using hx) (by simpa using hy)
 | [],[],_,_,_,_,_,hx,_=>by simp at hx
 | [],_ :: _,_,_,_,_,h,_,_=>by cases h
 |_ :: _,[],_,_,_,_,h,_,_=>by cases h
theorem aiR {t:Nat}:∀{l:List (Nat×aj)},bM t l= .undef∨∃v,(t,v)∈l∧bM t l=v
 | []=>.inl rfl
 |(u,x) :: r=>by
  simp only[bM]
  cases h:t==u with
  |true=>have e:t=u:=by simpa using h
         subst e;exact .inr ⟨x,by simp,rfl⟩
  |false=>rcases aiR (t:=t) (l:=r)with h|⟨v,h1,h2⟩
          ·exact .inl h
          ·exact .inr ⟨v,List.mem_cons_of_mem _ h1,h2⟩
theorem aiS {k:Key}:∀{l:List (Key×List E)} {cs:List E},bw k l=some cs→(k,cs)∈l
 |(u,x) :: r,cs,h=>by
  simp only[bw]at h
  split at h
  ·rename_i hk;cases h;rw[(fQ k u).1 hk];simp
  ·exact List.mem_cons_of_mem _ (aiS h)
theorem aru {k:Key}:∀{l:List (Key×List E)},bw k l=none→k ∉ l.map (·.1)
 | [],_=>by simp
 |(u,x) :: r,h=>by
  simp only[bw]at h
  split at h
  ·cases h
  ·rename_i hk
   simp only[List.map_cons,List.mem_cons,not_or]
   refine⟨fun e=>?_,aru h⟩
   rw[(fQ k u).2 e]at hk
   cases hk
section
variable {K:Ctx} {A:List aj} {inb:List Key} {a:Act} {w:World}
theorem aiT (hF:fG K A inb) {L:eI} {h b p:aN} {y:VT L.vs} (hk:cV p.bC (bg A h) (bg A p))
  (hs:∀t,L.vs.any (Pl.eM t)=false→eE (bM t h.slots) (bM t b.slots))
  (hb:∀k bs,bw k b.boxes=some bs→∃cs,bw k h.boxes=some cs∧cs.length=bs.length∧∀j,L.vs.any (Pl.gG k j)=false→∀c,bs[j]? =some c→∃c0,cs[j]? =some c0∧cD c0 c)
  (hfit:fit A inb L b p=some y) (hr:ck K (cu A p) a w):ck K (cu A (cm L.vs y b)) a w:=by
 unfold fit at hfit
 generalize hbk:b.boxes.map (·.1)=bk at hfit
 simp only at hfit
 split at hfit
 ·rename_i hc
  simp only[Bool.and_eq_true,decide_eq_true_eq]at hc
  obtain⟨⟨⟨jP,hok⟩,h3⟩,h4⟩:=hc
  have tQ:=ck.cJ hF hok (p.slots.map (·.1)) hr
  have gB:cV p.bC (bg A h) (bg A (cJ (bg A p) (p.slots.map (·.1)) bk)):=cV.trans hk (tO A _ (mX A p) _ _ _)
  have hfr:(cJ (bg A p) (p.slots.map (·.1)) bk).aB=p.aB:=rfl
  have hnone:∀k,bw k b.boxes=none→bw k (cJ (bg A p) (p.slots.map (·.1)) bk).boxes=none:=by
   intro k hn
   simp only[cJ]
   rw[rA,if_neg]
   rw[←hbk]
   exact aru hn
  generalize kB:cJ (bg A p) (p.slots.map (·.1)) bk=p1 at *
  have aeF:=hfit
  refine Rel.wM hF.size tQ (by rw[(tT L.vs y b).1,hfr,jP]) (fun t=>?_) fun k=>?_
  ·rcases aiN L.vs y b aeF t with⟨_,h2⟩|⟨h1,h2⟩
   ·rw[h2]
    cases hv:bM t p1.slots with
    |one c=>exact .inl rfl
    |agg cs=>exact cC.kP _
    |aJ vs=>exact au.same (R:=fun p q:Bool×List C=>p.1=q.1∧au cC p.2 q.2) (fun p=>⟨rfl,cC.kP _⟩) _
    |undef=>trivial
   ·rw[h2]
    rcases aiR (t:=t) (l:=b.slots)with hu|⟨v,hm,hv⟩
    ·rw[hu];trivial
    ·have:=List.all_eq_true.1 h3 (t,v) hm
     simp only[h1,Bool.false_or,Bool.and_eq_true,Bool.not_eq_true']at this
     obtain⟨g1,g2⟩:=this
     have e1:=gB.1 t g1
     rw[jU,jU]at e1
     have e2:=hs t h1
     rw[hv]at e2 ⊢
     exact aAX g2 e2 e1
  ·have hib:=aeD k L.vs y b aeF
   cases gi:bw k b.boxes with
   |none=>
    rw[gi]at hib
    rw[hnone k gi]
    cases hi:bw k (cm L.vs y b).boxes with
    |none=>trivial
    |some cs=>rw[hi]at hib;exact hib.elim
   |some bs=>
    rw[gi]at hib
    have hm:=aiS gi
    have:=List.all_eq_true.1 h4 (k,bs) hm
    simp only at this
    cases hpb:bw k p1.boxes with
    |none=>rw[hpb]at this;cases this
    |some cs=>
     rw[hpb]at this
     simp only[Bool.and_eq_true,Bool.or_eq_true,Bool.not_eq_true']at this
     obtain⟨g1,g2⟩:=this
     cases hi:bw k (cm L.vs y b).boxes with
     |none=>rw[hi]at hib;exact hib.elim
     |some ds=>
      rw[hi]at hib
      obtain⟨f1,f2⟩:=hib
      have hlen:=arq g2
      refine au.cW (by simp only[kN];omega) fun j x z hx hz=>?_
      simp only[aq,List.getElem?_map]at hx hz
      cases hdj:ds[j]? with
      |none=>rw[hdj]at hz;cases hz
      |some c'=>
       rw[hdj]at hz
       cases hz
       cases fU:cs[j]? with
       |none=>rw[fU]at hx;cases hx
       |some c0=>
        rw[fU]at hx
        cases hx
        rcases f2 j c' hdj with⟨_,ey,c1,e1,e2,e3⟩|⟨e1,e2⟩
        ·rw[hpb]at e1
         cases e1
         rw[fU]at e2
         cases e2
         exact .inl e3
        ·have hu:=ars g2 e2 fU
         rw[Nat.zero_add]at hu
         rcases hu with hu|⟨hu1,hu2⟩
         ·rw[e1]at hu;cases hu
         ·obtain⟨hs0,q1,q2,q3⟩:=hb k bs gi
          obtain⟨x0,x1,x2⟩:=q3 j e1 c' e2
          have g1:whole (.box k) p.bC=false:=by
           rcases g1 with g1|g1
           ·exact g1
           ·have:=List.all_eq_true.1 g1 j (List.mem_range.2 (List.getElem?_eq_some_iff.1 e2).1)
            rw[e1]at this
            cases this
          have e4:=gB.2 k g1
          rw[gZ,gZ,q1,hpb]at e4
          rcases e4 with e4|⟨as,as',r1,r2,r3,r4⟩
          ·cases e4
          ·cases r1
           cases r2
           obtain⟨z0,z1,z2⟩:=r4 j hu1 c0 fU
           rw[x1]at z1
           cases z1
           exact aiQ hu2 x2 z2
 ·cases hfit
theorem aeH (L:eI) (h:aN) (t:Nat):eE (bM t h.slots) (bM t (base A L h).slots):=by
 have:=(tO A (bg A h) (mX A h) L.live L.aO []).1 t rfl
 rw[jU,jU]at this
 exact this
theorem aeI (L:eI) (h:aN) (k:Key) (bs:List E) (hk:bw k (base A L h).boxes=some bs):∃cs,bw k h.boxes=some cs∧cs.length=bs.length∧∀(j:Nat) c,bs[j]? =some c→∃c0,cs[j]? =some c0∧cD c0 c:=by
 have:=(tO A (bg A h) (mX A h) L.live L.aO []).2 k rfl
 rw[gZ,gZ]at this
 have hk':bw k (cJ (bg A h) L.live L.aO).boxes=some bs:=hk
 rw[hk']at this
 rcases this with h|⟨cs,cs',g1,g2,g3,g4⟩
 ·cases h
 ·cases g2
  cases hh:bw k h.boxes with
  |none=>rw[hh]at g1;cases g1
  |some x=>rw[hh]at g1;cases g1;exact⟨_,rfl,g3,fun j c hc=>g4 j rfl c hc⟩
def covers (H L:eI):Bool:=H.vs.all fun q=>match q with
 | .slot t _| .jw t _=>L.vs.any (Pl.eM t)|| !L.live.contains t
 | .cell k j _=>L.vs.any (Pl.gG k j)|| !L.aO.contains k
theorem aAY {H L:eI} (h:covers H L=true) {t:Nat} (hl:L.vs.any (Pl.eM t)=false) (ht:t∈L.live):H.vs.any (Pl.eM t)=false:=by
 cases hh:H.vs.any (Pl.eM t)with
 |false=>rfl
 |true=>
  obtain⟨q,hq,rD⟩:=List.any_eq_true.1 hh
  have:=List.all_eq_true.1 h q hq
  cases q with
  |slot u _=>have e:t=u:=by simpa[Pl.eM]using rD
             subst e;simp[hl,ht]at this
  |jw u _=>have e:t=u:=by simpa[Pl.eM]using rD
           subst e;simp[hl,ht]at this
  |cell k j _=>cases rD
theorem aAZ {H L:eI} (h:covers H L=true) {k:Key} {j:Nat} (hl:L.vs.any (Pl.gG k j)=false) (hk:k∈L.aO):H.vs.any (Pl.gG k j)=false:=by
 cases hh:H.vs.any (Pl.gG k j)with
 |false=>rfl
 |true=>
  obtain⟨q,hq,rD⟩:=List.any_eq_true.1 hh
  have:=List.all_eq_true.1 h q hq
  cases q with
  |slot u _=>cases rD
  |jw u _=>cases rD
  |cell k' i _=>
   simp only[Pl.gG,Bool.and_eq_true,beq_iff_eq]at rD
   obtain⟨e1,rfl⟩:=rD
   have e1:=(fQ k k').1 e1
   subst e1
   simp[hl,hk]at this
theorem arv {L:eI} {h:aN} {t:Nat} (ht:t ∉ L.live):bM t (base A L h).slots= .undef:=by
 show bM t (ob (bg A h) L.aO L.live)=_
 rw[aao,if_neg ht]
theorem aA0 {L:eI} {h:aN} {k:Key} {bs:List E} (hk:bw k (base A L h).boxes=some bs):k∈L.aO:=by
 have hk:bw k (oc (bg A h) L.aO L.aO)=some bs:=hk
 rw[rA]at hk
 split at hk
 ·assumption
 ·cases hk
theorem arw (hF:fG K A inb) {H L:eI} (hc:covers H L=true) {h q hx p:aN} {x:VT H.vs} {y:VT L.vs} (rE:∀t,L.live.contains t=true→bM t q.slots=bM t (cm H.vs x h).slots) (fD:q.boxes=(cm H.vs x h).boxes)
  (hsx:∀t,L.live.contains t=true→eE (bM t h.slots) (bM t hx.slots)) (cr:hx.boxes=h.boxes) (hk:cV p.bC (bg A q) (bg A p))
  (hfit:fit A inb L (base A L hx) p=some y) (hr:ck K (cu A p) a w):ck K (cu A (cm L.vs y (base A L hx))) a w:=by
 refine aiT hF hk (fun t hl=>?_) (fun k bs kE=>?_) hfit hr
 ·by_cases ht:t∈L.live
  ·have ht':L.live.contains t=true:=by simpa using ht
   rw[rE t ht',wO H.vs x h t (aAY hc hl ht)]
   exact eE.trans (hsx t ht') (aeH L hx t)
  ·rw[arv ht];trivial
 ·have vM:=aA0 kE
  obtain⟨cs,h1,h2,h3⟩:=aeI L hx k bs kE
  rw[cr]at h1
  have hi:=wP k H.vs x h
  rw[h1]at hi
  rw[fD]
  cases hxx:bw k (cm H.vs x h).boxes with
  |none=>rw[hxx]at hi;exact hi.elim
  |some ds=>
   rw[hxx]at hi
   refine⟨ds,rfl,hi.1.symm.trans h2,fun j hl c cA=>?_⟩
   obtain⟨c0,g1,g2⟩:=h3 j c cA
   have hj:j<ds.length:=by rw[←hi.1];exact(List.getElem?_eq_some_iff.1 g1).1
   rcases hi.2 j ds[j] (List.getElem?_eq_getElem hj)with⟨f1,_⟩|⟨_,f2⟩
   ·rw[aAZ hc hl vM]at f1;cases f1
   ·rw[g1]at f2
    cases f2
    exact⟨_,List.getElem?_eq_getElem hj,g2⟩
theorem aH9 (hF:fG K A inb) {H L:eI} (hc:covers H L=true) {h p:aN} {x:VT H.vs} {y:VT L.vs} (hk:cV p.bC (bg A (cm H.vs x h)) (bg A p))
  (hfit:fit A inb L (base A L h) p=some y) (hr:ck K (cu A p) a w):ck K (cu A (cm L.vs y (base A L h))) a w:=
 arw hF hc (fun _ _=>rfl) rfl (fun _ _=>eE.same _) rfl hk hfit hr
theorem aA1 (hF:fG K A inb) {H:eI} {h q p:aN} {x:VT H.vs} {y:VT H.vs} {d:Nat} (hd:bM d h.slots= .undef) (rE:∀t,t≠d→bM t q.slots=bM t (cm H.vs x h).slots) (fD:q.boxes=(cm H.vs x h).boxes) (hk:cV p.bC (bg A q) (bg A p))
  (hfit:fit A inb H h p=some y) (hr:ck K (cu A p) a w):ck K (cu A (cm H.vs y h)) a w:=by
 refine aiT hF hk (fun t hl=>?_) (fun k bs kE=>?_) hfit hr
 ·by_cases ht:t=d
  ·subst ht;rw[hd];trivial
  ·rw[rE t ht,wO H.vs x h t hl];exact eE.same _
 ·have hi:=wP k H.vs x h
  rw[kE]at hi
  rw[fD]
  cases hx:bw k (cm H.vs x h).boxes with
  |none=>rw[hx]at hi;exact hi.elim
  |some ds=>
   rw[hx]at hi
   refine⟨ds,rfl,hi.1.symm,fun j hl c cA=>?_⟩
   have hj:j<ds.length:=by rw[←hi.1];exact(List.getElem?_eq_some_iff.1 cA).1
   rcases hi.2 j ds[j] (List.getElem?_eq_getElem hj)with⟨f1,_⟩|⟨_,f2⟩
   ·rw[hl]at f1;cases f1
   ·rw[cA]at f2
    cases f2
    exact⟨_,List.getElem?_eq_getElem hj,cD.same _⟩
theorem aA2 (hF:fG K A inb) {H:eI} {h p:aN} {x:VT H.vs} {y:VT H.vs} (hk:cV p.bC (bg A (cm H.vs x h)) (bg A p))
  (hfit:fit A inb H h p=some y) (hr:ck K (cu A p) a w):ck K (cu A (cm H.vs y h)) a w:=by
 refine aiT hF hk (fun t hl=>?_) (fun k bs kE=>?_) hfit hr
 ·rw[wO H.vs x h t hl];exact eE.same _
 ·have hi:=wP k H.vs x h
  rw[kE]at hi
  cases hx:bw k (cm H.vs x h).boxes with
  |none=>rw[hx]at hi;exact hi.elim
  |some ds=>
   rw[hx]at hi
   refine⟨ds,rfl,hi.1.symm,fun j hl c cA=>?_⟩
   have hj:j<ds.length:=by rw[←hi.1];exact(List.getElem?_eq_some_iff.1 cA).1
   rcases hi.2 j ds[j] (List.getElem?_eq_getElem hj)with⟨f1,_⟩|⟨_,f2⟩
   ·rw[hl]at f1;cases f1
   ·rw[cA]at f2
    cases f2
    exact⟨_,List.getElem?_eq_getElem hj,cD.same _⟩
end
def eU {σ ρ:Type} (f:σ→Option (σ ⊕ ρ)):Nat→σ→Option ρ
 |0,_=>none
 |n+1,x=>match f x with
  |some (.inl y)=>eU f n y
  |some (.inr z)=>some z
  |none=>none
def fuel:Nat:=340282366920938463463374607431768211456
def bO {σ ρ:Type} (f:σ→Option (σ ⊕ ρ)) (x:σ):Option ρ:=eU f fuel x
def hD:List (Ex×eI)→Type
 | []=>Unit
 |e :: r=>match r with
  | []=>VT e.2.vs
  |e' :: r=>VT e.2.vs ⊕ hD (e' :: r)
def hD.dflt:(l:List (Ex×eI))→hD l
 | []=>()
 | [e]=>VT.dflt e.2.vs
 |e :: _ :: _=>.inl (VT.dflt e.2.vs)
def marks:List Pl→cU
 | []=>[]
 | .slot t _ :: r=>(.tmp t,none) :: marks r
 | .jw t _ :: r=>(.tmp t,none) :: marks r
 | .cell k j _ :: r=>(.box k,some (List.replicate j false++[true])) :: marks r
def aeJ (A:List aj) (h:aN) (d:cU) (L:eI) (y:VT L.vs):aN:={ cm L.vs y (base A L h)with bC:=marks L.vs++d }
def exq:Ex→Ex→Bool
 | .normal,.normal=>true
 | .ret,.ret=>true
 | .exit i,.exit j=>i==j
 |_,_=>false
def og (A:List aj) (inb:List Key) (H:eI) (h p:aN) (e:Ex):(l:List (Ex×eI))→Option (hD l)
 | []=>none
 | [x]=>match exq e x.1&&covers H x.2 with
   |true=>fit A inb x.2 (base A x.2 h) p
   |false=>none
 |x :: y :: r=>match exq e x.1 with
  |true=>match covers H x.2 with
   |true=>match fit A inb x.2 (base A x.2 h) p with
    |some v=>some (.inl v)
    |none=>none
   |false=>none
  |false=>match og A inb H h p e (y :: r)with
   |some v=>some (.inr v)
   |none=>none
def tV (A:List aj) (inb:List Key) (R:aX) (h:aN) (x:Ex×aN):Tr (VT R.head.vs ⊕ hD R.bT):=
 match x.1 with
 | .normal=>match fit A inb R.head h x.2 with
   |some y=>.leaf (.inl y)
   |none=>.fail
 |e=>match og A inb R.head h x.2 e R.bT with
  |some y=>.leaf (.inr y)
  |none=>.fail
def rF (A:List aj) (h:aN) (d:cU):(l:List (Ex×eI))→hD l→Tr (Ex×aN)
 | [],_=>.fail
 | [x],y=>.leaf (x.1,aeJ A h d x.2 y)
 |x :: x' :: r,s=>.sum s (fun y=>.leaf (x.1,aeJ A h d x.2 y)) fun z=>rF A h d (x' :: r) z
structure aZ where
 cfg:c8
 keys:List Nat
 aQ:List Key
def nl:Code→Nat
 | .seq a b=>nl a+nl b
 | .cond _ a b=>nl a+nl b
 | .block _ b=>nl b
 | .loop b=>nl b+1
 | .scope b=>nl b
 |_=>0
def aiW (c:Operand) (p:aN):Option E:=
 match c with
 | .tmp t=>match bM t p.slots with
   | .one c=>some c
   |_=>none
 | .const (.bool b)=>some (kb b)
 |_=>none
def jf (d:cU) (x:Ex×aN):Ex×aN:=(x.1,{ x.2 with bC:=x.2.bC++d })
def fresh (p:aN):aN:={ p with bC:=[] }
def rG (F:aZ) (ops:Array Oper) (draw:Bool) (x:aG×List (List ah×List ah)):Tr (Ex×aN):=
 match draw with
 |false=>.leaf (.normal,cJ x.1 F.keys F.aQ)
 |true=>match qE ops x.2 with
  |true=>.leaf (.normal,cJ x.1 F.keys F.aQ)
  |false=>.fail
def lU (id:Nat) (x:Ex×aN):Ex×aN:=
 match x.1 with
 | .exit i=>match i==id with
   |true=>(.normal,x.2)
   |false=>x
 |_=>x
def aN.slot (p:aN) (t:Nat) (v:aj):aN:={ p with slots:=pK t v p.slots }
def aeK (it d:Nat):Md→Bool
 | .aD r _ hv cv _=>hv==0&&cv==0&& !eu r (.tmp it)&& !eu r (.tmp d)
 |_=>true
def aiX (it d:Nat) (bk:List Key):E→Bool
 | .l m _ _=>aeK it d m
 | .n m _ _=>aeK it d m
 | .it m _ _ _=>match m with
   | .aD .. =>false
   |_=>true
 | .ea .. =>false
 | .gone _=>false
 | .ptr k _=>bk.any (de k)
 | .bW _ caps=>caps.all fun p=>bk.any (de p.1)
 |_=>true
def aiY (A:List aj) (inb:List Key) (it d:Nat) (p:aN):Bool:=
 jV A inb (p.boxes.map (·.1))&&p.slots.all (fun x=>x.2.cells.all (aiX it d (p.boxes.map (·.1))))&&p.boxes.all (fun x=>x.2.all (aiX it d (p.boxes.map (·.1))))
def aaw:Code→Option (Nat×Nat×Array Oper×List Oper)
 | .seq (.region _ ops false) _=>match ops.toList with
   |o :: l=>match o.op,o.dst,o.guard with
    | .next (.tmp it) false,some d,none=>some (it,d,ops,l)
    |_,_,_=>none
   | []=>none
 |_=>none
def ng {σ ρ:Type} (step:List Nat→Nat→σ→Option (σ ⊕ ρ)) (last:List Nat→σ→Option (σ ⊕ ρ)):List Nat→List Nat→σ→Option ρ
 |sn,[],x=>match last sn x with
  |some (.inr z)=>some z
  |_=>none
 |sn,i :: l,x=>match step sn i x with
  |some (.inl y)=>ng step last (i :: sn) l y
  |some (.inr z)=>some z
  |none=>none
open Classical in
noncomputable def wR {σ ρ:Type} (n:Nat) (step:List Nat→Nat→σ→Option (σ ⊕ ρ)) (last:List Nat→σ→Option (σ ⊕ ρ)) (x:σ):Option ρ:=
 if ∀l:List Nat,l.Perm (List.range n)→ng step last [] l x=ng step last [] (List.range n) x then ng step last [] (List.range n) x else none
theorem aA3 {σ ρ:Type} {n:Nat} {step:List Nat→Nat→σ→Option (σ ⊕ ρ)} {last:List Nat→σ→Option (σ ⊕ ρ)} {x:σ} {z:ρ} (h:wR n step last x=some z) (l:List Nat) (hl:l.Perm (List.range n)):ng step last [] l x=some z:=by
 unfold wR at h
 split at h
 ·rename_i hp;rw[hp l hl];exact h
 ·cases h
theorem aIa {σ ρ:Type} {n:Nat} {step:List Nat→Nat→σ→Option (σ ⊕ ρ)} {last:List Nat→σ→Option (σ ⊕ ρ)} {x:σ} {o:Option ρ} (h:∀l:List Nat,l.Perm (List.range n)→ng step last [] l x=o):wR n step last x=o:=by
 have h0:=h _ (List.Perm.refl _)
 unfold wR
 rw[if_pos fun l hl=>by rw[h l hl,h0],h0]
def rH (k v:Ty) (rows:List (k.T×v.T)):Option Nat→List (Bool×List E)
 |none=>[(false,[.ff])]
 |some i=>(false,[.tt]) :: zG k v (rows.getD i (k.zero,v.zero))
def ga (k v:Ty) (rows:List (k.T×v.T)) (sn:List Nat):aj:=.one (.it .own (.aU false k v) rows sn)
def jg:Option Nat→List Nat→List Nat
 |none,l=>l
 |some i,l=>i :: l
def aax (A:List aj) (inb:List Key) (R:aX) (h hx:aN) (x:Ex×aN):Tr (VT R.head.vs ⊕ hD R.bT):=
 match x.1 with
 | .normal=>match fit A inb R.head h x.2 with
   |some y=>.leaf (.inl y)
   |none=>.fail
 |e=>match og A inb R.head hx x.2 e R.bT with
  |some y=>.leaf (.inr y)
  |none=>.fail
def aA4 (F:aZ) (A:List aj) (inb:List Key) (ops:Array Oper) (l:List Oper) (q:aN):Tr (Ex×aN):=(kR A inb ((nY F.cfg ops l (bg A (fresh q))).bind (rG F ops false))).map (jf q.bC)
def aiZ (F:aZ) (R:aX) (it it' d:Nat) (k v:Ty):Bool:=
 it'==it&& !(it==d)&&aS d F.cfg.N&&zH false k v&& !R.head.vs.any (Pl.eM it)&& !R.head.vs.any (Pl.eM d)&& !R.head.live.contains d&&R.bT.all fun e=> !e.2.live.contains it&& !e.2.live.contains d
def nh (F:aZ) (A:List aj) (inb:List Key) (R:aX) (h:aN) (it d:Nat) (ops:Array Oper) (l:List Oper) (k v:Ty) (rows:List (k.T×v.T)) (rest:aN→Tr (Ex×aN)) (c:Option Nat) (sn:List Nat) (x:VT R.head.vs):Tr (VT R.head.vs ⊕ hD R.bT):=
 let q:=((cm R.head.vs x h).slot it (ga k v rows (jg c sn))).slot d (.aJ (rH k v rows c))
 match aiY A inb it d q with
 |true=>(aA4 F A inb ops l q).bind fun y=>match y.1 with
  | .normal=>(rest y.2).bind (aax A inb R (h.slot it (ga k v rows (jg c sn))) (h.slot it .undef))
  |_=>.fail
 |false=>.fail
noncomputable def dF (F:aZ) (A:List aj) (inb:List Key) (tbl:Nat→Option aX):Code→Bool→Nat→aN→Tr (Ex×aN)
 | .skip,false,_,p=>.leaf (.normal,p)
 | .exit id,false,_,p=>.leaf (.exit id,p)
 | .ret,false,_,p=>.leaf (.ret,p)
 | .region _ ops draw,false,_,p=>(kR A inb ((nY F.cfg ops ops.toList (bg A (fresh p))).bind (rG F ops draw))).map (jf p.bC)
 | .seq a b,false,n,p=>(dF F A inb tbl a false n p).bind fun x=>match x.1 with
   | .normal=>dF F A inb tbl b false (n+nl a) x.2
   |_=>.leaf x
 | .seq a b,true,n,p=>dF F A inb tbl b false (n+nl a) p
 | .cond c a b,false,n,p=>match aiW c p with
   |some .tt=>dF F A inb tbl a false n p
   |some .ff=>dF F A inb tbl b false (n+nl a) p
   |some (.b x)=>(kR A inb (.br x (dF F A inb tbl a false n (fresh p)) (dF F A inb tbl b false (n+nl a) (fresh p)))).map (jf p.bC)
   |_=>.fail
 | .block id b,false,n,p=>(kR A inb ((dF F A inb tbl b false n (fresh p)).map (lU id))).map (jf p.bC)
 | .scope b,false,n,p=>dF F A inb tbl b false n p
 | .loop b,false,n,p=>match tbl n with
   |some R=>
    let h:=base A R.head p
    match jV A inb R.head.aO,rB R.head.vs h with
    |true,some x0=>match R.rng with
     |none=>.call (hD.dflt R.bT) (bO (fun x=>((dF F A inb tbl b false (n+1) (cm R.head.vs x h)).bind (tV A inb R h)).run) x0) (rF A h p.bC R.bT)
     |some it=>match aaw b,bM it h.slots with
      |some (it',d,ops,l),.one (.it .own (.aU false k v) rows [])=>match aiZ F R it it' d k v with
       |true=>.call (hD.dflt R.bT) (wR (List.length (α:=k.T×v.T) rows) (fun sn i x=>(nh F A inb R h it d ops l k v rows (dF F A inb tbl b true (n+1)) (some i) sn x).run) (fun sn x=>(nh F A inb R h it d ops l k v rows (dF F A inb tbl b true (n+1)) none sn x).run) x0) (rF A (h.slot it .undef) p.bC R.bT)
       |false=>.fail
      |_,_=>.fail
    |_,_=>.fail
   |none=>.fail
 |_,_,_,_=>.fail
noncomputable def evC (F:aZ) (A:List aj) (inb:List Key) (tbl:Nat→Option aX) (c:Code) (n:Nat) (p:aN):Tr (Ex×aN):=dF F A inb tbl c false n p
end Go.Ve
namespace Go.Ve
open Go.Vs
theorem all_map {α β:Type} (t:Tr α) (f:α→β) (Q:β→Prop):(t.map f).all Q↔t.all fun a=>Q (f a):=by
 induction t with
 |leaf a=>rfl
 |fail=>exact Iff.rfl
 |br c t e cS cT=>simp only[Tr.map,Tr.all,cS,cT]
 |call d o k ih=>simp only[Tr.map,Tr.all,ih]
 |sum o k k' ih cM=>simp only[Tr.map,Tr.all,ih,cM]
theorem all_bind {α β:Type} (t:Tr α) (f:α→Tr β) (Q:β→Prop):(t.bind f).all Q↔t.all fun a=>(f a).all Q:=by
 induction t with
 |leaf a=>rfl
 |fail=>exact Iff.rfl
 |br c t e cS cT=>simp only[Tr.bind,Tr.all,cS,cT]
 |call d o k ih=>simp only[Tr.bind,Tr.all,ih]
 |sum o k k' ih cM=>simp only[Tr.bind,Tr.all,ih,cM]
theorem cV.aA5 {d l:cU} {s s':aG} (h:cV d s s'):cV (d++l) s s':=by
 refine⟨fun t ht=>h.1 t ?_,fun k hk=>?_⟩
 ·rw[aes,Bool.or_eq_false_iff]at ht;exact ht.1
 ·rw[aiF,Bool.or_eq_false_iff]at hk
  rcases h.2 k hk.1 with h|⟨cs,cs',g1,g2,g3,g4⟩
  ·exact .inl h
  ·refine .inr ⟨cs,cs',g1,g2,g3,fun j hj=>g4 j ?_⟩
   rw[aet,Bool.or_eq_false_iff]at hj
   exact hj.1
theorem cV.self (A:List aj) (p:aN) (d:cU):cV d (bg A p) (bg A p):=cV.cW (mX A p) (fun _ _ _=>rfl) fun k _ _=>lS.same (mX A p k)
theorem dD.self (A:List aj) (p:aN) (e:Ex):dD (bg A p) A (e,p):=⟨⟨[],rfl⟩,cV.self A p _⟩
theorem dD.jf {A:List aj} {p:aN} {x:Ex×aN} (h:dD (bg A (fresh p)) A x):dD (bg A p) A (Ve.jf p.bC x):=⟨⟨x.2.bC,rfl⟩,cV.aA5 (l:=p.bC) h.2⟩
theorem dD.trans {A:List aj} {p p1:aN} {e:Ex} {x:Ex×aN} (h:dD (bg A p) A (e,p1)) (h':dD (bg A p1) A x):dD (bg A p) A x:=by
 obtain⟨⟨l1,e1⟩,k1⟩:=h
 obtain⟨⟨l2,e2⟩,k2⟩:=h'
 have e2:x.2.bC=l2++p1.bC:=e2
 have e1:p1.bC=l1++p.bC:=e1
 refine⟨⟨l2++l1,by rw[e2,e1,List.append_assoc];rfl⟩,cV.trans ?_ k2⟩
 rw[e2]
 exact k1.more
theorem dD.lU {s:aG} {A:List aj} {id:Nat} {x:Ex×aN} (h:dD s A x):dD s A (Ve.lU id x):=by
 unfold Ve.lU
 split
 ·split
  ·exact h
  ·exact h
 ·exact h
theorem aA6 {l:List Pl} {d:cU} {t:Nat} (h:fZ (.tmp t) (marks l++d)=false):l.any (Pl.eM t)=false:=by
 rw[aes,Bool.or_eq_false_iff]at h
 obtain⟨h,_⟩:=h
 induction l with
 |nil=>rfl
 |cons q l ih=>
  cases q with
  |slot u _=>
   have h:(t==u||fZ (.tmp t) (marks l))=false:=h
   rw[Bool.or_eq_false_iff]at h
   simp only[List.any_cons,Pl.eM,h.1,ih h.2];rfl
  |jw u _=>
   have h:(t==u||fZ (.tmp t) (marks l))=false:=h
   rw[Bool.or_eq_false_iff]at h
   simp only[List.any_cons,Pl.eM,h.1,ih h.2];rfl
  |cell k j _=>
   have h:(false||fZ (.tmp t) (marks l))=false:=h
   rw[Bool.false_or]at h
   simp only[List.any_cons,Pl.eM,ih h];rfl
theorem aA7 {l:List Pl} {d:cU} {k:Key} {j:Nat} (h:part (.box k) j (marks l++d)=false):l.any (Pl.gG k j)=false:=by
 rw[aet,Bool.or_eq_false_iff]at h
 obtain⟨h,_⟩:=h
 induction l with
 |nil=>rfl
 |cons q l ih=>
  cases q with
  |slot u _=>
   have h:((false&&true)||part (.box k) j (marks l))=false:=h
   simp only[Bool.false_and,Bool.false_or]at h
   simp only[List.any_cons,Pl.gG,ih h];rfl
  |jw u _=>
   have h:((false&&true)||part (.box k) j (marks l))=false:=h
   simp only[Bool.false_and,Bool.false_or]at h
   simp only[List.any_cons,Pl.gG,ih h];rfl
  |cell k' i _=>
   have h:((de k k'&&(List.replicate i false++[true]).getD j false)||part (.box k) j (marks l))=false:=h
   rw[Bool.or_eq_false_iff]at h
   obtain⟨h1,h2⟩:=h
   simp only[List.any_cons,Pl.gG,ih h2,Bool.or_false]
   cases hk:de k k' with
   |false=>rfl
   |true=>
    rw[hk,Bool.true_and]at h1
    cases hj:j==i with
    |false=>rfl
    |true=>
     have e:j=i:=by simpa using hj
     subst e
     rw[List.getD_eq_getElem?_getD,List.getElem?_append_right (by simp)]at h1
     simp at h1
theorem ary (A:List aj) (L:eI) (p h:aN) (hs:∀t,eE (bM t p.slots) (bM t h.slots)) (hb:∀k bs,bw k h.boxes=some bs→∃cs,bw k p.boxes=some cs∧cs.length=bs.length∧∀(j:Nat) c,bs[j]? =some c→∃c0,cs[j]? =some c0∧cD c0 c) (y:VT L.vs) (e:Ex):dD (bg A p) A (e,aeJ A h p.bC L y):=by
 refine⟨⟨marks L.vs,rfl⟩,fun t ht=>?_,fun k hk=>?_⟩
 ·rw[jU,jU]
  have hl:=aA6 (l:=L.vs) (d:=p.bC) ht
  show eE (bM t p.slots) (bM t (cm L.vs y (base A L h)).slots)
  rw[wO L.vs y _ t hl]
  exact eE.trans (hs t) (aeH L _ t)
 ·rw[gZ,gZ]
  show lS k (marks L.vs++p.bC) (match bw k p.boxes with|some cs=>.agg cs|none=>.undef) (match bw k (cm L.vs y (base A L h)).boxes with|some cs=>.agg cs|none=>.undef)
  have hi:=wP k L.vs y (base A L h)
  cases h2:bw k (base A L h).boxes with
  |none=>
   rw[h2]at hi
   cases h3:bw k (cm L.vs y (base A L h)).boxes with
   |none=>exact .inl rfl
   |some ds=>rw[h3]at hi;exact hi.elim
  |some bs=>
   rw[h2]at hi
   cases h3:bw k (cm L.vs y (base A L h)).boxes with
   |none=>rw[h3]at hi;exact hi.elim
   |some ds=>
    rw[h3]at hi
    obtain⟨cs,f1,f2,f3⟩:=aeI L _ k bs h2
    obtain⟨as,g1,g2,g3⟩:=hb k cs f1
    rw[g1]
    refine .inr ⟨as,ds,rfl,rfl,by rw[g2,f2];exact hi.1,fun j hj c hc=>?_⟩
    have hl:=aA7 (l:=L.vs) (d:=p.bC) hj
    rcases hi.2 j c hc with⟨e1,_⟩|⟨_,e2⟩
    ·rw[hl]at e1;cases e1
    ·obtain⟨c1,q1,q2⟩:=f3 j c e2
     obtain⟨c0,q3,q4⟩:=g3 j c1 q1
     exact⟨c0,q3,cD.trans q4 q2⟩
theorem ai1 (A:List aj) (p h:aN) (hs:∀t,eE (bM t p.slots) (bM t h.slots)) (hb:∀k bs,bw k h.boxes=some bs→∃cs,bw k p.boxes=some cs∧cs.length=bs.length∧∀(j:Nat) c,bs[j]? =some c→∃c0,cs[j]? =some c0∧cD c0 c):∀(l:List (Ex×eI)) (z:hD l),(rF A h p.bC l z).each (dD (bg A p) A)
 | [],_=>trivial
 | [x],y=>ary A x.2 p h hs hb y x.1
 |x :: x' :: r,_=>⟨fun y=>ary A x.2 p h hs hb y x.1,fun z=>ai1 A p h hs hb (x' :: r) z⟩
theorem oh (p:aN) (it t:Nat) (v:aj):bM t (p.slot it v).slots=match t==it with|true=>v|false=>bM t p.slots:=rC it t v p.slots
section
variable {K:Ctx} {F:aZ} {A:List aj} {inb:List Key} {tbl:Nat→Option aX}
theorem arz (hF:fG K A inb) (ops:Array Oper) (l:List Oper) (draw:Bool) (p:aN):((kR A inb ((nY F.cfg ops l (bg A (fresh p))).bind (rG F ops draw))).map (jf p.bC)).each (dD (bg A p) A):=by
 rw[Tr.iL]
 refine Tr.eH (fun x hx=>dD.jf hx) (wN hF _ ?_).1
 rw[Tr.gO]
 refine Tr.eH ?_ (aeu F.cfg ops l (bg A (fresh p)) (mX A (fresh p)))
 rintro ⟨s,cB⟩ ⟨hb,ha,l,hl,hk⟩
 have leaf:dD (bg A (fresh p)) A (.normal,cJ s F.keys F.aQ):=⟨⟨l,hl⟩,cV.trans hk (tO A s hb _ _ _)⟩
 unfold rG
 cases draw with
 |false=>exact leaf
 |true=>
  simp only
  split
  ·exact leaf
  ·trivial
theorem wS (hF:fG K A inb):∀(c:Code) (tail:Bool) (n:Nat) (p:aN),(dF F A inb tbl c tail n p).each (dD (bg A p) A):=by
 intro c
 induction c with
 |skip=>intro tail n p;cases tail;exact dD.self A p _;trivial
 |exit id=>intro tail n p;cases tail;exact dD.self A p _;trivial
 |ret=>intro tail n p;cases tail;exact dD.self A p _;trivial
 |region id ops draw=>
  intro tail n p
  cases tail
  ·exact arz hF ops _ draw p
  ·trivial
 |seq a b od nc=>
  intro tail n p
  cases tail
  ·simp only[dF]
   rw[Tr.gO]
   refine Tr.eH ?_ (od false n p)
   rintro ⟨e,p1⟩ h
   cases e with
   |normal=>exact Tr.eH (fun x hx=>dD.trans h hx) (nc false _ p1)
   |exit i=>exact h
   |ret=>exact h
  ·exact nc false _ p
 |cond c a b od nc=>
  intro tail n p
  cases tail
  ·simp only[dF]
   split
   ·exact od false n p
   ·exact nc false _ p
   ·rename_i x _
    rw[Tr.iL]
    exact Tr.eH (fun x hx=>dD.jf hx) (wN hF (.br x (dF F A inb tbl a false n (fresh p)) (dF F A inb tbl b false (n+nl a) (fresh p))) ⟨od false n (fresh p),nc false _ (fresh p)⟩).1
   ·trivial
  ·trivial
 |block id b ih=>
  intro tail n p
  cases tail
  ·simp only[dF]
   rw[Tr.iL]
   refine Tr.eH (fun x hx=>dD.jf hx) (wN hF _ ?_).1
   rw[Tr.iL]
   exact Tr.eH (fun x hx=>dD.lU hx) (ih false n (fresh p))
  ·trivial
 |scope b ih=>intro tail n p;cases tail;exact ih false n p;trivial
 |loop b ih=>
  intro tail n p
  cases tail
  ·simp only[dF]
   split
   ·rename_i R _
    split
    ·split
     ·intro z;exact ai1 A p _ (aeH R.head p) (aeI R.head p) _ z
     ·rename_i it _
      split
      ·split
       ·intro z
        refine ai1 A p ((base A R.head p).slot it .undef) (fun t=>?_) (fun k bs kE=>aeI R.head p k bs kE) _ z
        rw[oh]
        split
        ·trivial
        ·exact aeH R.head p t
       ·trivial
      ·trivial
    ·trivial
   ·trivial
  ·trivial
 |_=>intro tail n p;cases tail<;>exact trivial
def gH (K:Ctx) (A:List aj) (Q:Ex×aN→Prop) (e:Exit) (a:Act) (w:World):Prop:=∃x,e=lN x.1∧Q x∧ck K (cu A x.2) a w
theorem gH.reach {Q:Ex×aN→Prop} {e:Exit} {a:Act} {w:World} (h:gH K A (Reach K A Q) e a w):gH K A Q e a w:=by
 obtain⟨x,rfl,h1,h2⟩:=h
 obtain⟨y,g1,g2,g3⟩:=h1 a w h2
 exact⟨y,g1,g2,g3⟩
theorem aA8 {σ ρ:Type} {f:σ→Option (σ ⊕ ρ)} {n:Nat} {x:σ} {z:ρ} (h:eU f (n+1) x=some z):(∃y,f x=some (.inl y)∧eU f n y=some z)∨f x=some (.inr z):=by
 simp only[eU]at h
 split at h
 ·rename_i y hy;exact .inl ⟨y,hy,h⟩
 ·rename_i z' hz;cases h;exact .inr hz
 ·cases h
theorem arA (hF:fG K A inb) {H:eI} {h q hx p:aN} {x:VT H.vs} {e:Ex} {d:cU} {a:Act} {w:World} (okt:Nat→Prop) (rE:∀t,okt t→bM t q.slots=bM t (cm H.vs x h).slots) (fD:q.boxes=(cm H.vs x h).boxes)
  (hsx:∀t,okt t→eE (bM t h.slots) (bM t hx.slots)) (cr:hx.boxes=h.boxes) (hk:cV p.bC (bg A q) (bg A p)) (hr:ck K (cu A p) a w):∀(l:List (Ex×eI)) (z:hD l),(∀y∈l,∀t,y.2.live.contains t=true→okt t)→og A inb H hx p e l=some z→
  ∀Q,(rF A hx d l z).all Q→∃q',Q (e,q')∧ck K (cu A q') a w:=by
 have arB:∀{e e':Ex},exq e e'=true→e=e':=by
  intro e e' h
  cases e<;>cases e'<;>first|rfl|(simp[exq]at h;done)|(simp[exq]at h;rw[h])
 intro l
 induction l with
 |nil=>intro z _ hz;cases hz
 |cons y r ih=>
  intro z hok hz Q hQ
  have ho:=hok y (List.mem_cons_self ..)
  have arC:∀{v:VT y.2.vs},covers H y.2=true→fit A inb y.2 (base A y.2 hx) p=some v→ck K (cu A (aeJ A hx d y.2 v)) a w:=fun hc hv=>arw hF hc (fun t ht=>rE t (ho t ht)) fD (fun t ht=>hsx t (ho t ht)) cr hk hv hr
  cases r with
  |nil=>
   simp only[og]at hz
   split at hz
   ·rename_i hc
    simp only[Bool.and_eq_true]at hc
    have:=arB hc.1
    subst this
    exact⟨_,hQ,arC hc.2 hz⟩
   ·cases hz
  |cons y' r=>
   simp only[og]at hz
   split at hz
   ·rename_i hc
    have:=arB hc
    subst this
    split at hz
    ·rename_i dX
     split at hz
     ·rename_i v hv
      cases hz
      exact⟨_,hQ.1 v rfl,arC dX hv⟩
     ·cases hz
    ·cases hz
   ·split at hz
    ·rename_i v hv
     cases hz
     exact ih v (fun y hy=>hok y (List.mem_cons_of_mem _ hy)) hv Q (hQ.2 v rfl)
    ·cases hz
theorem aA9 (hF:fG K A inb) {H:eI} {h p:aN} {x:VT H.vs} {e:Ex} {d:cU} {a:Act} {w:World} (hk:cV p.bC (bg A (cm H.vs x h)) (bg A p)) (hr:ck K (cu A p) a w) (l:List (Ex×eI)) (z:hD l) (hz:og A inb H h p e l=some z):
  ∀Q,(rF A h d l z).all Q→∃q,Q (e,q)∧ck K (cu A q) a w:=
 arA hF (fun _=>True) (fun _ _=>rfl) rfl (fun _ _=>eE.same _) rfl hk hr l z (fun _ _ _ _=>trivial) hz
theorem arD (hF:fG K A inb) (hbk:jV A inb F.aQ=true) {ops:Array Oper} {l:List Oper} {draw:Bool} {p:aN} {Q:Ex×aN→Prop} (h:((kR A inb ((nY F.cfg ops l (bg A (fresh p))).bind (rG F ops draw))).map (jf p.bC)).all Q):
  ∃s cB wT,lK F.cfg.c ops l (cl (bg A (fresh p)))=some (cl s,wT)∧mV wT cB∧s.args=A∧(draw=true→qE ops cB=true)∧∀a w,Vs.Good K (cl s) a w→∃y:Ex×aN,Ex.normal=y.1∧Q y∧ck K (cu A y.2) a w:=by
 obtain⟨hok,hin⟩:=hF.bk hbk
 rw[all_map]at h
 have hkeep:((nY F.cfg ops l (bg A (fresh p))).bind (rG F ops draw)).each (dD (bg A (fresh p)) A):=by
  rw[Tr.gO]
  refine Tr.eH ?_ (aeu F.cfg ops l (bg A (fresh p)) (mX A (fresh p)))
  rintro ⟨s,cB⟩ ⟨hb,ha,l,hl,hk⟩
  have leaf:dD (bg A (fresh p)) A (.normal,cJ s F.keys F.aQ):=⟨⟨l,hl⟩,cV.trans hk (tO A s hb _ _ _)⟩
  unfold rG
  cases draw with
  |false=>exact leaf
  |true=>
   simp only
   split
   ·exact leaf
   ·trivial
 have h1:=(wN hF _ hkeep).2 _ h
 rw[all_bind]at h1
 have h2:=Tr.n9 (Tr.n9 h1 (aqU F.cfg ops l (bg A (fresh p)))) (Tr.ri (aeu F.cfg ops l (bg A (fresh p)) (mX A (fresh p))))
 obtain⟨⟨s,cB⟩,_,⟨h3,h4⟩,h5⟩:=(Tr.pG _ _).1 h2
 simp only at h3 h4 h5
 obtain⟨wT,h4,hsub⟩:=h4
 have hend:(draw=true→qE ops cB=true)∧Reach K A (fun x=>Q (jf p.bC x)) (.normal,cJ s F.keys F.aQ):=by
  unfold rG at h3
  cases draw with
  |false=>exact⟨fun h=>(by cases h),h3⟩
  |true=>
   simp only at h3
   split at h3
   ·rename_i hd;exact⟨fun _=>hd,h3⟩
   ·exact h3.elim
 refine⟨s,cB,wT,h4,hsub,h5.2.1,hend.1,fun a' w' hg'=>?_⟩
 obtain⟨y,g1,g2,g3⟩:=hend.2 a' w' (aiD h5.2.1 hF.size hok hin hg')
 refine⟨jf p.bC y,?_,g2,g3⟩
 have g1:lN .normal=lN y.1:=g1
 show Ex.normal=y.1
 cases hy:y.1<;>rw[hy]at g1<;>first|rfl|cases g1
def ai3 (P:Program):Code→Bool→(Exit→Act→World→Prop)→Act→World→Prop
 |c,false,Q,a,w=>c.wp P Q a w
 | .seq _ b,true,Q,a,w=>b.wp P Q a w
 |_,true,_,_,_=>True
end
end Go.Ve
namespace Go.Ve
open Go.Vs
theorem arE (v:SV):jT v v:=by
 cases v with
 |one c=>exact .inl rfl
 |agg cs=>exact cC.kP _
 |aJ vs=>exact au.same (R:=fun p q:Bool×List C=>p.1=q.1∧au cC p.2 q.2) (fun p=>⟨rfl,cC.kP _⟩) _
 |undef=>trivial
theorem ck.cW {K:Ctx} {A:List aj} {a:Act} {w:World} {p p':aN} (hA:K.argv.size=A.length) (h:ck K (cu A p) a w) (hf:p'.aB=p.aB) (hs:∀t,bM t p'.slots=bM t p.slots) (hb:p'.boxes=p.boxes):ck K (cu A p') a w:=by
 refine Rel.wM hA h hf (fun t=>by rw[hs];exact arE _) fun k=>?_
 rw[hb]
 cases bw k p.boxes with
 |none=>trivial
 |some cs=>exact cC.kP _
theorem arF (a b:Nat):(a==b)=(b==a):=by
 cases h:a==b with
 |true=>have:a=b:=by simpa using h
        subst this;simp
 |false=>have:a≠b:=by simpa using h
         symm;simpa using fun e=>this e.symm
theorem arG (q:Pl) (x:q.T) (b b':aN) (it:Nat) (v:aj) (hq:q.eM it=false) (h1:∀t,bM t b'.slots=match t==it with|true=>v|false=>bM t b.slots) (h2:b'.boxes=b.boxes):
  (∀t,bM t (q.put x b').slots=match t==it with|true=>v|false=>bM t (q.put x b).slots)∧(q.put x b').boxes=(q.put x b).boxes:=by
 have set:∀(u:Nat) (y:aj),(it==u)=false→∀t,bM t (pK u y b'.slots)=match t==it with|true=>v|false=>bM t (pK u y b.slots):=by
  intro u y hu t
  rw[rC,rC,h1]
  cases bN:t==it with
  |true=>
   have:t=it:=by simpa using bN
   subst this
   rw[hu]
  |false=>rfl
 cases q with
 |slot u h=>exact⟨set u _ hq,h2⟩
 |jw u r=>exact⟨set u _ hq,h2⟩
 |cell k j h=>exact⟨h1,by show setB k j _ b'.boxes=setB k j _ b.boxes;rw[h2]⟩
theorem aeL (it:Nat) (v:aj):∀(l:List Pl) (y:VT l) (b:aN),l.any (Pl.eM it)=false→
  (∀t,bM t (cm l y (b.slot it v)).slots=match t==it with|true=>v|false=>bM t (cm l y b).slots)∧(cm l y (b.slot it v)).boxes=(cm l y b).boxes
 | [],_,b,_=>⟨fun t=>oh b it t v,rfl⟩
 | [q],y,b,h=>arG q y b (b.slot it v) it v (by simpa using h) (fun t=>oh b it t v) rfl
 |q :: q' :: r,y,b,h=>by
  rw[List.any_cons,Bool.or_eq_false_iff]at h
  obtain⟨h1,h2⟩:=aeL it v (q' :: r) y.2 b h.2
  exact arG q y.1 _ _ it v h.1 h1 h2
theorem arH {s:aG} {it d:Nat} {bk:List Key} {c:E} (hc:aiX it d bk c=true) (hs:∀r,eu r (.tmp it)=false→eu r (.tmp d)=false→(s.get r).hv=0∧(s.get r).cv=0):fY s bk c=c:=by
 have aD:∀{r:ah} {j hv cv k:Nat},aeK it d (.aD r j hv cv k)=true→hv=0∧cv=0∧((s.get r).hv==hv&&(s.get r).cv==cv)=true:=by
  intro r j hv cv k hc
  simp only[aeK,Bool.and_eq_true,Bool.not_eq_true',beq_iff_eq]at hc
  obtain⟨⟨⟨h1,h2⟩,h3⟩,h4⟩:=hc
  obtain⟨g1,g2⟩:=hs r h3 h4
  exact⟨h1,h2,by rw[g1,g2,h1,h2];rfl⟩
 cases c with
 |l m t xs=>
  cases m with
  |aD r j hv cv k=>
   obtain⟨h1,h2,h3⟩:=aD (j:=j) (k:=k) hc
   subst h1 h2
   simp only[fY,h3]
  |_=>rfl
 |n m t o=>
  cases m with
  |aD r j hv cv k=>
   obtain⟨h1,h2,h3⟩:=aD (j:=j) (k:=k) hc
   subst h1 h2
   simp only[fY,h3]
  |_=>rfl
 |it m t xs sn=>cases m<;>first|rfl|cases hc
 |ptr k off=>
  have:bk.any (de k)=true:=hc
  simp only[fY,this]
 |bW f caps=>
  have:caps.all (fun p=>bk.any (de p.1))=true:=hc
  simp only[fY,this]
 |ea=>cases hc
 |gone=>cases hc
 |_=>rfl
theorem aay {α:Type} {f:α→α}:∀{l:List α},(∀x∈l,f x=x)→l.map f=l
 | [],_=>rfl
 |x :: l,h=>by rw[List.map_cons,h x (List.mem_cons_self ..),aay fun y hy=>h y (List.mem_cons_of_mem _ hy)]
theorem aBa {s:aG} {bk:List Key} {v:aj} (h:∀c∈v.cells,fY s bk c=c):rz s bk v=v:=by
 cases v with
 |one c=>simp only[rz,h c (by simp[aj.cells])]
 |agg cs=>
  show aj.agg (cs.map _)=_
  rw[aay (l:=cs) h]
 |aJ vs=>
  simp only[rz]
  rw[aay]
  intro p hp
  rw[aay fun c hc=>h c (by simp only[aj.cells,List.mem_flatMap];exact⟨p,hp,hc⟩)]
 |undef=>rfl
theorem arI (A:List aj) (p:aN) (r:ah):((bg A p).get r).hv=0∧((bg A p).get r).cv=0:=by
 cases r with
 |tmp t=>rw[jU];exact⟨rfl,rfl⟩
 |box k=>rw[gZ];exact⟨rfl,rfl⟩
 |arg i=>exact⟨rfl,rfl⟩
section
variable {K:Ctx} {F:aZ} {A:List aj} {inb:List Key} {tbl:Nat→Option aX} {a:Act} {w:World}
def jx (A:List aj) (p:aN) (it d n1 n2 m1 m2:Nat) (sv v:aj):aG:=((bg A p).put (.tmp it) { hv:=n1,cv:=n2,v:=sv }).put (.tmp d) { hv:=m1,cv:=m2,v:=v }
theorem aBb (hF:fG K A inb) {p q:aN} {it d n1 n2 m1 m2:Nat} {sv v:aj} (hs:∀t,bM t q.slots=match t==d with|true=>v|false=>match t==it with|true=>sv|false=>bM t p.slots) (hb:q.boxes=p.boxes) (hfz:q.aB=p.aB) (hc:aiY A inb it d q=true)
  (hg:Vs.Good K (cl (jx A p it d n1 n2 m1 m2 sv v)) a w):ck K (cu A q) a w:=by
 simp only[aiY,Bool.and_eq_true]at hc
 obtain⟨⟨c1,c2⟩,c3⟩:=hc
 obtain⟨f1,f2⟩:=hF.bk c1
 have eP:∀r,(jx A p it d n1 n2 m1 m2 sv v).get r=if r= .tmp d then{ hv:=m1,cv:=m2,v:=v }else if r= .tmp it then{ hv:=n1,cv:=n2,v:=sv }else(bg A p).get r:=by
  intro r
  unfold jx
  rw[wH _ _ rfl,wH _ _ rfl]
 have hz:∀r,eu r (.tmp it)=false→eu r (.tmp d)=false→((jx A p it d n1 n2 m1 m2 sv v).get r).hv=0∧((jx A p it d n1 n2 m1 m2 sv v).get r).cv=0:=by
  intro r h1 h2
  rw[eP,if_neg (aaq h2),if_neg (aaq h1)]
  exact arI A p r
 have aBd:∀t,((jx A p it d n1 n2 m1 m2 sv v).get (.tmp t)).v=bM t q.slots:=by
  intro t
  rw[eP,hs t]
  by_cases h1:t=d
  ·subst h1;simp
  ·by_cases h2:t=it
   ·subst h2
    rw[if_neg (by simpa using h1),if_pos rfl]
    have:(t==d)=false:=by simpa using h1
    simp[this]
   ·rw[if_neg (by simpa using h1),if_neg (by simpa using h2),jU]
    have e1:(t==d)=false:=by simpa using h1
    have e2:(t==it)=false:=by simpa using h2
    simp[e1,e2]
 have h1:=aiD (s:=jx A p it d n1 n2 m1 m2 sv v) (keys:=q.slots.map (·.1)) (bk:=q.boxes.map (·.1)) rfl hF.size f1 f2 hg
 refine Rel.wM hF.size h1 hfz (fun t=>?_) fun k=>?_
 ·show jT (ai (bM t (ob (jx A p it d n1 n2 m1 m2 sv v) (q.boxes.map (·.1)) (q.slots.map (·.1))))) _
  rw[aao,aBd]
  rcases aiR (t:=t) (l:=q.slots)with hu|⟨v',hm,hv⟩
  ·rw[hu];trivial
  ·rw[hv,if_pos (List.mem_map.2 ⟨_,hm,rfl⟩),aBa]
   ·exact arE _
   ·intro c hc
    exact arH (List.all_eq_true.1 (List.all_eq_true.1 c2 _ hm) c hc) hz
 ·show match bw k (oc (jx A p it d n1 n2 m1 m2 sv v) (q.boxes.map (·.1)) (q.boxes.map (·.1))),bw k q.boxes with|some cs,some cs'=>au cC (aq cs) (aq cs')|none,none=>True|_,_=>False
  have hgb:(jx A p it d n1 n2 m1 m2 sv v).get (.box k)=(bg A p).get (.box k):=by rw[eP,if_neg (by simp),if_neg (by simp)]
  rw[rA,hgb,gZ,←hb]
  cases hk:bw k q.boxes with
  |none=>simp
  |some cs=>
   have hm:=aiS hk
   rw[if_pos (List.mem_map.2 ⟨_,hm,rfl⟩)]
   simp only
   rw[aay fun c hc=>arH (List.all_eq_true.1 (List.all_eq_true.1 c3 _ hm) c hc) hz]
   exact cC.kP _
theorem aBf {b:Code} {it d:Nat} {ops:Array Oper} {l:List Oper} (h:aaw b=some (it,d,ops,l)):∃id rest o,b= .seq (.region id ops false) rest∧ops.toList=o :: l∧o.op= .next (.tmp it) false∧o.dst=some d∧o.guard=none:=by
 unfold aaw at h
 split at h
 ·split at h
  ·split at h
   ·cases h;exact⟨_,_,_,rfl,by assumption,by assumption,by assumption,by assumption⟩
   ·cases h
  ·cases h
 ·cases h
def rI (n:Nat) (sn:List Nat):Option Nat→Prop
 |none=>∀i,i<n→i∈sn
 |some i=>i<n∧i ∉ sn
theorem arJ {n:Nat} {l:List Nat} (hnd:l.Nodup) (h:∀a,a∈l↔a<n):l.Perm (List.range n):=
 (List.perm_ext_iff_of_nodup hnd List.nodup_range).2 fun a=>by rw[h a,List.mem_range]
theorem aBg {n i:Nat} {sn:List Nat} (hnd:sn.Nodup) (hlt:∀j∈sn,j<n) (hi:i<n) (hni:i ∉ sn):∃τ,(sn.reverse++i :: τ).Perm (List.range n):=by
 refine⟨(List.range n).filter fun j=> !(i :: sn).contains j,arJ ?_ ?_⟩
 ·rw[List.nodup_append]
  refine⟨(List.reverse_perm sn).nodup_iff.2 hnd,?_,?_⟩
  ·rw[List.nodup_cons]
   exact⟨by simp,List.Pairwise.filter _ List.nodup_range⟩
  ·intro x hx y hy
   rintro rfl
   simp only[List.mem_reverse]at hx
   simp only[List.mem_cons,List.mem_filter,List.mem_range]at hy
   rcases hy with rfl|⟨_,hy⟩
   ·exact hni hx
   ·simp[hx]at hy
 ·intro x
  simp only[List.mem_append,List.mem_reverse,List.mem_cons,List.mem_filter,List.mem_range]
  constructor
  ·rintro (h|rfl|⟨h,_⟩)
   ·exact hlt x h
   ·exact hi
   ·exact h
  ·intro h
   by_cases h1:x∈sn
   ·exact .inl h1
   ·by_cases h2:x=i
    ·exact .inr (.inl h2)
    ·exact .inr (.inr ⟨h,by simp[h1,h2]⟩)
end
end Go.Ve
namespace Go.Ve
open Go.Vs
section
variable {K:Ctx} {F:aZ} {A:List aj} {inb:List Key} {tbl:Nat→Option aX} {a:Act} {w:World}
theorem aIb (i:Nat) (sn:List Nat):jg (some i) sn=i :: sn:=rfl
theorem aBh (hC:iF K.P F.cfg.c) (hN:K.N=F.cfg.N) (hF:fG K A inb) (hbk:jV A inb F.aQ=true)
  {b:Code} {n:Nat} {R:aX} {hd:aN} {it d:Nat} {ops:Array Oper} {l:List Oper} {k v:Ty} {rows:List (k.T×v.T)}
  (ih:∀(tail:Bool) (n:Nat) (p:aN) (Q:Ex×aN→Prop) (a:Act) (w:World),(dF F A inb tbl b tail n p).all Q→ck K (cu A p) a w→ai3 K.P b tail (gH K A Q) a w)
  (hh:aaw b=some (it,d,ops,l)) (aeM:(it==d)=false) (hlt:d<F.cfg.N) (hent:zH false k v=true) (wU:R.head.vs.any (Pl.eM it)=false)
  {sn:List Nat} {x:VT R.head.vs}
  (hrun:∀c,rI rows.length sn c→∃o,(nh F A inb R hd it d ops l k v rows (dF F A inb tbl b true (n+1)) c sn x).run=some o)
  (hp:ck K (cu A (cm R.head.vs x (hd.slot it (ga k v rows sn)))) a w):
  b.wp K.P (fun e a' w'=>∃c,rI rows.length sn c∧∃o,(nh F A inb R hd it d ops l k v rows (dF F A inb tbl b true (n+1)) c sn x).run=some o∧
    gH K A (fun y=>(aax A inb R (hd.slot it (ga k v rows (jg c sn))) (hd.slot it .undef) y).all (fun u=>u=o)∧dD (bg A (((cm R.head.vs x hd).slot it (ga k v rows (jg c sn))).slot d (.aJ (rH k v rows c)))) A y) e a' w') a w:=by
 obtain⟨id,rest,o,rfl,lJ,hop,arK,hgd⟩:=aBf hh
 obtain⟨ai4,arL⟩:=aeL it (ga k v rows sn) R.head.vs x hd wU
 generalize hpp:cm R.head.vs x (hd.slot it (ga k v rows sn))=p at hp ai4 arL
 have hfz:p.aB=hd.aB:=by rw[←hpp];exact(tT _ _ _).1
 have ai5:(d==it)=false:=by rw[arF];exact aeM
 have aBj:∀i,i<l.length→ops[1+i]? =l[i]? :=by
  intro i _
  rw[←Array.getElem?_toList,lJ,Nat.add_comm]
  rfl
 have arM:ops[0]? =some o:=by rw[←Array.getElem?_toList,lJ];rfl
 generalize hQF:(fun e a' w'=>∃c,rI rows.length sn c∧∃o,(nh F A inb R hd it d ops l k v rows (dF F A inb tbl (.seq (.region id ops false) rest) true (n+1)) c sn x).run=some o∧
  gH K A (fun y=>(aax A inb R (hd.slot it (ga k v rows (jg c sn))) (hd.slot it .undef) y).all (fun u=>u=o)∧dD (bg A (((cm R.head.vs x hd).slot it (ga k v rows (jg c sn))).slot d (.aJ (rH k v rows c)))) A y) e a' w')=QF
 have go:∀c,rI rows.length sn c→∀(n1 n2 m1 m2:Nat) (a':Act) (w':World),Vs.Good K (cl (jx A p it d n1 n2 m1 m2 (ga k v rows (jg c sn)) (.aJ (rH k v rows c)))) a' w'→
   wpOps K.P ops (Exit.then (rest.wp K.P QF) QF) (List.range' 1 l.length) a' w':=by
  intro c hc n1 n2 m1 m2 a' w' hg
  obtain⟨u,hu⟩:=hrun c hc
  generalize hq:((cm R.head.vs x hd).slot it (ga k v rows (jg c sn))).slot d (.aJ (rH k v rows c))=q
  have hu0:=hu
  unfold nh at hu
  rw[hq]at hu
  simp only at hu
  split at hu
  ·rename_i qj
   have gf:ck K (cu A q) a' w':=by
    refine aBb hF (fun t=>?_) ?_ ?_ qj hg
    ·rw[←hq,oh,oh,ai4]
     cases t==d with
     |true=>rfl
     |false=>cases t==it<;>rfl
    ·rw[←hq];exact arL.symm
    ·rw[←hq,hfz];exact(tT _ _ _).1
   have h1:=(Tr.pG _ (fun v=>v=u)).2 ⟨u,hu,rfl⟩
   rw[all_bind]at h1
   have h2:=Tr.n9 h1 (Tr.ri (arz hF ops l false q))
   obtain⟨s,cB,wT,h4,hsub,hargs,bP,hend⟩:=arD hF hbk h2
   obtain⟨e1,_⟩:=adu F.cfg.c ops _ _ _ _ h4
   have hg':Vs.Good K (cl (bg A (fresh q))) a' w':=by rw[aan];exact gf.1
   refine ao1 hC hN l 1 _ _ a' w' aBj e1 hg' fun a1 w1 hg1=>?_
   obtain⟨⟨ex,y⟩,g1,⟨g2,g3⟩,g4⟩:=hend a1 w1 hg1
   have g1:Ex.normal=ex:=g1
   subst g1
   simp only at g2
   rw[all_bind]at g2
   have:=ih true (n+1) y _ a1 w1 (Tr.n9 g2 (Tr.ri (wS (tbl:=tbl) hF (.seq (.region id ops false) rest) true (n+1) y))) g4
   refine wp_mono this ?_
   rw[←hQF]
   rintro e a2 w2 ⟨y2,rfl,⟨q1,q2⟩,q3⟩
   exact⟨c,hc,u,hu0,y2,rfl,⟨q1,by rw[hq];exact dD.trans g3 q2⟩,q3⟩
  ·cases hu
 refine wp_seq (wp_region ?_)
 have hsz:ops.size=l.length+1:=by rw[←Array.length_toList,lJ];rfl
 rw[hsz,List.range_eq_range']
 show wpOps K.P ops _ (0 :: List.range' 1 l.length) a w
 rw[wpOps_cons]
 have aBn:=hp.1
 obtain⟨β,ω,Z,hr⟩:=aBn
 rw[←aan]at hr
 have hv:(bg A p).get (.tmp it)={ v:=ga k v rows sn }:=by rw[jU,ai4];simp
 have dX:cl (bg A p) (.tmp it)={ hv:=0,cv:=0,v:=.one (.own jF [[.sl (Ty.aU false k v).e (rows.map (aA (.aU false k v)))],hY sn]) }:=by
  show bJ _=_
  rw[hv]
  rfl
 have h1:(dw (.tmp it)).exec (cl (bg A p))=some (.aD (.tmp it) 0 0 0 jF 0 [[.sl (Ty.aU false k v).e (rows.map (aA (.aU false k v)))],hY sn],cl (bg A p)):=by
  simp only[dw,ev,bind_eq,Prog.bind,Prog.exec,dX,RV.copy,ym,j8]
 have bB:(cl (bg A p) (.tmp it)).at 0= .own jF [[.sl (Ty.aU false k v).e (rows.map (aA (.aU false k v)))],hY sn]:=by rw[dX];rfl
 have hcd:(cl (bg A p) (.tmp d)).hv=0∧(cl (bg A p) (.tmp d)).cv=0:=arI A p (.tmp d)
 rcases adk (dst:=d) hr hop h1 (by rw[dX]) rfl aAj bB with⟨hall,hy⟩|⟨i,hi,hni,hy⟩
 ·refine ao0 (cfg:=F.cfg.c) hN arM hgd arK hlt hy fun a' w' hg'=>go none (by simpa[rI]using hall) 0 0 1 0 a' w' ?_
  have e:cl (jx A p it d 0 0 1 0 (ga k v rows (jg none sn)) (.aJ (rH k v rows none)))=(cl (bg A p)).set (.tmp d) { hv:=(cl (bg A p) (.tmp d)).hv+1,cv:=(cl (bg A p) (.tmp d)).cv,v:=.aJ [(false,[.d (.bool false)])] }:=by
   unfold jx
   rw[wI _ _ rfl,wI _ _ rfl]
   funext r
   simp only[St.set]
   by_cases h:r= .tmp d
   ·rw[if_pos h,if_pos h,hcd.1,hcd.2];rfl
   ·rw[if_neg h,if_neg h]
    by_cases h':r= .tmp it
    ·rw[if_pos h',h',dX];rfl
    ·rw[if_neg h']
  rw[e]
  exact hg'
 ·refine ao0 (cfg:=F.cfg.c) hN arM hgd arK hlt hy fun a' w' hg'=>go (some i) ⟨by simpa using hi,hni⟩ 0 1 1 0 a' w' ?_
  have e:cl (jx A p it d 0 1 1 0 (ga k v rows (jg (some i) sn)) (.aJ (rH k v rows (some i))))=((cl (bg A p)).set (.tmp it) { (cl (bg A p) (.tmp it))with cv:=(cl (bg A p) (.tmp it)).cv+1,v:=(cl (bg A p) (.tmp it)).v.setCell 0 (.own jF [[.sl (Ty.aU false k v).e (rows.map (aA (.aU false k v)))],hY (i :: sn)]) }).set (.tmp d) { hv:=(cl (bg A p) (.tmp d)).hv+1,cv:=(cl (bg A p) (.tmp d)).cv,v:=.aJ ((false,[.d (.bool true)]) :: mh (Ty.aU false k v).e ((rows.map (aA (.aU false k v))).getD i [])) }:=by
   unfold jx
   rw[wI _ _ rfl,wI _ _ rfl]
   funext r
   simp only[St.set]
   by_cases h:r= .tmp d
   ·rw[if_pos h,if_pos h,hcd.1,hcd.2,aqS (t:=.aU false k v) rows i (k.zero,v.zero) (by simpa using hi),←aqR hent];rfl
   ·rw[if_neg h,if_neg h]
    by_cases h':r= .tmp it
    ·rw[if_pos h',if_pos h',dX];rfl
    ·rw[if_neg h',if_neg h']
  rw[e]
  have hde:((cl (bg A p)).set (.tmp it) { (cl (bg A p) (.tmp it))with cv:=(cl (bg A p) (.tmp it)).cv+1,v:=(cl (bg A p) (.tmp it)).v.setCell 0 (.own jF [[.sl (Ty.aU false k v).e (rows.map (aA (.aU false k v)))],hY (i :: sn)]) }) (.tmp d)=cl (bg A p) (.tmp d):=by
   simp only[St.set]
   rw[if_neg]
   intro h
   cases h
   simp at ai5
  rw[hde]at hg'
  exact hg'
end
end Go.Ve
namespace Go.Ve
open Go.Vs
section
variable {K:Ctx} {F:aZ} {A:List aj} {inb:List Key} {tbl:Nat→Option aX} {a:Act} {w:World}
theorem aBp {A:List aj} {inb:List Key} {R:aX} {hx p:aN} {ex:Ex} {o:VT R.head.vs ⊕ hD R.bT} {h:aN} (hne:ex≠ .normal) (eB:(aax A inb R h hx (ex,p)).all (fun u=>u=o)):∃z,o= .inr z∧og A inb R.head hx p ex R.bT=some z:=by
 have tW:(match og A inb R.head hx p ex R.bT with|some y=>Tr.leaf (Sum.inr y)|none=>Tr.fail:Tr (VT R.head.vs ⊕ hD R.bT)).all (fun v=>v=o):=by
  cases ex with
  |normal=>exact absurd rfl hne
  |_=>exact eB
 split at tW
 ·rename_i z' tX
  exact⟨z',tW.symm,tX⟩
 ·exact tW.elim
theorem aBq (hC:iF K.P F.cfg.c) (hN:K.N=F.cfg.N) (hF:fG K A inb) (hbk:jV A inb F.aQ=true)
  {b:Code} {n:Nat} {R:aX} {hd:aN} {it it' d:Nat} {ops:Array Oper} {l:List Oper} {k v:Ty} {rows:List (k.T×v.T)} {x0:VT R.head.vs} {z:hD R.bT} {dd:cU} {Q:Ex×aN→Prop}
  (ih:∀(tail:Bool) (n:Nat) (p:aN) (Q:Ex×aN→Prop) (a:Act) (w:World),(dF F A inb tbl b tail n p).all Q→ck K (cu A p) a w→ai3 K.P b tail (gH K A Q) a w)
  (hh:aaw b=some (it',d,ops,l)) (hok:aiZ F R it it' d k v=true) (hit:bM it hd.slots= .one (.it .own (.aU false k v) rows [])) (hdu:R.head.live.contains d=false→bM d hd.slots= .undef)
  (hz:wR rows.length (fun sn i x=>(nh F A inb R hd it d ops l k v rows (dF F A inb tbl b true (n+1)) (some i) sn x).run) (fun sn x=>(nh F A inb R hd it d ops l k v rows (dF F A inb tbl b true (n+1)) none sn x).run) x0=some z)
  (hQ:(rF A (hd.slot it .undef) dd R.bT z).all Q) (wV:ck K (cu A (cm R.head.vs x0 hd)) a w):
  (Code.loop b).wp K.P (gH K A Q) a w:=by
 simp only[aiZ,Bool.and_eq_true,beq_iff_eq,Bool.not_eq_true']at hok
 obtain⟨⟨⟨⟨⟨⟨⟨aBr,aeM⟩,hlt⟩,hent⟩,wU⟩,hvd⟩,hld⟩,hex⟩:=hok
 subst aBr
 have hlt:=(gY _ _).1 hlt
 have ai5:(d==it')=false:=by rw[arF];exact aeM
 have hdu:=hdu hld
 generalize hst:(fun(sn:List Nat) (i:Nat) (x:VT R.head.vs)=>(nh F A inb R hd it' d ops l k v rows (dF F A inb tbl b true (n+1)) (some i) sn x).run)=step at hz
 generalize hla:(fun(sn:List Nat) (x:VT R.head.vs)=>(nh F A inb R hd it' d ops l k v rows (dF F A inb tbl b true (n+1)) none sn x).run)=last at hz
 have aBt:=aA3 hz
 have kB:ck K (cu A (cm R.head.vs x0 (hd.slot it' (ga k v rows [])))) a w:=by
  obtain⟨h1,h2⟩:=aeL it' (ga k v rows []) R.head.vs x0 hd wU
  refine ck.cW hF.size wV ?_ (fun t=>?_) h2
  ·rw[(tT _ _ _).1,(tT _ _ _).1];rfl
  ·rw[h1]
   cases ht:t==it' with
   |true=>
    have:t=it':=by simpa using ht
    subst this
    rw[wO R.head.vs x0 hd t wU,hit]
    rfl
   |false=>rfl
 intro fb kk cs
 have key:∀(m:Nat) (sn:List Nat) (x:VT R.head.vs) (a:Act) (w:World),sn.length+m=rows.length→sn.Nodup→(∀j∈sn,j<rows.length)→(∀τ:List Nat,(sn.reverse++τ).Perm (List.range rows.length)→ng step last sn τ x=some z)→ck K (cu A (cm R.head.vs x (hd.slot it' (ga k v rows sn)))) a w→
   ∃e a' w',gH K A Q e a' w'∧Arrives K.P (lone (fb.at a (.code b :: .inLoop b :: kk)) cs w) fb kk cs e a' w':=by
  intro m
  induction m using Nat.strongRecOn with
  |_ m ihm=>
   intro sn x a w hlen hnd ai8 hinv hp
   have ai9:rI rows.length sn none→∃z',last sn x=some (.inr z')∧z'=z:=by
    intro hc
    have yW:=arJ (l:=sn.reverse) ((List.reverse_perm sn).nodup_iff.2 hnd) (n:=rows.length) (fun a=>by rw[List.mem_reverse];exact⟨ai8 a,hc a⟩)
    have:=hinv [] (by simpa using yW)
    simp only[ng]at this
    split at this
    ·rename_i z' tX
     exact⟨z',tX,Option.some.inj this⟩
    ·cases this
   have hrow:∀i,rI rows.length sn (some i)→0<m∧((∃y,step sn i x=some (.inl y)∧∀τ:List Nat,((i :: sn).reverse++τ).Perm (List.range rows.length)→ng step last (i :: sn) τ y=some z)∨step sn i x=some (.inr z)):=by
    intro i hc
    obtain⟨τ,hτ⟩:=aBg hnd ai8 hc.1 hc.2
    have hl:=hτ.length_eq
    simp only[List.length_append,List.length_reverse,List.length_cons,List.length_range]at hl
    refine⟨by omega,?_⟩
    have:=hinv _ hτ
    simp only[ng]at this
    split at this
    ·rename_i y hy
     refine .inl ⟨y,hy,fun τ' aBv=>?_⟩
     have:=hinv (i :: τ') (by simpa using aBv)
     simp only[ng,hy]at this
     exact this
    ·rename_i z' tX
     exact .inr (by rw[tX];rw[Option.some.inj this])
    ·cases this
   have hrun:∀c,rI rows.length sn c→∃o,(nh F A inb R hd it' d ops l k v rows (dF F A inb tbl b true (n+1)) c sn x).run=some o:=by
    intro c hc
    cases c with
    |none=>
     obtain⟨z',h1,_⟩:=ai9 hc
     rw[←hla]at h1
     exact⟨_,h1⟩
    |some i=>
     rw[←hst]at hrow
     rcases(hrow i hc).2 with⟨y,h1,_⟩|h1
     ·exact⟨_,h1⟩
     ·exact⟨_,h1⟩
   obtain⟨e,a₁,w₁,⟨c,hc,o,ho,⟨ex,p'⟩,rfl,⟨eB,hkeep⟩,hp'⟩,fM⟩:=aBh (n:=n) hC hN hF hbk ih hh aeM hlt hent wU hrun hp fb (.inLoop b :: kk) cs
   generalize hq:((cm R.head.vs x hd).slot it' (ga k v rows (jg c sn))).slot d (.aJ (rH k v rows c))=q at hkeep
   obtain⟨g1,g2⟩:=aeL it' (ga k v rows (jg c sn)) R.head.vs x hd wU
   have rE:∀t,t≠d→bM t q.slots=bM t (cm R.head.vs x (hd.slot it' (ga k v rows (jg c sn)))).slots:=by
    intro t ht
    have:(t==d)=false:=by simpa using ht
    rw[g1,←hq,oh,oh,this]
    all_goals (cases t==it'<;>rfl)
   have fD:q.boxes=(cm R.head.vs x (hd.slot it' (ga k v rows (jg c sn)))).boxes:=by rw[g2,←hq];rfl
   have aBw:bM d (hd.slot it' (ga k v rows (jg c sn))).slots= .undef:=by rw[oh,ai5];exact hdu
   have hval:(c=none∧last sn x=some o)∨∃i,c=some i∧step sn i x=some o:=by
    cases c with
    |none=>left;rw[←hla];exact⟨rfl,ho⟩
    |some i=>right;rw[←hst];exact⟨i,rfl,ho⟩
   have fin:∀z',o= .inr z'→z'=z:=by
    rintro z' rfl
    rcases hval with⟨rfl,h⟩|⟨i,rfl,h⟩
    ·obtain⟨z1,h1,h2⟩:=ai9 hc
     rw[h]at h1
     cases h1
     exact h2
    ·rcases(hrow i hc).2 with⟨y,h1,_⟩|h1
     ·rw[h]at h1;cases h1
     ·rw[h]at h1;cases h1;rfl
   have exit:ex≠ .normal→∃e a' w',gH K A Q e a' w'∧Arrives K.P (lone (fb.at a (.code b :: .inLoop b :: kk)) cs w) fb kk cs e a' w':=by
    intro hne
    obtain⟨z',h1,h2⟩:=aBp hne eB
    have:=fin z' h1
    subst this
    obtain⟨q',hq1,hq2⟩:=arA hF (fun t=>t≠d∧t≠it') (fun t ht=>rE t ht.1) fD (hx:=hd.slot it' .undef) (fun t ht=>by
     have:(t==it')=false:=by simpa using ht.2
     rw[oh,oh,this]
     exact eE.same _) rfl hkeep.2 hp' R.bT z' (fun y hy t ht=>by
      have:=List.all_eq_true.1 hex y hy
      simp only[Bool.and_eq_true,Bool.not_eq_true']at this
      refine⟨?_,?_⟩
      ·rintro rfl;rw[ht]at this;exact absurd this.2 (by simp)
      ·rintro rfl;rw[ht]at this;exact absurd this.1 (by simp)) h2 Q hQ
    refine⟨_,a₁,w₁,⟨(ex,q'),rfl,hq1,hq2⟩,.pass (x:=.inLoop b) rfl (fun _ _=>.inl ?_) fM⟩
    cases ex<;>first|exact absurd rfl hne|simp[lN]
   cases ex with
   |normal=>
    simp only[aax]at eB
    split at eB
    ·rename_i y hy
     have e:o= .inl y:=eB.symm
     subst e
     rcases hval with⟨rfl,h⟩|⟨i,rfl,h⟩
     ·obtain⟨z1,h1,_⟩:=ai9 hc
      rw[h]at h1
      cases h1
     ·obtain⟨hm,hr⟩:=hrow i hc
      rcases hr with⟨y',h1,h2⟩|h1
      ·rw[h]at h1
       have e:y=y':=by cases h1;rfl
       subst e
       obtain⟨e₂,a₂,w₂,zk,zm⟩:=ihm (m - 1) (by omega) (i :: sn) y a₁ w₁ (by simp only[List.length_cons];omega) (List.nodup_cons.2 ⟨hc.2,hnd⟩) (fun j hj=>by
        rcases List.mem_cons.1 hj with rfl|hj
        ·exact hc.1
        ·exact ai8 j hj) h2 (aA1 (d:=d) hF aBw rE fD hkeep.2 hy hp')
       exact⟨e₂,a₂,w₂,zk,.of_steps (Steps.trans fM (.one step_inLoop)) zm⟩
      ·rw[h]at h1;cases h1
    ·exact eB.elim
   |exit i=>exact exit (by simp)
   |ret=>exact exit (by simp)
 obtain⟨e,a',w',hq,fM⟩:=key rows.length [] x0 a w (by simp) List.nodup_nil (by simp) (fun τ hτ=>aBt τ (by simpa using hτ)) kB
 exact⟨e,a',w',hq,.of_steps (.one step_loop) fM⟩
end
end Go.Ve
namespace Go.Ve
open Go.Vs
section
variable {K:Ctx} {F:aZ} {A:List aj} {inb:List Key} {tbl:Nat→Option aX}
theorem aBy (hF:fG K A inb) {H:eI} {hd:aN} {x0:VT H.vs} {a:Act} {w:World} (hm:rB H.vs hd=some x0) (h1:ck K (cu A hd) a w):ck K (cu A (cm H.vs x0 hd)) a w:=by
 refine Rel.wM hF.size h1 (tT _ _ _).1 (fun t=>?_) fun k=>?_
 ·rcases aiN H.vs x0 hd hm t with⟨_,h2⟩|⟨_,h2⟩
  ·rw[h2]
   cases bM t hd.slots with
   |one c=>exact .inl rfl
   |agg cs=>exact cC.kP _
   |aJ vs=>exact au.same (R:=fun p q:Bool×List C=>p.1=q.1∧au cC p.2 q.2) (fun p=>⟨rfl,cC.kP _⟩) _
   |undef=>trivial
  ·rw[h2]
   cases bM t hd.slots with
   |one c=>exact .inl rfl
   |agg cs=>exact cC.kP _
   |aJ vs=>exact au.same (R:=fun p q:Bool×List C=>p.1=q.1∧au cC p.2 q.2) (fun p=>⟨rfl,cC.kP _⟩) _
   |undef=>trivial
 ·have hi:=aeD k H.vs x0 hd hm
  cases h1:bw k hd.boxes with
  |none=>
   rw[h1]at hi
   cases h2:bw k (cm H.vs x0 hd).boxes with
   |none=>trivial
   |some cs=>rw[h2]at hi;exact hi.elim
  |some bs=>
   rw[h1]at hi
   cases h2:bw k (cm H.vs x0 hd).boxes with
   |none=>rw[h2]at hi;exact hi.elim
   |some cs=>
    rw[h2]at hi
    refine au.cW (by simpa using hi.1) fun j u c hu hc=>?_
    simp only[aq,List.getElem?_map]at hu hc
    cases fU:cs[j]? with
    |none=>rw[fU]at hc;cases hc
    |some c1=>
     rw[fU]at hc
     cases hc
     cases hbj:bs[j]? with
     |none=>rw[hbj]at hu;cases hu
     |some c0=>
      rw[hbj]at hu
      cases hu
      rcases hi.2 j c1 fU with⟨_,cs',c2,e1,e2,e3⟩|⟨_,e2⟩
      ·rw[h1]at e1
       cases e1
       rw[hbj]at e2
       cases e2
       exact .inl e3
      ·rw[hbj]at e2;cases e2;exact .inl rfl
theorem aBz (hC:iF K.P F.cfg.c) (hN:K.N=F.cfg.N) (jQ:K.P.follows .mixedOrders=true) (hF:fG K A inb) (hbk:jV A inb F.aQ=true):
  ∀(c:Code) (tail:Bool) (n:Nat) (p:aN) (Q:Ex×aN→Prop) (a:Act) (w:World),(dF F A inb tbl c tail n p).all Q→ck K (cu A p) a w→ai3 K.P c tail (gH K A Q) a w:=by
 obtain⟨hok,hin⟩:=hF.bk hbk
 intro c
 induction c with
 |skip=>intro tail n p Q a w h hp;cases tail;exact wp_skip ⟨(.normal,p),rfl,h,hp⟩;trivial
 |exit id=>intro tail n p Q a w h hp;cases tail;exact wp_exit ⟨(.exit id,p),rfl,h,hp⟩;trivial
 |ret=>intro tail n p Q a w h hp;cases tail;exact wp_ret ⟨(.ret,p),rfl,h,hp⟩;trivial
 |region id ops draw=>
  intro tail n p Q a w h hp
  cases tail
  ·obtain⟨s,cB,wT,h4,hsub,hargs,bP,hend⟩:=arD hF hbk h
   obtain⟨e1,e2⟩:=adu F.cfg.c ops _ _ _ _ h4
   have hg:Vs.Good K (cl (bg A (fresh p))) a w:=by rw[aan];exact hp.1
   refine ahh hC hN jQ e1 (fun hd=>?_) hg fun a' w' hg'=>?_
   ·have:=bP hd
    simp only[qE,Bool.and_eq_true]at this
    refine⟨?_,this.1⟩
    unfold adr
    rw[e2]
    exact hsub.pairs this.2
   ·obtain⟨y,g1,g2,g3⟩:=hend a' w' hg'
    exact⟨y,by rw[←g1];rfl,g2,g3⟩
  ·trivial
 |seq x y nR o9=>
  intro tail n p Q a w h hp
  cases tail
  ·simp only[dF]at h
   rw[all_bind]at h
   refine wp_seq (wp_mono (nR false n p _ a w h hp) ?_)
   rintro e a' w' ⟨⟨ex,p'⟩,rfl,hq,hp'⟩
   cases ex with
   |normal=>exact o9 false _ p' Q a' w' hq hp'
   |exit i=>exact⟨_,rfl,hq,hp'⟩
   |ret=>exact⟨_,rfl,hq,hp'⟩
  ·exact o9 false _ p Q a w h hp
 |cond c x y nR o9=>
  intro tail n p Q a w h hp
  cases tail
  ·have dX:∀e,aiW c p=some e→∀b,cE e= .d (.bool b)→a.eval c= .bool b:=by
     intro e he b hb
     unfold aiW at he
     split at he
     ·rename_i t
      split at he
      ·rename_i c' hl
       cases he
       obtain⟨β,ω,Z,hr⟩:=hp.1
       have:=hr.tmps t
       rw[aam,hl]at this
       have h2:=this.2
       rw[hb]at h2
       exact h2
      ·cases he
     ·rename_i b'
      cases he
      have:b'=b:=by cases b'<;>cases b<;>first|rfl|(simp[kb,cE]at hb)
      subst this
      rfl
     ·cases he
   simp only[dF]at h
   split at h
   ·rename_i he
    exact wp_cond_split (dX _ he true rfl) (fun _=>nR false n p Q a w h hp) (fun hb=>by cases hb)
   ·rename_i he
    exact wp_cond_split (dX _ he false rfl) (fun hb=>by cases hb) (fun _=>o9 false _ p Q a w h hp)
   ·rename_i b he
    rw[all_map]at h
    have h1:=(wN (p0:=bg A (fresh p)) hF (.br b (dF F A inb tbl x false n (fresh p)) (dF F A inb tbl y false (n+nl x) (fresh p))) ⟨wS (F:=F) (tbl:=tbl) hF x false n (fresh p),wS (F:=F) (tbl:=tbl) hF y false _ (fresh p)⟩).2 _ h
    have fin:∀e a w,gH K A (Reach K A fun x=>Q (jf p.bC x)) e a w→gH K A Q e a w:=by
     intro e a w hh
     obtain⟨z,g1,g2,g3⟩:=gH.reach hh
     exact⟨jf p.bC z,g1,g2,g3⟩
    exact wp_cond_split (dX _ he b rfl) (fun hb=>wp_mono (nR false n (fresh p) _ a w (h1.1 hb) hp) fun e a' w' hh=>fin e a' w' hh) (fun hb=>wp_mono (o9 false _ (fresh p) _ a w (h1.2 hb) hp) fun e a' w' hh=>fin e a' w' hh)
   ·exact h.elim
  ·trivial
 |block id b ih=>
  intro tail n p Q a w h hp
  cases tail
  ·simp only[dF]at h
   rw[all_map]at h
   have hkeep:((dF F A inb tbl b false n (fresh p)).map (lU id)).each (dD (bg A (fresh p)) A):=by
    rw[Tr.iL]
    exact Tr.eH (fun x hx=>dD.lU hx) (wS hF b false n (fresh p))
   have h1:=(wN hF _ hkeep).2 _ h
   rw[all_map]at h1
   refine wp_block (wp_mono (ih false n (fresh p) _ a w h1 hp) ?_)
   rintro e a' w' ⟨⟨ex,p'⟩,rfl,hq,hp'⟩
   have hp2:ck K (cu A (lU id (ex,p')).2) a' w':=by
    unfold lU
    cases ex with
    |exit i=>simp only;split<;>exact hp'
    |_=>exact hp'
   obtain⟨y,g1,g2,g3⟩:=hq a' w' hp2
   have fin:gH K A Q (lN (lU id (ex,p')).1) a' w':=⟨jf p.bC y,g1,g2,g3⟩
   cases ex with
   |normal=>exact fin
   |ret=>exact fin
   |exit i=>
    show if i=id then gH K A Q .normal a' w' else gH K A Q (.exit i) a' w'
    by_cases hi:i=id
    ·rw[if_pos hi]
     unfold lU at fin
     simp only[hi,beq_self_eq_true]at fin
     exact fin
    ·rw[if_neg hi]
     have:(i==id)=false:=by simpa using hi
     unfold lU at fin
     simp only[this]at fin
     exact fin
  ·trivial
 |scope b ih=>
  intro tail n p Q a w h hp
  cases tail
  ·simp only[dF]at h
   refine wp_scope_straight (wp_mono (ih false n p Q a w h hp) ?_)
   rintro e a' w' ⟨⟨ex,p'⟩,rfl,hq,hp'⟩
   cases ex<;>exact⟨_,rfl,hq,hp'⟩
  ·trivial
 |loop b ih=>
  intro tail n p Q a w h hp
  cases tail
  ·simp only[dF]at h
   split at h
   ·rename_i R hR
    split at h
    ·rename_i x0 hx hm
     have wV:ck K (cu A (cm R.head.vs x0 (base A R.head p))) a w:=aBy hF hm (ck.cJ (p:=p) hF hx R.head.live hp)
     split at h
     ·obtain⟨z,hz,hQ⟩:=h
      generalize hh:base A R.head p=hd at *
      intro fb k cs
      have key:∀(m:Nat) (x:VT R.head.vs) (a:Act) (w:World),eU (fun x=>((dF F A inb tbl b false (n+1) (cm R.head.vs x hd)).bind (tV A inb R hd)).run) m x=some z→ck K (cu A (cm R.head.vs x hd)) a w→
        ∃e a' w',gH K A Q e a' w'∧Arrives K.P (lone (fb.at a (.code b :: .inLoop b :: k)) cs w) fb k cs e a' w':=by
       intro m
       induction m with
       |zero=>intro x a w hi;cases hi
       |succ m ihm=>
        intro x a w hi kB
        have hstep:=aA8 hi
        have round:∀o,((dF F A inb tbl b false (n+1) (cm R.head.vs x hd)).bind (tV A inb R hd)).run=some o→b.wp K.P (gH K A fun y=>(tV A inb R hd y).all (fun v=>v=o)∧dD (bg A (cm R.head.vs x hd)) A y) a w:=by
         intro o ho
         have h1:=(Tr.pG _ (fun v=>v=o)).2 ⟨o,ho,rfl⟩
         rw[all_bind]at h1
         exact ih false (n+1) _ _ a w (Tr.n9 h1 (Tr.ri (wS hF b false (n+1) _))) kB
        have exit:∀(ex:Ex) (p':aN) (o:VT R.head.vs ⊕ hD R.bT) (a₁:Act) (w₁:World),ex≠ .normal→(tV A inb R hd (ex,p')).all (fun v=>v=o)→dD (bg A (cm R.head.vs x hd)) A (ex,p')→ck K (cu A p') a₁ w₁→∃z',o= .inr z'∧∀Q,(rF A hd p.bC R.bT z').all Q→∃q,Q (ex,q)∧ck K (cu A q) a₁ w₁:=by
         intro ex p' o a₁ w₁ hne eB hkeep hp'
         have tW:(match og A inb R.head hd p' ex R.bT with|some y=>Tr.leaf (Sum.inr y)|none=>Tr.fail:Tr (VT R.head.vs ⊕ hD R.bT)).all (fun v=>v=o):=by
          cases ex with
          |normal=>exact absurd rfl hne
          |_=>exact eB
         split at tW
         ·rename_i z' tX
          exact⟨z',tW.symm,aA9 hF hkeep.2 hp' R.bT z' tX⟩
         ·exact tW.elim
        rcases hstep with⟨x',hs,vT⟩|hs
        ·obtain⟨e,a₁,w₁,⟨⟨ex,p'⟩,rfl,⟨eB,hkeep⟩,hp'⟩,fM⟩:=round _ hs fb (.inLoop b :: k) cs
         cases ex with
         |normal=>
          simp only[tV]at eB
          split at eB
          ·rename_i y hy
           have e:y=x':=by cases eB;rfl
           subst e
           obtain⟨e₂,a₂,w₂,zk,zm⟩:=ihm y a₁ w₁ vT (aA2 hF hkeep.2 hy hp')
           exact⟨e₂,a₂,w₂,zk,.of_steps (Steps.trans fM (.one step_inLoop)) zm⟩
          ·exact eB.elim
         |exit i=>obtain⟨z',h1,_⟩:=exit _ p' _ a₁ w₁ (by simp) eB hkeep hp';cases h1
         |ret=>obtain⟨z',h1,_⟩:=exit _ p' _ a₁ w₁ (by simp) eB hkeep hp';cases h1
        ·obtain⟨e,a₁,w₁,⟨⟨ex,p'⟩,rfl,⟨eB,hkeep⟩,hp'⟩,fM⟩:=round _ hs fb (.inLoop b :: k) cs
         have hne:ex≠ .normal:=by
          rintro rfl
          simp only[tV]at eB
          split at eB
          ·cases eB
          ·exact eB
         obtain⟨z',h1,h2⟩:=exit _ p' _ a₁ w₁ hne eB hkeep hp'
         cases h1
         obtain⟨q,hq,hpq⟩:=h2 Q hQ
         refine⟨_,a₁,w₁,⟨(ex,q),rfl,hq,hpq⟩,.pass (x:=.inLoop b) rfl (fun _ _=>.inl ?_) fM⟩
         cases ex<;>first|exact absurd rfl hne|simp[lN]
      obtain⟨e,a',w',hq,fM⟩:=key fuel x0 a w hz wV
      exact⟨e,a',w',hq,.of_steps (.one step_loop) fM⟩
     ·split at h
      ·rename_i hh hit
       split at h
       ·rename_i hok
        obtain⟨z,hz,hQ⟩:=h
        exact aBq hC hN hF hbk ih hh hok hit (fun hl=>arv (by simpa using hl)) hz hQ wV
       ·exact h.elim
      ·exact h.elim
    ·exact h.elim
   ·exact h.elim
  ·trivial
 |_=>intro tail n p Q a w h hp;cases tail<;>first|exact h.elim|trivial
end
theorem aBA {K:Ctx} {F:aZ} {A:List aj} {inb:List Key} {tbl:Nat→Option aX} (hF:fG K A inb) (c:Code) (n:Nat) (p:aN):(evC F A inb tbl c n p).each (dD (bg A p) A):=wS hF c false n p
theorem aBB {K:Ctx} {F:aZ} {A:List aj} {inb:List Key} {tbl:Nat→Option aX} (hC:iF K.P F.cfg.c) (hN:K.N=F.cfg.N) (jQ:K.P.follows .mixedOrders=true) (hF:fG K A inb) (hbk:jV A inb F.aQ=true) (c:Code) (n:Nat) (p:aN) (Q:Ex×aN→Prop) (a:Act) (w:World) (h:(evC F A inb tbl c n p).all Q) (hp:ck K (cu A p) a w):c.wp K.P (gH K A Q) a w:=aBz hC hN jQ hF hbk c false n p Q a w h hp
end Go.Ve
namespace Go.Ve
open Go.Vs
def rJ {α β:Type} (f:α→Option β):List α→Option (List β)
 | []=>some []
 |a :: r=>match f a,rJ f r with
  |some b,some l=>some (b :: l)
  |_,_=>none
theorem aja {α β:Type} {f:α→Option β} {g:β→α} (h:∀b,f (g b)=some b):∀(l:List β),rJ f (l.map g)=some l
 | []=>rfl
 |b :: l=>by simp only[List.map_cons,rJ,h,aja h l]
def gI:(t:Ty)→List D→Option (t.T×List D)
 | .int k=>fun ds=>match ds with
   | .int k' n :: r=>if k'=k then some (n,r)else none
   |_=>none
 | .bool=>fun ds=>match ds with
   | .bool b :: r=>some (b,r)
   |_=>none
 | .str=>fun ds=>match ds with
   | .str s :: r=>some (s,r)
   |_=>none
 | .sl t=>fun ds=>match ds with
   | .nil :: r=>some (none,r)
   | .sl e xs :: r=>if e=t.e then(match rJ (fun x=>match gI t x with|some (y,[])=>some y|_=>none) xs with|some l=>some (some l,r)|none=>none)else none
   |_=>none
 | .pair h t=>fun ds=>match gI h ds with
   |some (x,r)=>match gI t r with
    |some (y,r')=>some ((x,y),r')
    |none=>none
   |none=>none
 | .set k=>fun ds=>gI k ds
 | .aU _ h t=>fun ds=>match gI h ds with
   |some (x,r)=>match gI t r with
    |some (y,r')=>some ((x,y),r')
    |none=>none
   |none=>none
theorem tY:∀(t:Ty) (x:t.T) (r:List D),gI t (aA t x++r)=some (x,r)
 | .int k,n,r=>by simp[gI,aA]
 | .bool,b,r=>rfl
 | .str,s,r=>rfl
 | .sl t,o,r=>by
   cases o with
   |none=>rfl
   |some xs=>
    simp only[aA,List.cons_append,List.nil_append,gI,if_true]
    rw[aja (f:=fun x=>match gI t x with|some (y,[])=>some y|_=>none) (g:=aA t) (fun b=>by
     have:=tY t b []
     rw[List.append_nil]at this
     simp only[this])]
 | .pair h t,x,r=>by
   simp only[aA,gI,List.append_assoc]
   rw[tY h x.1]
   simp only
   rw[tY t x.2]
 | .set k,x,r=>tY k x r
 | .aU _ h t,x,r=>by
   simp only[aA,gI,List.append_assoc]
   rw[tY h x.1]
   simp only
   rw[tY t x.2]
def tZ (t:Ty) (ds:List D):Option t.T:=match gI t ds with|some (y,[])=>some y|_=>none
theorem arN (t:Ty) (x:t.T):tZ t (aA t x)=some x:=by
 unfold tZ
 have:=tY t x []
 rw[List.append_nil]at this
 rw[this]
def wW (t:Ty) (xs:List (List D)):Option (List t.T):=rJ (tZ t) xs
theorem aeP (t:Ty) (xs:List t.T):wW t (xs.map (aA t))=some xs:=aja (arN t) xs
def Sh.dec:(h:Sh)→C→Option h.T
 | .i k=>fun c=>match c with
   | .d (.int k' x)=>if k'=k then some x else none
   |_=>none
 | .b=>fun c=>match c with
   | .d (.bool x)=>some x
   |_=>none
 | .s=>fun c=>match c with
   | .d (.str x)=>some x
   |_=>none
 | .l m t=>fun c=>match m,c with
   | .data,.d (.sl e xs)=>if e=t.e then wW t xs else none
   | .own,.own e xs=>if e=t.e then wW t xs else none
   |_,_=>none
 | .n m t=>fun c=>match m,c with
   | .data,.d .nil=>some none
   | .own,.d .nil=>some none
   | .data,.d (.sl e xs)=>if e=t.e then(wW t xs).map some else none
   | .own,.own e xs=>if e=t.e then(wW t xs).map some else none
   |_,_=>none
 | .p k off=>fun c=>match c with
   | .ptr k' off'=>if k=k'∧off=off' then some ()else none
   |_=>none
 | .dd=>fun c=>match c with
   | .dead=>some ()
   |_=>none
 | .u k=>fun c=>match c with
   | .d (.aK k')=>if k'=k then some ()else none
   |_=>none
def Sh.aBC:Sh→Bool
 | .p _ _=>false
 |_=>true
def Sh.plain:Sh→Bool
 | .l (.aD ..) _=>false
 | .n (.aD ..) _=>false
 |_=>true
theorem Sh.jX:∀{h:Sh} (x:h.T),h.plain=true→h.dec (cE (h.inst x))=some x
 | .i k,x,_=>by simp[Sh.dec,Sh.inst,cE]
 | .b,x,_=>rfl
 | .dd,x,_=>rfl
 | .u k,x,_=>by simp[Sh.dec,Sh.inst,cE]
 | .s,x,_=>rfl
 | .p k off,x,_=>by simp[Sh.dec,Sh.inst,cE]
 | .l m t,x,hp=>by
   cases m with
   |aD=>cases hp
   |data=>simp only[Sh.dec,Sh.inst,cE,lC,if_true];exact aeP t x
   |own=>simp only[Sh.dec,Sh.inst,cE,lC,if_true];exact aeP t x
 | .n m t,o,hp=>by
   cases m with
   |aD=>cases hp
   |data=>
    cases o with
    |none=>rfl
    |some x=>simp only[Sh.dec,Sh.inst,cE,lC,if_true];rw[aeP t x];rfl
   |own=>
    cases o with
    |none=>rfl
    |some x=>simp only[Sh.dec,Sh.inst,cE,lC,if_true];rw[aeP t x];rfl
@[reducible] def HT:List Sh→Type
  | []=>Unit
  |h :: r=>match r with
   | []=>h.T
   |h' :: r=>h.T×HT (h' :: r)
def HT.inst:(l:List Sh)→HT l→List E
 | [],_=>[]
 | [h],x=>[h.inst x]
 |h :: h' :: r,x=>h.inst x.1 :: HT.inst (h' :: r) x.2
def HT.di:(l:List Sh)→List E→Option (HT l)
 | [],cs=>match cs with
   | []=>some ()
   |_=>none
 | [h],cs=>match cs with
   | [c]=>h.di c
   |_=>none
 |h :: h' :: r,cs=>match cs with
  |c :: cs=>match h.di c,HT.di (h' :: r) cs with
   |some x,some y=>some (x,y)
   |_,_=>none
  | []=>none
def HT.dec:(l:List Sh)→List C→Option (HT l)
 | [],cs=>match cs with
   | []=>some ()
   |_=>none
 | [h],cs=>match cs with
   | [c]=>h.dec c
   |_=>none
 |h :: h' :: r,cs=>match cs with
  |c :: cs=>match h.dec c,HT.dec (h' :: r) cs with
   |some x,some y=>some (x,y)
   |_,_=>none
  | []=>none
theorem HT.je:∀(l:List Sh) (cs:List E) (x:HT l),HT.di l cs=some x→aq (HT.inst l x)=aq cs
 | [],cs,x,e=>by cases cs<;>first|rfl|cases e
 | [h],cs,x,e=>by
   match cs with
   | []=>cases e
   | [c]=>exact congrArg (fun z=>[z]) (Sh.je (h:=h) e)
   |_ :: _ :: _=>cases e
 |h :: h' :: r,cs,x,e=>by
  cases cs with
  |nil=>cases e
  |cons c cs=>
   simp only[HT.di]at e
   split at e
   ·rename_i y z h1 h2
    cases e
    show cE (h.inst y) :: aq (HT.inst (h' :: r) z)=cE c :: aq cs
    rw[Sh.je h1,HT.je (h' :: r) cs z h2]
   ·cases e
theorem HT.jX:∀(l:List Sh) (x:HT l),l.all Sh.plain=true→HT.dec l (aq (HT.inst l x))=some x
 | [],x,_=>rfl
 | [h],x,hp=>Sh.jX (h:=h) x (by simpa using hp)
 |h :: h' :: r,x,hp=>by
  rw[List.all_cons,Bool.and_eq_true]at hp
  show(match h.dec (cE (h.inst x.1)),HT.dec (h' :: r) (aq (HT.inst (h' :: r) x.2))with
   |some x,some y=>some (x,y)
   |_,_=>none)=_
  rw[Sh.jX x.1 hp.1,HT.jX (h' :: r) x.2 hp.2]
def HT.dflt:(l:List Sh)→HT l
 | []=>()
 | [h]=>h.dflt
 |h :: h' :: r=>(h.dflt,HT.dflt (h' :: r))
def uc:List (Key×Nat)→List (Key×Nat)→Bool
 | [],[]=>true
 |p :: r,p' :: r'=>de p.1 p'.1&&p.2==p'.2&&uc r r'
 |_,_=>false
theorem arO:∀{l l':List (Key×Nat)},uc l l'=true↔l=l'
 | [],[]=>by simp[uc]
 | [],_ :: _=>by simp[uc]
 |_ :: _,[]=>by simp[uc]
 |(k,o) :: r,(k',o') :: r'=>by
  simp only[uc,Bool.and_eq_true,fQ,beq_iff_eq,arO,List.cons.injEq,Prod.mk.injEq]
inductive It where
 |one (h:Sh)|row (t:Ty)|cells (l:List Sh)|ptr (k:Key) (off:Nat)|bW (f:FuncId) (caps:List (Key×Nat):=[])|aK (k:NK)|kS|iM (k:Key) (off:Nat)
@[reducible] def It.T:It→Type
  | .one h=>h.T
  | .row t=>t.T
  | .cells l=>HT l
  | .ptr _ _=>Unit
  | .bW _ _=>Unit
  | .aK _=>Unit
  | .kS=>Unit
  | .iM _ _=>Unit
def It.has:It→Bool
 | .one _=>true
 | .row _=>true
 | .cells _=>true
 | .ptr _ _=>false
 | .bW _ _=>false
 | .aK _=>false
 | .kS=>false
 | .iM _ _=>false
def It.inst:(i:It)→i.T→aj
 | .one h,x=>.one (h.inst x)
 | .row t,x=>.agg (dh t x)
 | .cells l,x=>.agg (HT.inst l x)
 | .ptr k off,_=>.one (.ptr k off)
 | .bW f caps,_=>.one (.bW f caps)
 | .aK k,_=>.one (.aK k)
 | .kS,_=>.one .nil
 | .iM k off,_=>.agg [.ptr k off]
def It.di:(i:It)→aj→Option i.T
 | .one h=>fun v=>match v with
   | .one c=>h.di c
   |_=>none
 | .row t=>fun v=>match v with
   | .agg cs=>iI t cs
   |_=>none
 | .cells l=>fun v=>match v with
   | .agg cs=>HT.di l cs
   |_=>none
 | .ptr k off=>fun v=>match v with
   | .one (.ptr k' off')=>match de k k'&&off==off' with
     |true=>some ()
     |false=>none
   |_=>none
 | .bW f caps=>fun v=>match v with
   | .one (.bW f' l)=>match f==f'&&uc caps l with
     |true=>some ()
     |false=>none
   |_=>none
 | .aK k=>fun v=>match v with
   | .one (.aK k')=>if k=k' then some ()else none
   |_=>none
 | .kS=>fun v=>match v with
   | .one .nil=>some ()
   |_=>none
 | .iM k off=>fun v=>match v with
   | .agg [.ptr k' off']=>match de k k'&&off==off' with
     |true=>some ()
     |false=>none
   |_=>none
def ud:List C→Option (List D)
 | []=>some []
 | .d x :: r=>match ud r with
   |some l=>some (x :: l)
   |none=>none
 |_=>none
theorem arP:∀(l:List D),ud (l.map .d)=some l
 | []=>rfl
 |d :: l=>by simp only[List.map_cons,ud,arP l]
def It.dec:(i:It)→SV→Option i.T
 | .one h=>fun v=>match v with
   | .one c=>h.dec c
   |_=>none
 | .row t=>fun v=>match v with
   | .agg cs=>match ud cs with
     |some ds=>tZ t ds
     |none=>none
   |_=>none
 | .cells l=>fun v=>match v with
   | .agg cs=>HT.dec l cs
   |_=>none
 | .ptr k off=>fun v=>match v with
   | .one (.ptr k' off')=>if k=k'∧off=off' then some ()else none
   |_=>none
 | .bW f caps=>fun v=>match v with
   | .one (.bW f' l)=>if f=f'∧l=caps then some ()else none
   |_=>none
 | .aK k=>fun v=>match v with
   | .one (.d (.aK k'))=>if k=k' then some ()else none
   |_=>none
 | .kS=>fun v=>match v with
   | .one (.d .nil)=>some ()
   |_=>none
 | .iM k off=>fun v=>match v with
   | .agg [.ptr k' off']=>if k=k'∧off=off' then some ()else none
   |_=>none
def It.ok:It→Bool
 | .one h=>h.plain&&h.aBC
 | .cells l=>l.all Sh.plain
 | .ptr (.inb _) _=>true
 | .ptr _ _=>false
 |_=>true
def It.dflt:(i:It)→i.T
 | .one h=>h.dflt
 | .row t=>t.zero
 | .cells l=>HT.dflt l
 | .ptr _ _=>()
 | .bW _ _=>()
 | .aK _=>()
 | .kS=>()
 | .iM _ _=>()
theorem It.je:∀{i:It} {v:aj} {x:i.T},i.di v=some x→ai (i.inst x)=ai v
 | .one h,v,x,e=>by
   cases v with
   |one c=>exact congrArg SV.one (Sh.je (h:=h) e)
   |_=>cases e
 | .row t,v,x,e=>by
   cases v with
   |agg cs=>
    have e:iI t cs=some x:=e
    show SV.agg (aq (dh t x))=SV.agg (aq cs)
    rw[gQ,ad5 e]
   |_=>cases e
 | .cells l,v,x,e=>by
   cases v with
   |agg cs=>exact congrArg SV.agg (HT.je l cs x e)
   |_=>cases e
 | .ptr k off,v,x,e=>by
   simp only[It.di]at e
   split at e
   ·split at e
    ·rename_i h
     simp only[Bool.and_eq_true,beq_iff_eq,fQ]at h
     obtain⟨rfl,rfl⟩:=h
     rfl
    ·cases e
   ·cases e
 | .bW f caps,v,x,e=>by
   simp only[It.di]at e
   split at e
   ·split at e
    ·rename_i h
     simp only[Bool.and_eq_true,beq_iff_eq,arO]at h
     obtain⟨rfl,rfl⟩:=h
     rfl
    ·cases e
   ·cases e
 | .aK k,v,x,e=>by
   simp only[It.di]at e
   split at e
   ·split at e
    ·rename_i h;subst h;rfl
    ·cases e
   ·cases e
 | .kS,v,x,e=>by
   simp only[It.di]at e
   split at e
   ·rfl
   ·cases e
 | .iM k off,v,x,e=>by
   simp only[It.di]at e
   split at e
   ·split at e
    ·rename_i h
     simp only[Bool.and_eq_true,beq_iff_eq,fQ]at h
     obtain⟨rfl,rfl⟩:=h
     rfl
    ·cases e
   ·cases e
theorem It.jX:∀{i:It} (x:i.T),i.ok=true→i.dec (ai (i.inst x))=some x
 | .one h,x,hp=>Sh.jX (h:=h) x (by simp only[It.ok,Bool.and_eq_true]at hp;exact hp.1)
 | .row t,x,_=>by
   show(match ud (aq (dh t x))with|some ds=>tZ t ds|none=>none)=_
   rw[gQ,arP]
   exact arN t x
 | .cells l,x,hp=>HT.jX l x hp
 | .ptr k off,x,_=>by simp[It.dec,It.inst,ai,cE]
 | .bW f caps,x,_=>by simp[It.dec,It.inst,ai,cE]
 | .aK k,x,_=>by simp[It.dec,It.inst,ai,cE]
 | .kS,x,_=>by simp[It.dec,It.inst,ai,cE]
 | .iM k off,x,_=>by simp[It.dec,It.inst,ai,aq,cE]
def hJ (l:List It):Bool:=l.any It.has
@[reducible] def T2 (b:Bool) (α β:Type):Type:=match b with
  |true=>α×β
  |false=>α
def T2.fst {α β:Type}:(b:Bool)→T2 b α β→α
 |true,x=>x.1
 |false,x=>x
def T2.snd {α β:Type}:(b:Bool)→β→T2 b α β→β
 |true,_,x=>x.2
 |false,d,_=>d
def T2.mk {α β:Type}:(b:Bool)→α→β→T2 b α β
 |true,x,y=>(x,y)
 |false,x,_=>x
theorem T2.fst_mk {α β:Type} (b:Bool) (x:α) (y:β):T2.fst b (T2.mk b x y)=x:=by cases b<;>rfl
theorem T2.aBD {α β:Type} (b:Bool) (d:β) (z:T2 b α β):T2.mk b (T2.fst b z) (T2.snd b d z)=z:=by cases b<;>rfl
@[reducible] def IT:List It→Type
  | []=>Unit
  |i :: r=>match i.has with
   |true=>T2 (hJ r) i.T (IT r)
   |false=>IT r
def IT.hd:(i:It)→(r:List It)→IT (i :: r)→i.T
 | .one _,r=>fun x=>T2.fst (hJ r) x
 | .row _,r=>fun x=>T2.fst (hJ r) x
 | .cells _,r=>fun x=>T2.fst (hJ r) x
 | .ptr _ _,_=>fun _=>()
 | .bW _ _,_=>fun _=>()
 | .aK _,_=>fun _=>()
 | .kS,_=>fun _=>()
 | .iM _ _,_=>fun _=>()
def IT.tl (d:(r:List It)→IT r):(i:It)→(r:List It)→IT (i :: r)→IT r
 | .one _,r=>fun x=>T2.snd (hJ r) (d r) x
 | .row _,r=>fun x=>T2.snd (hJ r) (d r) x
 | .cells _,r=>fun x=>T2.snd (hJ r) (d r) x
 | .ptr _ _,_=>fun x=>x
 | .bW _ _,_=>fun x=>x
 | .aK _,_=>fun x=>x
 | .kS,_=>fun x=>x
 | .iM _ _,_=>fun x=>x
def IT.cons:(i:It)→(r:List It)→i.T→IT r→IT (i :: r)
 | .one _,r=>fun x y=>T2.mk (hJ r) x y
 | .row _,r=>fun x y=>T2.mk (hJ r) x y
 | .cells _,r=>fun x y=>T2.mk (hJ r) x y
 | .ptr _ _,_=>fun _ y=>y
 | .bW _ _,_=>fun _ y=>y
 | .aK _,_=>fun _ y=>y
 | .kS,_=>fun _ y=>y
 | .iM _ _,_=>fun _ y=>y
def IT.dflt:(l:List It)→IT l
 | []=>()
 |i :: r=>IT.cons i r i.dflt (IT.dflt r)
def IT.inst:(l:List It)→IT l→List aj
 | [],_=>[]
 |i :: r,x=>i.inst (IT.hd i r x) :: IT.inst r (IT.tl IT.dflt i r x)
def IT.di:(l:List It)→List aj→Option (IT l)
 | [],vs=>match vs with
   | []=>some ()
   |_=>none
 |i :: r,vs=>match vs with
  |v :: vs=>match i.di v,IT.di r vs with
   |some x,some y=>some (IT.cons i r x y)
   |_,_=>none
  | []=>none
def IT.dec:(l:List It)→List SV→Option (IT l)
 | [],vs=>match vs with
   | []=>some ()
   |_=>none
 |i :: r,vs=>match vs with
  |v :: vs=>match i.dec v,IT.dec r vs with
   |some x,some y=>some (IT.cons i r x y)
   |_,_=>none
  | []=>none
theorem IT.unit:∀(l:List It),hJ l=false→∀x y:IT l,x=y
 | [],_,_,_=>rfl
 |i :: r,h,x,y=>by
  have h2:i.has=false∧hJ r=false:=by
   simp only[hJ,List.any_cons,Bool.or_eq_false_iff]at h
   exact h
  cases i with
  |one _=>cases h2.1
  |row _=>cases h2.1
  |cells _=>cases h2.1
  |ptr _ _=>exact IT.unit r h2.2 x y
  |bW _ _=>exact IT.unit r h2.2 x y
  |aK _=>exact IT.unit r h2.2 x y
  |kS=>exact IT.unit r h2.2 x y
  |iM _ _=>exact IT.unit r h2.2 x y
theorem T2.snd_mk (r:List It) {α:Type} (x:α) (y d:IT r):T2.snd (hJ r) d (T2.mk (hJ r) x y)=y:=by
 have:∀b,hJ r=b→T2.snd b d (T2.mk b x y)=y:=by
  intro b hb
  cases b with
  |true=>rfl
  |false=>exact IT.unit r hb d y
 exact this _ rfl
theorem IT.aaz (i:It) (r:List It) (x:i.T) (y:IT r):IT.hd i r (IT.cons i r x y)=x:=by
 cases i<;>first|exact T2.fst_mk (hJ r) x y|rfl
theorem IT.aaA (i:It) (r:List It) (x:i.T) (y:IT r):IT.tl IT.dflt i r (IT.cons i r x y)=y:=by
 cases i<;>first|exact T2.snd_mk r x y _|rfl
theorem IT.aBE (i:It) (r:List It) (z:IT (i :: r)):IT.cons i r (IT.hd i r z) (IT.tl IT.dflt i r z)=z:=by
 cases i<;>first|exact T2.aBD (hJ r) _ z|rfl
theorem IT.je:∀(l:List It) (vs:List aj) (x:IT l),IT.di l vs=some x→(IT.inst l x).map ai=vs.map ai
 | [],vs,x,e=>by cases vs<;>first|rfl|cases e
 |i :: r,vs,x,e=>by
  cases vs with
  |nil=>cases e
  |cons v vs=>
   simp only[IT.di]at e
   split at e
   ·rename_i y z h1 h2
    cases e
    simp only[IT.inst,List.map_cons]
    rw[IT.aaz,IT.aaA,It.je h1,IT.je r vs z h2]
   ·cases e
theorem IT.jX:∀(l:List It) (x:IT l),l.all It.ok=true→IT.dec l ((IT.inst l x).map ai)=some x
 | [],x,_=>rfl
 |i :: r,x,hp=>by
  rw[List.all_cons,Bool.and_eq_true]at hp
  simp only[IT.inst,List.map_cons,IT.dec]
  rw[It.jX _ hp.1,IT.jX r _ hp.2]
  simp only
  rw[IT.aBE]
theorem aeQ {α β:Type} {f:α→Option β} {g:β→α} (h:∀a b,f a=some b→a=g b):∀(l:List α) (r:List β),rJ f l=some r→l=r.map g
 | [],r,e=>by cases e;rfl
 |a :: l,r,e=>by
  simp only[rJ]at e
  split at e
  ·rename_i b r' h1 h2
   cases e
   rw[h a b h1,aeQ h l r' h2]
   rfl
  ·cases e
theorem uf:∀(t:Ty) (ds:List D) (x:t.T) (r:List D),gI t ds=some (x,r)→ds=aA t x++r
 | .int k,ds,x,r,e=>by
   simp only[gI]at e
   split at e
   ·split at e
    ·rename_i h;subst h;cases e;rfl
    ·cases e
   ·cases e
 | .bool,ds,x,r,e=>by
   simp only[gI]at e
   split at e<;>cases e
   rfl
 | .str,ds,x,r,e=>by
   simp only[gI]at e
   split at e<;>cases e
   rfl
 | .sl t,ds,x,r,e=>by
   simp only[gI]at e
   split at e
   ·cases e;rfl
   ·split at e
    ·rename_i h
     subst h
     split at e
     ·rename_i l hl
      cases e
      have:=aeQ (g:=aA t) (fun a b hab=>by
       split at hab
       ·rename_i y hy
        cases hab
        have:=uf t a _ [] hy
        simpa using this
       ·cases hab) _ _ hl
      rw[this]
      rfl
     ·cases e
    ·cases e
   ·cases e
 | .pair h t,ds,x,r,e=>by
   simp only[gI]at e
   split at e
   ·rename_i y r1 h1
    split at e
    ·rename_i z r2 h2
     cases e
     rw[uf h ds y r1 h1,uf t r1 z r h2]
     simp[aA]
    ·cases e
   ·cases e
 | .set k,ds,x,r,e=>uf k ds x r e
 | .aU _ h t,ds,x,r,e=>by
   simp only[gI]at e
   split at e
   ·rename_i y r1 h1
    split at e
    ·rename_i z r2 h2
     cases e
     rw[uf h ds y r1 h1,uf t r1 z r h2]
     simp[aA]
    ·cases e
   ·cases e
theorem arQ {t:Ty} {ds:List D} {x:t.T} (h:tZ t ds=some x):ds=aA t x:=by
 unfold tZ at h
 split at h
 ·rename_i y hy
  cases h
  have:=uf t ds _ [] hy
  simpa using this
 ·cases h
theorem aeR {t:Ty} {ds:List (List D)} {xs:List t.T} (h:wW t ds=some xs):ds=xs.map (aA t):=aeQ (fun _ _=>arQ) ds xs h
theorem Sh.hO:∀{h:Sh} {c:C} {x:h.T},h.dec c=some x→c=cE (h.inst x)
 | .dd,c,x,e=>by
   simp only[Sh.dec]at e
   split at e<;>cases e
   rfl
 | .u k,c,x,e=>by
   simp only[Sh.dec]at e
   split at e
   ·split at e
    ·rename_i h;subst h;rfl
    ·cases e
   ·cases e
 | .p k off,c,x,e=>by
   simp only[Sh.dec]at e
   split at e
   ·split at e
    ·rename_i h;obtain⟨rfl,rfl⟩:=h;rfl
    ·cases e
   ·cases e
 | .i k,c,x,e=>by
   simp only[Sh.dec]at e
   split at e
   ·split at e
    ·rename_i h;subst h;cases e;rfl
    ·cases e
   ·cases e
 | .b,c,x,e=>by
   simp only[Sh.dec]at e
   split at e<;>cases e
   rfl
 | .s,c,x,e=>by
   simp only[Sh.dec]at e
   split at e<;>cases e
   rfl
 | .l m t,c,x,e=>by
   simp only[Sh.dec]at e
   split at e
   ·split at e
    ·rename_i h;subst h;rw[aeR e];rfl
    ·cases e
   ·split at e
    ·rename_i h;subst h;rw[aeR e];rfl
    ·cases e
   ·cases e
 | .n m t,c,x,e=>by
   simp only[Sh.dec]at e
   split at e
   ·cases e;rfl
   ·cases e;rfl
   ·split at e
    ·rename_i h;subst h
     obtain⟨y,h1,rfl⟩:=Option.map_eq_some_iff.1 e
     rw[aeR h1];rfl
    ·cases e
   ·split at e
    ·rename_i h;subst h
     obtain⟨y,h1,rfl⟩:=Option.map_eq_some_iff.1 e
     rw[aeR h1];rfl
    ·cases e
   ·cases e
theorem HT.hO:∀(l:List Sh) (cs:List C) (x:HT l),HT.dec l cs=some x→cs=aq (HT.inst l x)
 | [],cs,x,e=>by cases cs<;>first|rfl|cases e
 | [h],cs,x,e=>by
   match cs with
   | []=>cases e
   | [c]=>exact congrArg (fun z=>[z]) (Sh.hO (h:=h) e)
   |_ :: _ :: _=>cases e
 |h :: h' :: r,cs,x,e=>by
  cases cs with
  |nil=>cases e
  |cons c cs=>
   simp only[HT.dec]at e
   split at e
   ·rename_i y z h1 h2
    cases e
    show c :: cs=cE (h.inst y) :: aq (HT.inst (h' :: r) z)
    rw[←Sh.hO h1,←HT.hO (h' :: r) cs z h2]
   ·cases e
theorem arR:∀{cs:List C} {l:List D},ud cs=some l→cs=l.map .d
 | [],l,e=>by cases e;rfl
 |c :: cs,l,e=>by
  cases c with
  |d x=>
   simp only[ud]at e
   split at e
   ·rename_i l' h;cases e;rw[arR h];rfl
   ·cases e
  |_=>cases e
theorem It.hO:∀{i:It} {v:SV} {x:i.T},i.dec v=some x→v=ai (i.inst x)
 | .one h,v,x,e=>by
   cases v with
   |one c=>exact congrArg SV.one (Sh.hO (h:=h) e)
   |_=>cases e
 | .row t,v,x,e=>by
   cases v with
   |agg cs=>
    simp only[It.dec]at e
    split at e
    ·rename_i ds hd
     show SV.agg cs=SV.agg (aq (dh t x))
     rw[gQ,←arQ e,arR hd]
    ·cases e
   |_=>cases e
 | .cells l,v,x,e=>by
   cases v with
   |agg cs=>exact congrArg SV.agg (HT.hO l cs x e)
   |_=>cases e
 | .ptr k off,v,x,e=>by
   simp only[It.dec]at e
   split at e
   ·split at e
    ·rename_i h;obtain⟨rfl,rfl⟩:=h;rfl
    ·cases e
   ·cases e
 | .bW f caps,v,x,e=>by
   simp only[It.dec]at e
   split at e
   ·split at e
    ·rename_i h;obtain⟨rfl,rfl⟩:=h;rfl
    ·cases e
   ·cases e
 | .aK k,v,x,e=>by
   simp only[It.dec]at e
   split at e
   ·split at e
    ·rename_i h;subst h;rfl
    ·cases e
   ·cases e
 | .kS,v,x,e=>by
   simp only[It.dec]at e
   split at e
   ·rfl
   ·cases e
 | .iM k off,v,x,e=>by
   simp only[It.dec]at e
   split at e
   ·split at e
    ·rename_i h;obtain⟨rfl,rfl⟩:=h;rfl
    ·cases e
   ·cases e
theorem IT.hO:∀(l:List It) (vs:List SV) (x:IT l),IT.dec l vs=some x→vs=(IT.inst l x).map ai
 | [],vs,x,e=>by cases vs<;>first|rfl|cases e
 |i :: r,vs,x,e=>by
  cases vs with
  |nil=>cases e
  |cons v vs=>
   simp only[IT.dec]at e
   split at e
   ·rename_i y z h1 h2
    cases e
    simp only[IT.inst,List.map_cons]
    rw[IT.aaz,IT.aaA,←It.hO h1,←IT.hO r vs z h2]
   ·cases e
def aeS:Nat→List aj→List (Nat×aj)
 |_,[]=>[]
 |i,v :: vs=>(i,cx.copy { v } (.arg i)) :: aeS (i+1) vs
def rK:Nat→List (List E)→List (Key×List E)
 |_,[]=>[]
 |i,b :: bs=>(.inb i,b) :: rK (i+1) bs
def ug (A:List aj) (B:List (List E)):aN:={ slots:=aeS 0 A,boxes:=rK 0 B,aB:=[],bC:=[] }
theorem arS:∀(A:List aj) (i:Nat),(aeS i A).map (fun x=>(x.1,ai x.2))=qJ i (A.map ai)
 | [],i=>rfl
 |v :: A,i=>by
  simp only[aeS,List.map_cons,qJ,adz]
  rw[arS A (i+1)]
  congr 2
  exact copy_eq { v } (.arg i)
theorem arT:∀(B:List (List E)) (i:Nat),(rK i B).map (fun x=>(x.1,aq x.2))=qK i (B.map aq)
 | [],i=>rfl
 |b :: B,i=>by simp only[rK,List.map_cons,qK];rw[arT B (i+1)]
theorem aBF (A:List aj) (B:List (List E)):cu A (ug A B)=lO (A.map ai) (B.map aq):=by
 simp only[cu,ug,lO,arS,arT,fF]
def ajb (cfg:aP):ResultVar→PE aj
 | .tmp t=>dy (.tmp t)
 | .cell a t=>match cfg.ti t with
   |some i=>do wk i (←eg (.tmp a))
   |none=>.fail
def aeT (cfg:aP):List ResultVar→PE (List aj)
 | []=>.ret []
 |r :: rs=>do let v ←ajb cfg r;let vs ←aeT cfg rs;.ret (v :: vs)
def ajc:E→PE E
 | .l (.aD (.arg i) j hv cv k) t xs=>nU (.l (.aD (.arg i) j hv cv k) t xs)
 | .n (.aD (.arg i) j hv cv k) t o=>nU (.n (.aD (.arg i) j hv cv k) t o)
 | .it m t xs sn=>match m with
   | .aD .. =>.fail
   |m=>.ret (.it m t xs sn)
 |c=>.ret c
def aeU (c:E):PE E:=ajc c
def aaB:List E→PE (List E)
 | []=>.ret []
 |c :: cs=>do let c' ←aeU c;let r ←aaB cs;.ret (c' :: r)
def wX:aj→PE aj
 | .one c=>do .ret (.one (←aeU c))
 | .agg cs=>do .ret (.agg (←aaB cs))
 |_=>.fail
def aeV:List aj→PE (List aj)
 | []=>.ret []
 |v :: vs=>do let v' ←wX v;let r ←aeV vs;.ret (v' :: r)
def ajd:E→Bool
 | .ptr _ _=>true
 | .dead=>true
 |c=>nW c
theorem aBG {cs:List E} (h:cs.all ajd=true):(aq cs).all easy=true:=by
 simp only[aq,List.all_map,List.all_eq_true,Function.comp_apply]at h ⊢
 intro c hc
 have:=h c hc
 cases c with
 |ptr k off=>rfl
 |l m t xs=>cases m<;>first|rfl|cases this
 |n m t o=>cases m<;>cases o<;>first|rfl|cases this
 |_=>first|rfl|cases this
def aje (k:Key):PE Unit:=
 .get (.box k) fun x=>match x.v with
  | .agg cs=>match cs.all ajd with
    |true=>.ret ()
    |false=>.fail
  |_=>.fail
def aeW:List Key→PE Unit
 | []=>.ret ()
 |k :: ks=>do aje k;aeW ks
def wY (v:aj):Bool×List E:=match v with| .one c=>(false,[c])| .agg cs=>(true,cs)|_=>(false,[])
def lV:List aj→aj
 | [v]=>v
 |vs=>.aJ (vs.map wY)
def wZ (ks:List Key):E→PE E
 | .ptr k off=>do sure (ks.any (de k));.ret (.ptr (.inb (idx k ks)) off)
 | .bW f caps=>do sure caps.isEmpty;.ret (.bW f [])
 |c=>match nW c with
  |true=>.ret c
  |false=>.fail
def rL (ks:List Key):List E→PE (List E)
 | []=>.ret []
 |c :: cs=>do let c' ←wZ ks c;let r ←rL ks cs;.ret (c' :: r)
def uh (ks:List Key):List (Bool×List E)→PE (List (Bool×List E))
 | []=>.ret []
 |(b,cs) :: vs=>do let cs' ←rL ks cs;let r ←uh ks vs;.ret ((b,cs') :: r)
def lW (ks:List Key):aj→PE aj
 | .one c=>do .ret (.one (←wZ ks c))
 | .agg cs=>do .ret (.agg (←rL ks cs))
 | .aJ vs=>do .ret (.aJ (←uh ks vs))
 | .undef=>.fail
def ajf (nb:Nat) (cs:List E):List Key:=fP nb++(dedup (kK cs)).filter fun k=> !k.isIn
def uj (cfg:aP) (res:List ResultVar) (nb:Nat):PE (aj×List (List E)):=do
 let vs ←aeT cfg res
 let ks:=ajf nb (vs.flatMap aj.cells)
 aeW ks
 let iE ←aeV vs
 let v2 ←pn (.tmp 0) (apa cfg.bK) (lV iE)
 let bs ←mS ks ks
 let v3 ←lW ks v2
 .ret (v3,bs)
theorem aBH (cfg:aP) (r:ResultVar) (s:aG):af s (ajb cfg r) ai (vW cfg r):=by
 cases r with
 |tmp t=>exact dV (.tmp t) s
 |cell a t=>
  simp only[ajb,vW]
  cases cfg.ti t with
  |none=>exact af.fail
  |some i=>
   simp only[aL,bind_eq]
   exact af.bind (ek _ s) fun c s1=>ap4 i c s1
theorem arU (cfg:aP):∀(rs:List ResultVar) (s:aG),af s (aeT cfg rs) (List.map ai) (vX cfg rs)
 | [],s=>af.ret rfl
 |r :: rs,s=>by
  simp only[aeT,vX,aL,bind_eq]
  exact af.bind (aBH cfg r s) fun v s1=>af.bind (arU cfg rs s1) fun vs s2=>af.ret rfl
theorem arV (c:E) (s:aG):af s (aeU c) cE (tA (cE c)):=by
 unfold aeU
 cases c with
 |l m t xs=>
  cases m with
  |aD r j hv cv k=>
   cases r with
   |arg i=>
    simp only[ajc,tA,cE,lC,bind_eq]
    exact aee (wK (.l (.aD (.arg i) j hv cv k) t xs) s) (aef _ s)
   |_=>exact af.ret rfl
  |_=>exact af.ret rfl
 |n m t o=>
  cases m with
  |aD r j hv cv k=>
   cases r with
   |arg i=>
    have h:=aee (wK (.n (.aD (.arg i) j hv cv k) t o) s) (aef _ s)
    cases o with
    |none=>exact h
    |some xs=>simp only[ajc,tA,cE,lC,bind_eq];exact h
   |_=>cases o<;>exact af.ret rfl
  |_=>cases o<;>exact af.ret rfl
 |gone b=>cases b<;>exact af.ret rfl
 |it m t xs sn=>cases m<;>first|exact af.ret rfl|exact af.fail
 |_=>exact af.ret rfl
theorem arW:∀(cs:List E) (s:aG),af s (aaB cs) aq (qF (aq cs))
 | [],s=>af.ret rfl
 |c :: cs,s=>by
  show af s (aaB (c :: cs)) aq (qF (cE c :: aq cs))
  simp only[aaB,qF,aL,bind_eq]
  exact af.bind (arV c s) fun c' s1=>af.bind (arW cs s1) fun cs' s2=>af.ret rfl
theorem aBI (v:aj) (s:aG):af s (wX v) ai (mN (ai v)):=by
 cases v with
 |one c=>
  show af s (wX (.one c)) ai (mN (.one (cE c)))
  simp only[wX,mN,aL,bind_eq]
  exact af.bind (arV c s) fun c' s1=>af.ret rfl
 |agg cs=>
  show af s (wX (.agg cs)) ai (mN (.agg (aq cs)))
  simp only[wX,mN,aL,bind_eq]
  exact af.bind (arW cs s) fun c' s1=>af.ret rfl
 |_=>exact af.fail
theorem arX:∀(vs:List aj) (s:aG),af s (aeV vs) (List.map ai) (vY (vs.map ai))
 | [],s=>af.ret rfl
 |v :: vs,s=>by
  simp only[List.map_cons,aeV,vY,aL,bind_eq]
  exact af.bind (aBI v s) fun c' s1=>af.bind (arX vs s1) fun cs' s2=>af.ret rfl
theorem aBJ (k:Key) (s:aG):af s (aje k) (fun _=>()) (Vs.settle k):=by
 unfold aje Vs.settle
 refine af.get ?_
 cases hv:(s.get (.box k)).v with
 |agg cs=>
  simp only[bJ,hv,ai]
  cases hp:cs.all ajd with
  |false=>exact af.fail
  |true=>rw[if_pos (aBG hp)];exact af.ret rfl
 |_=>simp only[bJ,hv,ai];exact af.fail
theorem arY:∀(ks:List Key) (s:aG),af s (aeW ks) (fun _=>()) (vZ ks)
 | [],s=>af.ret rfl
 |k :: ks,s=>by
  simp only[aeW,vZ,aL,bind_eq]
  exact af.bind (aBJ k s) fun _ s1=>arY ks s1
theorem uo (vs:List aj):ai (lV vs)=ady (vs.map ai):=by
 match vs with
 | []=>rfl
 | [v]=>rfl
 |v :: u :: r=>
  show SV.aJ (dB ((v :: u :: r).map wY))=SV.aJ (((v :: u :: r).map ai).map fun v=>match v with| .one c=>(false,[c])| .agg cs=>(true,cs)|_=>(false,[]))
  congr 1
  generalize v :: u :: r=l
  induction l with
  |nil=>rfl
  |cons x l ih=>
   show((wY x).1,aq (wY x).2) :: dB (l.map wY)=_
   rw[ih]
   cases x<;>rfl
theorem arZ (ks:List Key) (c:E) (s:aG):af s (wZ ks c) cE (tB ks (cE c)):=by
 cases c with
 |l m t xs=>cases m<;>first|exact af.ret rfl|exact af.fail
 |n m t o=>cases m<;>cases o<;>first|exact af.ret rfl|exact af.fail
 |ptr k off=>
  simp only[wZ,tB,cE,aL,bind_eq]
  refine af.sure fun h=>?_
  rw[wL]at h
  rw[bt (by simpa using h)]
  exact af.ret rfl
 |bW f caps=>
  simp only[wZ,tB,cE,aL,bind_eq]
  refine af.sure fun h=>?_
  rw[bt (by simpa using h)]
  exact af.ret rfl
 |ea=>exact af.fail
 |da=>exact af.fail
 |dead=>exact af.fail
 |gone b=>exact af.fail
 |it=>exact af.fail
 |_=>exact af.ret rfl
theorem ajg (ks:List Key):∀(cs:List E) (s:aG),af s (rL ks cs) aq (qH ks (aq cs))
 | [],s=>af.ret rfl
 |c :: cs,s=>by
  show af s (rL ks (c :: cs)) aq (qH ks (cE c :: aq cs))
  simp only[rL,qH,aL,bind_eq]
  exact af.bind (arZ ks c s) fun c' s1=>af.bind (ajg ks cs s1) fun cs' s2=>af.ret rfl
theorem ar0 (ks:List Key):∀(vs:List (Bool×List E)) (s:aG),af s (uh ks vs) dB (tC ks (dB vs))
 | [],s=>af.ret rfl
 |(b,cs) :: vs,s=>by
  show af s (uh ks ((b,cs) :: vs)) dB (tC ks ((b,aq cs) :: dB vs))
  simp only[uh,tC,aL,bind_eq]
  exact af.bind (ajg ks cs s) fun c' s1=>af.bind (ar0 ks vs s1) fun cs' s2=>af.ret rfl
theorem aBK (ks:List Key) (v:aj) (s:aG):af s (lW ks v) ai (kG ks (ai v)):=by
 cases v with
 |one c=>
  show af s (lW ks (.one c)) ai (kG ks (.one (cE c)))
  simp only[lW,kG,aL,bind_eq]
  exact af.bind (arZ ks c s) fun c' s1=>af.ret rfl
 |agg cs=>
  show af s (lW ks (.agg cs)) ai (kG ks (.agg (aq cs)))
  simp only[lW,kG,aL,bind_eq]
  exact af.bind (ajg ks cs s) fun c' s1=>af.ret rfl
 |aJ vs=>
  show af s (lW ks (.aJ vs)) ai (kG ks (.aJ (dB vs)))
  simp only[lW,kG,aL,bind_eq]
  exact af.bind (ar0 ks vs s) fun c' s1=>af.ret rfl
 |undef=>exact af.fail
theorem aBL (cfg:aP) (res:List ResultVar) (nb:Nat) (s:aG):af s (uj cfg res nb) (fun x=>(ai x.1,x.2.map aq)) (mO cfg res nb):=by
 simp only[uj,mO,aL,bind_eq]
 refine af.bind (arU cfg res s) fun vs s1=>?_
 have hk:qI nb ((vs.map ai).flatMap SV.cells)=ajf nb (vs.flatMap aj.cells):=by unfold qI ajf;rw[aio,ain]
 rw[hk]
 refine af.bind (arY _ s1) fun _ s2=>af.bind (arX vs s2) fun iE s3=>?_
 rw[←uo]
 exact af.bind (ap1 _ _ _ s3) fun v2 s4=>af.bind (aip _ _ s4) fun bs s5=>af.bind (aBK _ v2 s5) fun v3 s6=>af.ret rfl
theorem wF {α:Type} (t:Tr α):t.each fun _=>True:=by
 induction t with
 |leaf a=>trivial
 |fail=>trivial
 |br c t e cS cT=>exact⟨cS,cT⟩
 |call d o k ih=>exact ih
 |sum o k k' ih cM=>exact⟨ih,cM⟩
theorem aBM (ks:List Key) (v:aj) (s:aG):((lW ks v).both s).each fun x=>x.2.1=s:=by
 have one:∀(c:E) (s:aG),((wZ ks c).both s).each fun x=>x.2.1=s:=by
  intro c s
  cases c with
  |ptr k off=>
   show(((sure _).bind fun _=>PE.ret _).both s).each _
   cases ks.any (de k)<;>first|exact trivial|exact rfl
  |bW f caps=>
   show(((sure _).bind fun _=>PE.ret _).both s).each _
   cases caps.isEmpty<;>first|exact trivial|exact rfl
  |l m t xs=>cases m<;>first|exact rfl|exact trivial
  |n m t o=>cases m<;>first|exact rfl|exact trivial
  |_=>first|exact rfl|exact trivial
 have many:∀(cs:List E) (s:aG),((rL ks cs).both s).each fun x=>x.2.1=s:=by
  intro cs
  induction cs with
  |nil=>intro s;exact rfl
  |cons c cs ih=>
   intro s
   simp only[rL,aL]
   rw[gF,Tr.gO]
   refine Tr.eH ?_ (one c s)
   rintro ⟨a,s',f,g⟩ h
   rw[Tr.iL,gF,Tr.gO]
   refine Tr.eH ?_ (ih s')
   rintro ⟨b,s'',f',g'⟩ h'
   exact h'.trans h
 have aJ:∀(vs:List (Bool×List E)) (s:aG),((uh ks vs).both s).each fun x=>x.2.1=s:=by
  intro vs
  induction vs with
  |nil=>intro s;exact rfl
  |cons p vs ih=>
   intro s
   obtain⟨b,cs⟩:=p
   simp only[uh,aL]
   rw[gF,Tr.gO]
   refine Tr.eH ?_ (many cs s)
   rintro ⟨a,s',f,g⟩ h
   rw[Tr.iL,gF,Tr.gO]
   refine Tr.eH ?_ (ih s')
   rintro ⟨b,s'',f',g'⟩ h'
   exact h'.trans h
 cases v with
 |one c=>
  simp only[lW,aL]
  rw[gF,Tr.gO]
  exact Tr.eH (fun x hx=>hx) (one c s)
 |agg cs=>
  simp only[lW,aL]
  rw[gF,Tr.gO]
  exact Tr.eH (fun x hx=>hx) (many cs s)
 |aJ vs=>
  simp only[lW,aL]
  rw[gF,Tr.gO]
  exact Tr.eH (fun x hx=>hx) (aJ vs s)
 |undef=>exact trivial
theorem ar1 (kk:List Key):∀(ks:List Key) (s:aG),((mS kk ks).both s).each fun x=>x.2.1=s∧Holds kk s ks x.1
 | [],s=>⟨rfl,trivial⟩
 |k :: ks,s=>by
  simp only[mS,PE.both,Tr.iL,aL]
  cases hv:(s.get (.box k)).v with
  |agg cs=>
   cases hp:cs.all (iK kk)with
   |false=>simp only[hp];exact trivial
   |true=>
    simp only[hp]
    show(((mS kk ks).bind fun r=>PE.ret (cs.map (eL kk) :: r)).both s).each _
    rw[gF,Tr.gO]
    refine Tr.eH ?_ (ar1 kk ks s)
    rintro ⟨a,s',f,g⟩ ⟨h1,h2⟩
    simp only at h1 h2
    subst h1
    exact⟨rfl,⟨cs,hv,hp,rfl⟩,h2⟩
  |_=>exact trivial
theorem aBN (cfg:aP) (res:List ResultVar) (nb:Nat) (s:aG):((uj cfg res nb).both s).each fun x=>∃ks,Holds (fP nb++ks) x.2.1 (fP nb++ks) x.1.2:=by
 simp only[uj,aL]
 rw[gF,Tr.gO]
 refine Tr.eH ?_ (wF _)
 rintro ⟨vs,s1,f1,g1⟩ _
 rw[Tr.iL,gF,Tr.gO]
 refine Tr.eH ?_ (wF _)
 rintro ⟨_,s2,f2,g2⟩ _
 rw[Tr.iL,gF,Tr.gO]
 refine Tr.eH ?_ (wF _)
 rintro ⟨iE,s3,f3,g3⟩ _
 rw[Tr.iL,gF,Tr.gO]
 refine Tr.eH ?_ (wF _)
 rintro ⟨v2,s4,f4,g4⟩ _
 rw[Tr.iL,gF,Tr.gO]
 refine Tr.eH ?_ (ar1 _ _ s4)
 rintro ⟨bs,s5,f5,g5⟩ ⟨h1,h2⟩
 simp only at h1
 subst h1
 rw[Tr.iL,gF,Tr.gO]
 refine Tr.eH ?_ (aBM _ v2 s5)
 rintro ⟨v3,s6,f6,g6⟩ h3
 simp only at h3
 subst h3
 exact⟨_,h2⟩
end Go.Ve
namespace Go.Ve
open Go.Vs
structure aF where
 args:List It
 boxes:List It:=[]
 res:List It
 bf:List (List (Option Sh)):=[]
 aB:List (Nat×Nat):=[]
 opt:Bool:=false
def aeX (v:aj):List E:=match v with| .agg cs=>cs|_=>[]
abbrev aF.X (S:aF):Type:=IT (S.args++S.boxes)
def aF.eo (S:aF) (x:S.X):List aj:=(IT.inst (S.args++S.boxes) x).take S.args.length
def aF.dR (S:aF) (x:S.X):List (List E):=((IT.inst (S.args++S.boxes) x).drop S.args.length).map aeX
def aeY:List (Option Sh)→List It
 | []=>[]
 |none :: r=>aeY r
 |some h :: r=>.one h :: aeY r
def aBO:Bool→List It
 |true=>[.one .b]
 |false=>[]
def aF.jy (S:aF):List It:=aBO S.opt++S.bf.flatMap aeY
abbrev aF.Y (S:aF):Type:=IT (S.res++S.jy)
def lX (v:aj):E:=match v with| .one c=>c|_=>.dead
def pL:List (Option Sh)→List E→List (Option E)×List E
 | [],cs=>([],cs)
 |none :: r,cs=>let f:=pL r cs;(none :: f.1,f.2)
 |some _ :: r,cs=>match cs with
  |c :: cs=>let f:=pL r cs;(some c :: f.1,f.2)
  | []=>([],[])
def jh:List (List (Option Sh))→List E→List (List (Option E))
 | [],_=>[]
 |o :: os,cs=>let f:=pL o cs;f.1 :: jh os f.2
def om (n:Nat):aj→aj
 | .one (.ptr (.inb i) off)=>match Nat.ble n i with
   |true=>.one (.aK .ptr)
   |false=>.one (.ptr (.inb i) off)
 |v=>v
def aeZ:List E→Bool
 | .b b :: _=>b
 | .ff :: _=>false
 |_=>true
def aF.flag (S:aF) (y:S.Y):Bool:=match S.opt with
 |true=>aeZ (((IT.inst (S.res++S.jy) y).drop S.res.length).map lX)
 |false=>true
def aF.out (S:aF) (y:S.Y) (b:Bool):aj×List (List (Option E)):=
 let l:=IT.inst (S.res++S.jy) y
 match S.opt with
 |false=>(lV (l.take S.res.length),jh S.bf ((l.drop S.res.length).map lX))
 |true=>match b with
  |true=>(lV (l.take S.res.length),jh S.bf (((l.drop S.res.length).map lX).drop 1))
  |false=>(lV ((l.take S.res.length).map (om S.boxes.length)),jh (S.bf.take S.boxes.length) (((l.drop S.res.length).map lX).drop 1))
def aF.di (S:aF) (args:List aj) (boxes:List (List E)):Option S.X:=
 match args.length==S.args.length with
 |true=>IT.di (S.args++S.boxes) (args++boxes.map .agg)
 |false=>none
def aF.dec (S:aF) (args:List SV) (boxes:List (List C)):Option S.X:=
 if args.length=S.args.length then IT.dec (S.args++S.boxes) (args++boxes.map .agg)else none
def aF.F (S:aF) (sh:S.X→Option S.Y):fc:=fun args boxes=>
 match S.dec args boxes with
 |some x=>match sh x with
  |some y=>some { v:=ai (S.out y (S.flag y)).1,boxes:=(fy (S.dR x) (S.out y (S.flag y)).2).map aq,aB:=S.aB }
  |none=>none
 |none=>none
def ajh:It→Bool
 | .row _=>true
 | .cells _=>true
 | .iM _ _=>true
 |_=>false
def aBP (n:Nat):It→Bool
 | .iM (.inb i) _=>Nat.ble (i+1) n
 | .iM _ _=>false
 | .cells l=>l.all fun h=>match h with
   | .p (.inb i) _=>Nat.ble (i+1) n
   | .p _ _=>false
   |_=>true
 |_=>true
def aF.ok (S:aF):Bool:=S.args.all It.ok&&S.boxes.all It.ok&&(S.boxes.all ajh&&S.boxes.all (aBP S.boxes.length))
theorem IT.ar2:∀(l:List It) (x:IT l) (m:Nat) (v:aj),(IT.inst l x)[m]? =some v→∃i y,l[m]? =some i∧v=It.inst i y
 | [],_,m,v,h=>by simp[IT.inst]at h
 |i :: r,x,0,v,h=>by
  simp only[IT.inst,List.getElem?_cons_zero,Option.some.injEq]at h
  exact⟨i,_,rfl,h.symm⟩
 |i :: r,x,m+1,v,h=>by
  simp only[IT.inst,List.getElem?_cons_succ]at h
  obtain⟨i',y,h1,h2⟩:=IT.ar2 r _ m v h
  exact⟨i',y,by simpa using h1,h2⟩
theorem Sh.ar3 {h:Sh} {x:h.T} {k:Key} {off:Nat} (e:h.inst x= .ptr k off):h= .p k off:=by
 cases h<;>simp[Sh.inst]at e
 rw[e.1,e.2]
theorem HT.ar4:∀(l:List Sh) (x:HT l) (c:E),c∈HT.inst l x→∀k off,c= .ptr k off→Sh.p k off∈l
 | [],_,c,h=>by simp[HT.inst]at h
 | [sh],x,c,h=>by
   intro k off hc
   simp only[HT.inst,List.mem_singleton]at h
   subst h
   rw[Sh.ar3 hc]
   exact List.mem_cons_self ..
 |sh :: tK :: r,x,c,h=>by
  intro k off hc
  simp only[HT.inst,List.mem_cons]at h
  rcases h with rfl|h
  ·rw[Sh.ar3 hc]
   exact List.mem_cons_self ..
  ·exact List.mem_cons_of_mem _ (HT.ar4 (tK :: r) _ c (by simpa[HT.inst]using h) k off hc)
theorem w4:∀(t:Ty) (x:t.T) (c:E),c∈dh t x→∀k off,c≠ .ptr k off
 | .pair a b,x,c,h=>by
   simp only[dh,List.mem_append]at h
   rcases h with h|h
   ·exact w4 a _ c h
   ·exact w4 b _ c h
 | .aU _ a b,x,c,h=>by
   simp only[dh,List.mem_append]at h
   rcases h with h|h
   ·exact w4 a _ c h
   ·exact w4 b _ c h
 | .set k,x,c,h=>w4 k x c h
 | .int k,x,c,h=>by simp only[dh,List.mem_singleton]at h;subst h;simp
 | .bool,x,c,h=>by simp only[dh,List.mem_singleton]at h;subst h;simp
 | .str,x,c,h=>by simp only[dh,List.mem_singleton]at h;subst h;simp
 | .sl r,x,c,h=>by simp only[dh,List.mem_singleton]at h;subst h;simp
theorem aBQ {S:aF} (hok:S.ok=true) (x:S.X):∀b∈S.dR x,∀c∈b,∀k off,c= .ptr k off→∃i,k= .inb i∧i<S.boxes.length:=by
 intro b hb c hc k off qp
 obtain⟨v,hv,rfl⟩:=List.mem_map.1 hb
 obtain⟨m,hm⟩:=List.getElem?_of_mem hv
 rw[List.getElem?_drop]at hm
 obtain⟨i,y,h1,h2⟩:=IT.ar2 _ _ _ _ hm
 rw[List.getElem?_append_right (by omega)]at h1
 have hi:i∈S.boxes:=List.mem_of_getElem? h1
 simp only[aF.ok,Bool.and_eq_true]at hok
 have cz:=List.all_eq_true.1 hok.2.1 i hi
 have hp:=List.all_eq_true.1 hok.2.2 i hi
 subst h2
 cases i with
 |row t=>exact absurd qp (w4 t y c hc k off)
 |cells l=>
  have hm:=HT.ar4 l y c hc k off qp
  have hp:=List.all_eq_true.1 hp _ hm
  cases k with
  |inb i=>exact⟨i,rfl,by have:=Nat.le_of_ble_eq_true hp;omega⟩
  |loc t=>cases hp
  |esc t i=>cases hp
 |iM q o=>
  have cA:c∈[E.ptr q o]:=hc
  simp only[List.mem_singleton]at cA
  rw[qp]at cA
  cases cA
  cases k with
  |inb i=>exact⟨i,rfl,by have:=Nat.le_of_ble_eq_true hp;omega⟩
  |loc t=>cases hp
  |esc t i=>cases hp
 |_=>cases cz
theorem IT.aaC:∀(l:List It) (x:IT l),(IT.inst l x).length=l.length
 | [],_=>rfl
 |i :: r,x=>by simp[IT.inst,IT.aaC r]
theorem aBR {i:It} (h:ajh i=true) (x:i.T):∃cs,i.inst x= .agg cs:=by
 cases i<;>first|exact⟨_,rfl⟩|cases h
theorem ar5:∀(l:List It) (x:IT l),l.all ajh=true→((IT.inst l x).map aeX).map aj.agg=IT.inst l x
 | [],_,_=>rfl
 |i :: r,x,h=>by
  rw[List.all_cons,Bool.and_eq_true]at h
  simp only[IT.inst,List.map_cons]
  obtain⟨cs,e⟩:=aBR h.1 (IT.hd i r x)
  rw[ar5 r _ h.2,e]
  rfl
theorem IT.aBS (l m:List It) (x:IT (l++m)):∃y:IT m,(IT.inst (l++m) x).drop l.length=IT.inst m y:=by
 induction l with
 |nil=>exact⟨x,rfl⟩
 |cons i l ih=>exact ih (IT.tl IT.dflt i (l++m) x)
theorem aji:∀{a b:List (List C)},a.map SV.agg=b.map SV.agg→a=b
 | [],[],_=>rfl
 | [],_ :: _,h=>by simp at h
 |_ :: _,[],h=>by simp at h
 |x :: a,y :: b,h=>by
  simp only[List.map_cons,List.cons.injEq,SV.agg.injEq]at h
  rw[h.1,aji h.2]
section
variable (S:aF)
theorem aF.ae0 (x:S.X):(S.eo x).length=S.args.length:=by simp[aF.eo,IT.aaC]
theorem aF.aaD (x:S.X):(S.dR x).length=S.boxes.length:=by simp[aF.dR,IT.aaC]
theorem aF.ajj (hok:S.ok=true) (x:S.X):S.eo x++(S.dR x).map aj.agg=IT.inst (S.args++S.boxes) x:=by
 simp only[aF.ok,Bool.and_eq_true]at hok
 obtain⟨y,hy⟩:=IT.aBS S.args S.boxes x
 have:(S.dR x).map aj.agg=(IT.inst (S.args++S.boxes) x).drop S.args.length:=by
  unfold aF.dR
  rw[hy]
  exact ar5 S.boxes y hok.2.1
 rw[this]
 exact List.take_append_drop _ _
theorem aF.hO (hok:S.ok=true) {args:List SV} {boxes:List (List C)} {x:S.X} (h:S.dec args boxes=some x):args=(S.eo x).map ai∧boxes=(S.dR x).map aq:=by
 unfold aF.dec at h
 split at h
 ·rename_i hl
  have e:=IT.hO _ _ _ h
  rw[←aF.ajj S hok x,List.map_append]at e
  have:=List.append_inj e (by rw[List.length_map,aF.ae0,hl])
  refine⟨this.1,?_⟩
  have h2:=this.2
  rw[List.map_map]at h2
  have h3:boxes.map SV.agg=((S.dR x).map aq).map SV.agg:=by rw[h2,List.map_map];rfl
  exact aji h3
 ·cases h
theorem aF.jX (hok:S.ok=true) (x:S.X):S.dec ((S.eo x).map ai) ((S.dR x).map aq)=some x:=by
 have e:(S.eo x).map ai++((S.dR x).map aq).map SV.agg=(IT.inst (S.args++S.boxes) x).map ai:=by
  rw[←aF.ajj S hok x,List.map_append,List.map_map,List.map_map];rfl
 unfold aF.dec
 rw[if_pos (by rw[List.length_map,aF.ae0]),e]
 simp only[aF.ok,Bool.and_eq_true]at hok
 exact IT.jX _ x (by rw[List.all_append,hok.1.1,hok.1.2];rfl)
theorem aF.je (hok:S.ok=true) {args:List aj} {boxes:List (List E)} {x:S.X} (h:S.di args boxes=some x):args.map ai=(S.eo x).map ai∧boxes.map aq=(S.dR x).map aq:=by
 unfold aF.di at h
 split at h
 ·rename_i hl
  have e:=IT.je _ _ _ h
  rw[←aF.ajj S hok x,List.map_append,List.map_append]at e
  have:=List.append_inj e (by rw[List.length_map,List.length_map,aF.ae0];exact(beq_iff_eq.1 hl).symm)
  refine⟨this.1.symm,?_⟩
  have h2:=this.2
  rw[List.map_map,List.map_map]at h2
  have h3:(boxes.map aq).map SV.agg=((S.dR x).map aq).map SV.agg:=by rw[List.map_map,List.map_map];exact h2.symm
  exact aji h3
 ·cases h
end
theorem aBT {o:List (Option E)}:∀{a b:List E},aq a=aq b→aq (cI a o)=aq (cI b o):=by
 induction o with
 |nil=>intro a b h;cases a<;>cases b<;>simp_all [cI]
 |cons x o ih=>
  intro a b h
  cases a with
  |nil=>cases b with
   |nil=>rfl
   |cons y b=>simp[aq]at h
  |cons z a=>
   cases b with
   |nil=>simp[aq]at h
   |cons y b=>
    have h1:cE z=cE y∧aq a=aq b:=by simpa[aq]using h
    show cE (match x with|some x=>x|none=>z) :: aq (cI a o)=cE (match x with|some x=>x|none=>y) :: aq (cI b o)
    rw[ih h1.2]
    cases x with
    |none=>rw[h1.1]
    |some x=>rfl
theorem ar6:∀{a b:List (List E)} (os:List (List (Option E))),a.map aq=b.map aq→(fy a os).map aq=(fy b os).map aq
 | [],[],os,_=>rfl
 | [],_ :: _,_,h=>by simp at h
 |_ :: _,[],_,h=>by simp at h
 |x :: a,y :: b,[],h=>by simpa[fy]using h
 |x :: a,y :: b,o :: os,h=>by
  have h1:aq x=aq y∧a.map aq=b.map aq:=by simpa using h
  simp only[fy,List.map_cons]
  rw[aBT h1.1,ar6 os h1.2]
def aF.dY (S:aF):S.Y:=IT.dflt _
def aF.az (S:aF) (hok:S.ok=true) (sh:S.X→Option S.Y):aV where
 A:=S.X
 R:=S.Y
 d:=S.dY
 di:=S.di
 sh:=sh
 two:=S.opt
 flag:=S.flag
 out:=fun _ y b=>S.out y b
 aB:=S.aB
 F:=S.F sh
 one:=fun h y=>by unfold aF.flag;rw[h]
 ok:=by
  intro args boxes x y hm hs
  obtain⟨h1,h2⟩:=aF.je S hok hm
  have:(boxes.map fun l=>aq l)=(S.dR x).map aq:=h2
  unfold aF.F
  rw[h1,this,aF.jX S hok x]
  simp only[hs]
  rw[ar6 _ h2]
def aaE:Nat→aj→Option (List aj)
 |1,v=>some [v]
 |n,.aJ vs=>match vs.length==n with
  |true=>rJ (fun p=>match p.1,p.2 with
   |true,cs=>some (.agg cs)
   |false,[c]=>some (.one c)
   |false,_=>none) vs
  |false=>none
 |_,_=>none
def coll (d:cU) (k:Key):Nat→List (Option Sh)→List E→Option (List E)
 |_,[],[]=>some []
 |j,none :: o,c :: cs=>match !part (.box k) j d&&usable c with
  |true=>coll d k (j+1) o cs
  |false=>none
 |j,some _ :: o,c :: cs=>match coll d k (j+1) o cs with
  |some l=>some (c :: l)
  |none=>none
 |_,_,_=>none
def ae1:List (Option Sh)→List E→Option (List E)
 | [],[]=>some []
 |some _ :: o,c :: cs=>match ae1 o cs with
  |some l=>some (c :: l)
  |none=>none
 |_,_=>none
def iN (d:cU):Nat→List (List E)→List (List (Option Sh))→List (List E)→Option (List E)
 |i,b :: B,o :: os,c :: cs=>match b.length==c.length&&(!whole (.box (.inb i)) d||o.all Option.isSome),coll d (.inb i) 0 o c,iN d (i+1) B os cs with
  |true,some l,some l'=>some (l++l')
  |_,_,_=>none
 |i,[],o :: os,c :: cs=>match ae1 o c,iN d (i+1) [] os cs with
  |some l,some l'=>some (l++l')
  |_,_=>none
 |_,[],[],[]=>some []
 |_,_,_,_=>none
def ajk (n:Nat) (it:It) (v:aj):aj:=match it,v with
 | .ptr (.inb i) off,.one (.aK .ptr)=>match Nat.ble n i with
   |true=>.one (.ptr (.inb i) off)
   |false=>.one (.aK .ptr)
 |_,v=>v
def rM (n:Nat):List It→List aj→List aj
 |it :: oq,v :: vs=>ajk n it v :: rM n oq vs
 |_,vs=>vs
def xb (n:Nat):aj→Bool
 | .one (.ptr (.inb i) _)=> !Nat.ble n i
 |_=>true
def aBU (l:List (List (Option Sh))):List E:=(IT.inst (l.flatMap aeY) (IT.dflt _)).map lX
def aF.ae2 (S:aF) (d:cU) (B:List (List E)) (v:aj) (bs:List (List E)):Option S.Y:=
 match S.opt with
 |false=>match aaE S.res.length v,iN d 0 B S.bf bs with
  |some vs,some cs=>match vs.length==S.res.length with
   |true=>IT.di (S.res++S.jy) (vs++cs.map .one)
   |false=>none
  |_,_=>none
 |true=>match bs.length==S.bf.length with
  |true=>match aaE S.res.length v,iN d 0 B S.bf bs with
   |some vs,some cs=>match vs.length==S.res.length with
    |true=>IT.di (S.res++S.jy) (vs++(.tt :: cs).map .one)
    |false=>none
   |_,_=>none
  |false=>match aaE S.res.length v,iN d 0 B (S.bf.take S.boxes.length) bs with
   |some vs,some cs=>match vs.length==S.res.length&&vs.all (xb S.boxes.length)with
    |true=>IT.di (S.res++S.jy) (rM S.boxes.length S.res vs++(.ff :: cs++aBU (S.bf.drop S.boxes.length)).map .one)
    |false=>none
   |_,_=>none
def kT (F:aZ) (A:List aj) (B:List (List E)) (res:List ResultVar) (S:aF) (x:Ex×aN):Tr S.Y:=
 match x.1 with
 | .exit _=>.fail
 |_=>((uj F.cfg.c res B.length).both (bg A x.2)).bind fun y=>
  match decide (y.2.1.aB=S.aB)with
  |true=>match S.ae2 y.2.1.bC B y.1.1 y.1.2 with
   |some z=>.leaf z
   |none=>.fail
  |false=>.fail
noncomputable def evF (F:aZ) (tbl:Nat→Option aX) (c:Code) (res:List ResultVar) (S:aF) (x:S.X):Tr S.Y:=
 (evC F (S.eo x) (fP S.boxes.length) tbl c 0 (ug (S.eo x) (S.dR x))).bind (kT F (S.eo x) (S.dR x) res S)
theorem ajm {n:Nat} {v:aj} {vs:List aj} (h:aaE n v=some vs) (hl:vs.length=n):lV vs=v:=by
 unfold aaE at h
 split at h
 ·cases h;rfl
 ·rename_i n ws hn
  split at h
  ·have e:=aeQ (g:=wY) (f:=fun p:Bool×List E=>match p.1,p.2 with
     |true,cs=>some (aj.agg cs)
     |false,[c]=>some (.one c)
     |false,_=>none) (fun a b hab=>by
      obtain⟨b1,cs⟩:=a
      cases b1 with
      |true=>cases hab;rfl
      |false=>
       match cs,hab with
       | [c],hab=>cases hab;rfl
       | [],hab=>cases hab
       |_ :: _ :: _,hab=>cases hab) ws vs h
   rw[e]
   match vs,hl with
   | [],_=>rfl
   | [u],hl=>exact absurd hl.symm hn
   |_ :: _ :: _,_=>rfl
  ·cases h
 ·cases h
theorem ar7 {d:cU} {i:Nat} {o:List (Option Sh)} (h:(whole (.box (.inb i)) d=false∨o.all Option.isSome=true)) {j:Nat} (ho:o[j]? =some none):whole (.box (.inb (i+0))) d=false:=by
 rcases h with h|h
 ·exact h
 ·have:=List.all_eq_true.1 h none (List.mem_of_getElem? ho)
  cases this
theorem aaF {d:cU} {k:Key}:∀(o:List (Option Sh)) (j:Nat) (c b l:List E),coll d k j o c=some l→b.length=c.length→
  (∀(i:Nat) x y,o[i]? =some none→part (.box k) (j+i) d=false→b[i]? =some x→c[i]? =some y→usable y=true→y=x)→
  ∀l' rest,aq l'=aq l→∃os,pL o (l'++rest)=(os,rest)∧aq (cI b os)=aq c
 | [],j,[],b,l,h,hb,hk,l',rest,hl=>by
   cases h
   cases b with
   |nil=>
    cases l' with
    |nil=>exact⟨[],rfl,rfl⟩
    |cons x r=>simp[aq]at hl
   |cons x b=>simp at hb
 |none :: o,j,c :: cs,b,l,h,hb,hk,l',rest,hl=>by
  simp only[coll]at h
  split at h
  ·rename_i hc
   simp only[Bool.and_eq_true,Bool.not_eq_true']at hc
   cases b with
   |nil=>simp at hb
   |cons x b=>
    obtain⟨os,h1,h2⟩:=aaF o (j+1) cs b l h (by simpa using hb) (fun i y z ho hp hy hz hu=>hk (i+1) y z (by simpa using ho) (by rw[show j+(i+1)=j+1+i by omega];exact hp) (by simpa using hy) (by simpa using hz) hu) l' rest hl
    refine⟨none :: os,by simp only[pL,h1],?_⟩
    have e:=hk 0 x c (by simp) (by simpa using hc.1) rfl rfl hc.2
    show cE x :: aq (cI b os)=cE c :: aq cs
    rw[h2,e]
  ·cases h
 |some sh :: o,j,c :: cs,b,l,h,hb,hk,l',rest,hl=>by
  simp only[coll]at h
  split at h
  ·rename_i l1 h1
   cases h
   cases b with
   |nil=>simp at hb
   |cons x b=>
    cases l' with
    |nil=>simp[aq]at hl
    |cons z l'=>
     have hl2:cE z=cE c∧aq l'=aq l1:=by simpa[aq]using hl
     obtain⟨os,h2,h3⟩:=aaF o (j+1) cs b l1 h1 (by simpa using hb) (fun i y z ho hp hy hz hu=>hk (i+1) y z (by simpa using ho) (by rw[show j+(i+1)=j+1+i by omega];exact hp) (by simpa using hy) (by simpa using hz) hu) l' rest hl2.2
     refine⟨some z :: os,by simp only[List.cons_append,pL,h2],?_⟩
     show cE z :: aq (cI b os)=cE c :: aq cs
     rw[h3,hl2.1]
  ·cases h
 | [],j,c :: cs,b,l,h,_,_,_,_,_=>by cases h
 |none :: o,j,[],b,l,h,_,_,_,_,_=>by cases h
 |some _ :: o,j,[],b,l,h,_,_,_,_,_=>by cases h
theorem ajn:∀(o:List (Option Sh)) (c l:List E),ae1 o c=some l→∀l' rest,aq l'=aq l→∃os,pL o (l'++rest)=(os,rest)∧aq (qV os)=aq c
 | [],[],l,h,l',rest,hl=>by
   cases h
   cases l' with
   |nil=>exact⟨[],rfl,rfl⟩
   |cons x r=>simp[aq]at hl
 |some sh :: o,c :: cs,l,h,l',rest,hl=>by
  simp only[ae1]at h
  split at h
  ·rename_i l1 h1
   cases h
   cases l' with
   |nil=>simp[aq]at hl
   |cons z l'=>
    have hl2:cE z=cE c∧aq l'=aq l1:=by simpa[aq]using hl
    obtain⟨os,h2,h3⟩:=ajn o cs l1 h1 l' rest hl2.2
    refine⟨some z :: os,by simp only[List.cons_append,pL,h2],?_⟩
    show cE z :: aq (qV os)=cE c :: aq cs
    rw[h3,hl2.1]
  ·cases h
 | [],_ :: _,l,h,_,_,_=>by cases h
 |none :: o,_,l,h,_,_,_=>by cases h
 |some _ :: o,[],l,h,_,_,_=>by cases h
theorem aaH {l a b:List E} (h:aq l=aq (a++b)):∃l1 l2,l=l1++l2∧aq l1=aq a∧aq l2=aq b:=by
 refine⟨l.take a.length,l.drop a.length,(List.take_append_drop _ _).symm,?_,?_⟩
 ·have:=congrArg (List.take a.length) h
  simpa[aq,←List.map_take]using this
 ·have:=congrArg (List.drop a.length) h
  simpa[aq,←List.map_drop]using this
theorem ae3 {d:cU}:∀(os:List (List (Option Sh))) (i:Nat) (B bs:List (List E)) (l:List E),iN d i B os bs=some l→
  (∀m b c,B[m]? =some b→bs[m]? =some c→whole (.box (.inb (i+m))) d=false→∀j x y,part (.box (.inb (i+m))) j d=false→b[j]? =some x→c[j]? =some y→usable y=true→y=x)→
  ∀l',aq l'=aq l→(fy B (jh os l')).map aq=bs.map aq
 | [],i,[],[],l,h,_,l',hl=>rfl
 |o :: os,i,b :: B,c :: bs,l,h,hk,l',hl=>by
  simp only[iN]at h
  split at h
  ·rename_i l1 l2 h1 h2 h3
   cases h
   simp only[Bool.and_eq_true,Bool.or_eq_true,beq_iff_eq,Bool.not_eq_true']at h1
   obtain⟨uq,kU,rfl,e1,e2⟩:=aaH hl
   obtain⟨ws,g1,g2⟩:=aaF o 0 c b l1 h2 h1.1 (fun j x y ho hp hx hy hu=>hk 0 b c rfl rfl (ar7 h1.2 ho) j x y (by simpa using hp) hx hy hu) uq kU e1
   have ih:=ae3 os (i+1) B bs l2 h3 (fun m b c hb hc hw j x y hp hx hy hu=>hk (m+1) b c (by simpa using hb) (by simpa using hc) (by rw[show i+(m+1)=i+1+m by omega];exact hw) j x y (by rw[show i+(m+1)=i+1+m by omega];exact hp) hx hy hu) kU e2
   simp only[jh,g1,fy,List.map_cons]
   rw[g2,ih]
  ·cases h
 |o :: os,i,[],c :: bs,l,h,hk,l',hl=>by
  simp only[iN]at h
  split at h
  ·rename_i l1 l2 h2 h3
   cases h
   obtain⟨uq,kU,rfl,e1,e2⟩:=aaH hl
   obtain⟨ws,g1,g2⟩:=ajn o c l1 h2 uq kU e1
   have ih:=ae3 os (i+1) [] bs l2 h3 (fun m b c hb=>by simp at hb) kU e2
   simp only[jh,g1]
   show aq (qV ws) :: (fy [] (jh os kU)).map aq=aq c :: bs.map aq
   rw[g2,ih]
  ·cases h
 | [],i,b :: B,bs,l,h,_,_,_=>by cases bs<;>simp[iN]at h
 | [],i,[],c :: bs,l,h,_,_,_=>by simp[iN]at h
 |o :: os,i,B,[],l,h,_,_,_=>by cases B<;>simp[iN]at h
theorem aBV {l:List aj} {cs:List E} (h:l.map ai=(cs.map aj.one).map ai):aq (l.map lX)=aq cs:=by
 induction l generalizing cs with
 |nil=>cases cs<;>first|rfl|simp at h
 |cons u l ih=>
  cases cs with
  |nil=>simp at h
  |cons c cs=>
   simp only[List.map_cons,List.cons.injEq]at h
   show cE (lX u) :: aq (l.map lX)=cE c :: aq cs
   rw[ih h.2]
   congr 1
   cases u with
   |one x=>have:=h.1;simp only[ai,SV.one.injEq]at this;exact this
   |_=>have:=h.1;simp[ai]at this
theorem ajo {S:aF} {vs:List aj} {cs:List E} {y:S.Y} (h:IT.di (S.res++S.jy) (vs++cs.map .one)=some y) (hl:vs.length=S.res.length):
  ((IT.inst (S.res++S.jy) y).take S.res.length).map ai=vs.map ai∧aq (((IT.inst (S.res++S.jy) y).drop S.res.length).map lX)=aq cs:=by
 have e:=IT.je _ _ _ h
 rw[List.map_append]at e
 constructor
 ·have:=congrArg (List.take S.res.length) e
  rw[List.take_append_of_le_length (by rw[List.length_map];omega),List.take_of_length_le (l:=vs.map ai) (by rw[List.length_map];omega),←List.map_take]at this
  exact this
 ·refine aBV ?_
  have:=congrArg (List.drop S.res.length) e
  rw[List.drop_append_of_le_length (by rw[List.length_map];omega),List.drop_of_length_le (l:=vs.map ai) (by rw[List.length_map];omega),←List.map_drop,List.nil_append]at this
  exact this
def xd (n:Nat):SV→SV
 | .one (.ptr (.inb i) off)=>match Nat.ble n i with
   |true=>.one (.d (.aK .ptr))
   |false=>.one (.ptr (.inb i) off)
 |v=>v
theorem ajp (n:Nat) (v:aj):ai (om n v)=xd n (ai v):=by
 have other:∀c:E,(∀i off,c≠ .ptr (.inb i) off)→om n (.one c)= .one c∧xd n (ai (.one c))=ai (.one c):=by
  intro c hc
  constructor
  ·unfold om
   split
   ·rename_i i off hh;cases hh;exact absurd rfl (hc i off)
   ·rfl
  ·unfold xd
   split
   ·rename_i i off hh
    have hh:SV.one (cE c)=SV.one (.ptr (.inb i) off):=hh
    rw[SV.one.injEq]at hh
    exact absurd (aqy hh) (hc i off)
   ·rfl
 cases v with
 |one c=>
  by_cases h:∃i off,c= .ptr (.inb i) off
  ·obtain⟨i,off,rfl⟩:=h
   simp only[om,ai,cE,xd]
   cases Nat.ble n i<;>rfl
  ·obtain⟨h1,h2⟩:=other c (fun i off e=>h ⟨i,off,e⟩)
   rw[h1,h2]
 |_=>rfl
theorem ar8 {n:Nat} {v:aj} (h:xb n v=true):xd n (ai v)=ai v:=by
 rw[←ajp]
 congr 1
 unfold om
 split
 ·rename_i i off
  simp only[xb,Bool.not_eq_true']at h
  rw[h]
 ·rfl
theorem aBW {n:Nat} {it:It} {v u:aj} (h:xb n v=true) (hu:ai u=ai (ajk n it v)):ai (om n u)=ai v:=by
 rw[ajp,hu]
 unfold ajk
 split
 ·rename_i i off
  cases hb:Nat.ble n i with
  |true=>simp only[ai,cE,xd,hb]
  |false=>rfl
 ·exact ar8 h
theorem ar9 (n:Nat):∀(oq:List It) (vs us:List aj),vs.all (xb n)=true→us.map ai=(rM n oq vs).map ai→(us.map (om n)).map ai=vs.map ai
 |_,[],us,_,h=>by
  have:us=[]:=by
   cases us with
   |nil=>rfl
   |cons u us=>unfold rM at h;split at h<;>simp_all
  subst this
  rfl
 | [],v :: vs,us,hall,h=>by
   have base:∀(vs us:List aj),vs.all (xb n)=true→us.map ai=vs.map ai→(us.map (om n)).map ai=vs.map ai:=by
    intro vs
    induction vs with
    |nil=>intro us _ h;cases us<;>first|rfl|simp at h
    |cons v vs ih=>
     intro us hall h
     cases us with
     |nil=>simp at h
     |cons u us=>
      simp only[List.map_cons,List.cons.injEq]at h
      rw[List.all_cons,Bool.and_eq_true]at hall
      have:=ih us hall.2 h.2
      simp only[List.map_cons,List.cons.injEq]
      exact⟨by rw[ajp,h.1,ar8 hall.1],this⟩
   exact base _ us hall h
 |it :: oq,v :: vs,us,hall,h=>by
  rw[List.all_cons,Bool.and_eq_true]at hall
  cases us with
  |nil=>simp[rM]at h
  |cons u us=>
   simp only[rM,List.map_cons,List.cons.injEq]at h
   have:=ar9 n oq vs us hall.2 h.2
   simp only[List.map_cons,List.cons.injEq]
   exact⟨aBW hall.1 h.1,this⟩
theorem asa (n:Nat):∀(oq:List It) (vs:List aj),(rM n oq vs).length=vs.length
 | [],vs=>by cases vs<;>rfl
 |it :: oq,[]=>rfl
 |it :: oq,v :: vs=>by simp[rM,asa n oq vs]
theorem asb {l:List E} {c:E} {cs:List E} (h:aq l=aq (c :: cs)) (hc:c= .tt∨c= .ff):aeZ l=(match c with| .tt=>true|_=>false)∧aq (l.drop 1)=aq cs:=by
 cases l with
 |nil=>simp[aq]at h
 |cons x l=>
  have h1:cE x=cE c∧aq l=aq cs:=by simpa[aq]using h
  refine⟨?_,h1.2⟩
  have hx:=h1.1
  rcases hc with rfl|rfl
  ·cases x with
   |b v=>simp only[cE,C.d.injEq,D.bool.injEq]at hx;simp[aeZ,hx]
   |tt=>rfl
   |ff=>simp[cE]at hx
   |l m t xs=>cases m<;>simp[cE,lC]at hx
   |n m t o=>cases m<;>cases o<;>simp[cE,lC]at hx
   |gone b=>cases b<;>simp[cE]at hx
   |it m t xs sn=>cases m<;>simp[cE,mC]at hx
   |_=>simp[cE]at hx
  ·cases x with
   |b v=>simp only[cE,C.d.injEq,D.bool.injEq]at hx;simp[aeZ,hx]
   |ff=>rfl
   |tt=>simp[cE]at hx
   |l m t xs=>cases m<;>simp[cE,lC]at hx
   |n m t o=>cases m<;>cases o<;>simp[cE,lC]at hx
   |gone b=>cases b<;>simp[cE]at hx
   |it m t xs sn=>cases m<;>simp[cE,mC]at hx
   |_=>simp[cE]at hx
theorem aId {d:cU} {k:Key} (o:List (Option Sh)) (c b l:List E) (h:coll d k 0 o c=some l) (hb:b.length=c.length)
  (hk:∀i x y,part (.box k) i d=false→b[i]? =some x→c[i]? =some y→usable y=true→y=x) (l' rest:List E) (hl:aq l'=aq l):∃os,pL o (l'++rest)=(os,rest)∧aq (cI b os)=aq c:=
 aaF o 0 c b l h hb (fun i x y _ hp=>hk i x y (by simpa using hp)) l' rest hl
theorem ajq {d:cU}:∀(os:List (List (Option Sh))) (i:Nat) (B bs:List (List E)) (l:List E),iN d i B os bs=some l→
  (∀m b c,B[m]? =some b→bs[m]? =some c→whole (.box (.inb (i+m))) d=false→∀j x y,part (.box (.inb (i+m))) j d=false→b[j]? =some x→c[j]? =some y→usable y=true→y=x)→
  ∀l' rest,aq l'=aq l→(fy B (jh os (l'++rest))).map aq=bs.map aq
 | [],i,[],[],l,h,_,l',rest,hl=>rfl
 |o :: os,i,b :: B,c :: bs,l,h,hk,l',rest,hl=>by
  simp only[iN]at h
  split at h
  ·rename_i l1 l2 h1 h2 h3
   cases h
   simp only[Bool.and_eq_true,Bool.or_eq_true,beq_iff_eq,Bool.not_eq_true']at h1
   obtain⟨uq,kU,rfl,e1,e2⟩:=aaH hl
   obtain⟨ws,g1,g2⟩:=aaF o 0 c b l1 h2 h1.1 (fun j x y ho hp hx hy hu=>hk 0 b c rfl rfl (ar7 h1.2 ho) j x y (by simpa using hp) hx hy hu) uq (kU++rest) e1
   have ih:=ajq os (i+1) B bs l2 h3 (fun m b c hb hc hw j x y hp hx hy hu=>hk (m+1) b c (by simpa using hb) (by simpa using hc) (by rw[show i+(m+1)=i+1+m by omega];exact hw) j x y (by rw[show i+(m+1)=i+1+m by omega];exact hp) hx hy hu) kU rest e2
   simp only[jh,List.append_assoc,g1,fy,List.map_cons]
   rw[g2,ih]
  ·cases h
 |o :: os,i,[],c :: bs,l,h,hk,l',rest,hl=>by
  simp only[iN]at h
  split at h
  ·rename_i l1 l2 h2 h3
   cases h
   obtain⟨uq,kU,rfl,e1,e2⟩:=aaH hl
   obtain⟨ws,g1,g2⟩:=ajn o c l1 h2 uq (kU++rest) e1
   have ih:=ajq os (i+1) [] bs l2 h3 (fun m b c hb=>by simp at hb) kU rest e2
   simp only[jh,List.append_assoc,g1]
   show aq (qV ws) :: (fy [] (jh os (kU++rest))).map aq=aq c :: bs.map aq
   rw[g2,ih]
  ·cases h
 | [],i,b :: B,bs,l,h,_,_,_,_=>by cases bs<;>simp[iN]at h
 | [],i,[],c :: bs,l,h,_,_,_,_=>by simp[iN]at h
 |o :: os,i,B,[],l,h,_,_,_,_=>by cases B<;>simp[iN]at h
theorem aBX {S:aF} {d:cU} {B bs:List (List E)} {v:aj} {y:S.Y} (h:S.ae2 d B v bs=some y)
  (hk:∀m b c,B[m]? =some b→bs[m]? =some c→whole (.box (.inb m)) d=false→∀j x z,part (.box (.inb m)) j d=false→b[j]? =some x→c[j]? =some z→usable z=true→z=x):
  ai v=ai (S.out y (S.flag y)).1∧bs.map aq=(fy B (S.out y (S.flag y)).2).map aq:=by
 unfold aF.ae2 at h
 split at h
 ·rename_i xe
  have hout:S.out y (S.flag y)=(lV ((IT.inst (S.res++S.jy) y).take S.res.length),jh S.bf (((IT.inst (S.res++S.jy) y).drop S.res.length).map lX)):=by
   unfold aF.out;rw[xe]
  rw[hout]
  split at h
  ·rename_i vs cs h1 h2
   split at h
   ·rename_i h3
    have hl:vs.length=S.res.length:=by simpa using h3
    obtain⟨ht,hd⟩:=ajo h hl
    refine⟨?_,?_⟩
    ·show ai v=ai (lV _)
     rw[uo,ht,←uo,ajm h1 hl]
    ·exact(ae3 S.bf 0 B bs cs h2 (by simpa using hk) _ hd).symm
   ·cases h
  ·cases h
 ·rename_i xe
  split at h
  ·split at h
   ·rename_i vs cs h1 h2
    split at h
    ·rename_i h3
     have hl:vs.length=S.res.length:=by simpa using h3
     obtain⟨ht,hd⟩:=ajo h hl
     obtain⟨f1,f2⟩:=asb hd (.inl rfl)
     have hfl:S.flag y=true:=by unfold aF.flag;rw[xe];exact f1
     have hout:S.out y true=(lV ((IT.inst (S.res++S.jy) y).take S.res.length),jh S.bf ((((IT.inst (S.res++S.jy) y).drop S.res.length).map lX).drop 1)):=by
      unfold aF.out;rw[xe]
     rw[hfl,hout]
     refine⟨?_,?_⟩
     ·show ai v=ai (lV _)
      rw[uo,ht,←uo,ajm h1 hl]
     ·exact(ae3 S.bf 0 B bs cs h2 (by simpa using hk) _ f2).symm
    ·cases h
   ·cases h
  ·split at h
   ·rename_i vs cs h1 h2
    split at h
    ·rename_i h3
     simp only[Bool.and_eq_true,beq_iff_eq]at h3
     obtain⟨hl,hall⟩:=h3
     obtain⟨ht,hd⟩:=ajo h (by rw[asa];exact hl)
     obtain⟨f1,f2⟩:=asb hd (.inr rfl)
     have hfl:S.flag y=false:=by unfold aF.flag;rw[xe];exact f1
     have hout:S.out y false=(lV (((IT.inst (S.res++S.jy) y).take S.res.length).map (om S.boxes.length)),jh (S.bf.take S.boxes.length) ((((IT.inst (S.res++S.jy) y).drop S.res.length).map lX).drop 1)):=by
      unfold aF.out;rw[xe]
     rw[hfl,hout]
     refine⟨?_,?_⟩
     ·show ai v=ai (lV _)
      rw[uo,ar9 S.boxes.length S.res vs _ hall ht,←uo,ajm h1 hl]
     ·obtain⟨l1,l2,e0,e1,e2⟩:=aaH f2
      show _=(fy B (jh _ _)).map aq
      rw[e0]
      exact(ajq (S.bf.take S.boxes.length) 0 B bs cs h2 (by simpa using hk) l1 l2 e1).symm
    ·cases h
   ·cases h
end Go.Ve
namespace Go.Ve
open Go.Vs
theorem aBY (v:aj) (j:Nat):jJ (ai v) j=ai (qO v j):=by
 have bB:(ai v).cells.getD j .dead=cE (v.cells.getD j .dead):=by rw[zR];exact getD_map cE _ j .dead
 unfold jJ qO
 rw[bB]
 cases hc:v.cells.getD j .dead with
 |l m t xs=>
  cases m with
  |own=>simp only[cE,lC];rw[setCell_eq];rfl
  |_=>rfl
 |n m t o=>
  cases m with
  |own=>
   cases o with
   |none=>
    simp only[cE]
    rw[setCell_eq]
    symm
    have hlt:j<(ai v).cells.length:=by
     rw[zR,kN]
     by_cases h:j<v.cells.length
     ·exact h
     ·rw[List.getD_eq_getElem?_getD,List.getElem?_eq_none (by omega)]at hc;cases hc
    have:=apK (ai v) j hlt
    rw[bB,hc]at this
    exact this
   |some xs=>simp only[cE,lC];rw[setCell_eq];rfl
  |_=>cases o<;>rfl
 |it m t xs sn=>
  cases m with
  |own=>simp only[cE,mC];rw[setCell_eq];rfl
  |_=>rfl
 |gone b=>cases b<;>rfl
 |_=>rfl
theorem asc:∀(l:List (Nat×Nat)) (A:List aj),gU l (A.map ai)=(fF l A).map ai
 | [],A=>rfl
 |(i,j) :: r,A=>by
  simp only[gU,fF]
  rw[←asc r,oa,List.map_set]
  congr 2
  have:(A.map ai).getD i .undef=ai (A.getD i .undef):=getD_map ai A i .undef
  rw[this]
  exact aBY _ j
theorem It.ae4 {i:It} (h:i.ok=true) (x:i.T):∀c∈(i.inst x).cells,nrm c=c:=by
 have shn:∀{h:Sh} (x:h.T),h.plain=true→nrm (h.inst x)=h.inst x:=by
  intro h x hp
  cases h with
  |l m t=>cases m<;>first|rfl|cases hp
  |n m t=>cases m<;>first|rfl|cases hp
  |_=>rfl
 have aBZ:∀(t:Ty) (x:t.T),∀c∈dh t x,nrm c=c:=by
  intro t
  induction t with
  |pair h t ih1 ih2=>
   intro x c hc
   simp only[dh,List.mem_append]at hc
   rcases hc with hc|hc
   ·exact ih1 _ c hc
   ·exact ih2 _ c hc
  |aU u h t ih1 ih2=>
   intro x c hc
   simp only[dh,List.mem_append]at hc
   rcases hc with hc|hc
   ·exact ih1 _ c hc
   ·exact ih2 _ c hc
  |set k ih=>exact ih
  |_=>intro x c hc;simp only[dh,List.mem_singleton]at hc;subst hc;rfl
 have hts:∀(l:List Sh) (x:HT l),l.all Sh.plain=true→∀c∈HT.inst l x,nrm c=c:=by
  intro l
  induction l with
  |nil=>intro x _ c hc;cases hc
  |cons h r ih=>
   intro x hp c hc
   rw[List.all_cons,Bool.and_eq_true]at hp
   cases r with
   |nil=>simp only[HT.inst,List.mem_singleton]at hc;subst hc;exact shn _ hp.1
   |cons h' r=>
    simp only[HT.inst,List.mem_cons]at hc
    rcases hc with rfl|hc
    ·exact shn _ hp.1
    ·exact ih _ hp.2 c hc
 cases i with
 |one h=>intro c hc;simp only[It.inst,aj.cells,List.mem_singleton]at hc;subst hc;exact shn x (by simp only[It.ok,Bool.and_eq_true]at h;exact h.1)
 |row t=>exact aBZ t x
 |cells l=>exact hts l x h
 |_=>intro c hc;simp only[It.inst,aj.cells,List.mem_singleton]at hc;subst hc;rfl
theorem IT.ae4:∀(l:List It) (x:IT l),l.all It.ok=true→∀v∈IT.inst l x,∀c∈v.cells,nrm c=c
 | [],_,_=>fun v hv=>by cases hv
 |i :: r,x,h=>by
  rw[List.all_cons,Bool.and_eq_true]at h
  intro v hv
  simp only[IT.inst,List.mem_cons]at hv
  rcases hv with rfl|hv
  ·exact It.ae4 h.1 _
  ·exact IT.ae4 r _ h.2 v hv
theorem asd {k:Key}:∀{l r:List Key},k∈l→idx k (l++r)=idx k l
 |q :: l,r,h=>by
  show(if k=q then 0 else idx k (l++r)+1)=if k=q then 0 else idx k l+1
  by_cases e:k=q
  ·rw[if_pos e,if_pos e]
  ·rw[if_neg e,if_neg e,asd (by rcases List.mem_cons.1 h with h|h;exact absurd h e;exact h)]
theorem aB0 {i n:Nat} {r:List Key} (h:i<n):idx (.inb i) (fP n++r)=i:=by
 have hm:Key.inb i∈fP n:=List.mem_map.2 ⟨i,List.mem_range.2 h,rfl⟩
 rw[asd hm]
 exact nN (api n) (ahr h)
theorem aB1 {S:aF} (hok:S.ok=true) (x:S.X):∀b∈S.dR x,∀c∈b,nrm c=c:=by
 intro b hb c hc
 obtain⟨v,hv,rfl⟩:=List.mem_map.1 hb
 simp only[aF.ok,Bool.and_eq_true]at hok
 refine IT.ae4 _ x (by rw[List.all_append,hok.1.1,hok.1.2];rfl) v (List.mem_of_mem_drop hv) c ?_
 cases v<;>first|exact hc|(simp[aeX]at hc)
theorem aB2 (A:List aj) (B:List (List E)) (m:Nat):(bg A (ug A B)).get (.box (.inb m))={ v:=match B[m]? with|some b=>.agg b|none=>.undef }:=by
 rw[gZ]
 have:∀(B:List (List E)) (i m:Nat),bw (.inb m) (rK i B)=if i≤m then B[m - i]? else none:=by
  intro B
  induction B with
  |nil=>intro i m;simp[rK,bw]
  |cons b B ih=>
   intro i m
   simp only[rK,bw,de]
   by_cases h:m=i
   ·subst h;simp
   ·rw[show(m==i)=false by simpa using h,ih]
    by_cases h2:i≤m
    ·rw[if_pos (by omega),if_pos h2,show m - i=(m - (i+1))+1 by omega];simp
    ·rw[if_neg (by omega),if_neg h2]
 show({ v:=match bw (.inb m) (rK 0 B)with|some cs=>.agg cs|none=>.undef }:cx)=_
 rw[this B 0 m]
 simp
def aaI (fn:Func):Code:=match fn.body with|some c=>c|none=>.skip
theorem aB3 {P:Program} {f:FuncId} {fn:Func} {c:Code} {F:aZ} {tbl:Nat→Option aX} {S:aF} {sh:S.X→Option S.Y} (hf:P.funcs[f]? =some fn) (hb:fn.body=some c) (jQ:P.follows .mixedOrders=true) (hC:iF P F.cfg.c)
  (hN:fn.ntmps=F.cfg.N) (hok:S.ok=true) (hargs:S.args.length≤F.cfg.N) (hbk:∀x,jV (S.eo x) (fP S.boxes.length) F.aQ=true) (hrun:∀x y,sh x=some y→(evF F tbl c fn.results.toList S x).run=some y):bh P f (S.F sh):=by
 intro args boxes r hF w vals β ω Z hsz ase iD hent
 unfold aF.F at hF
 split at hF
 ·rename_i x hx
  split at hF
  ·rename_i y hy
   cases hF
   obtain⟨rfl,rfl⟩:=aF.hO S hok hx
   have hrun:=hrun x y hy
   refine calls_of_wp hf hb ?_
   have aB4:((S.eo x).map ai).length=S.args.length:=by rw[List.length_map,aF.ae0]
   have asf:((S.dR x).map aq).length=S.boxes.length:=by rw[List.length_map,aF.aaD]
   have hstart:=apt (N:=fn.ntmps) hent hsz ase iD (by rw[hN,aB4];exact hargs)
   have zo:=ahw hent
   have asg:fG (cR P fn.ntmps w vals β ω Z) (S.eo x) (fP S.boxes.length):=by
    refine⟨by show vals.size=_;rw[hsz,List.length_map],fun k b hk=>?_⟩
    obtain⟨i,hi,rfl⟩:=zo k b hk
    rw[asf]at hi
    exact List.mem_map.2 ⟨i,List.mem_range.2 hi,rfl⟩
   have hall:=(Tr.pG _ (fun z=>z=y)).2 ⟨y,hrun,rfl⟩
   unfold evF at hall
   rw[all_bind]at hall
   have agQ:=Tr.n9 hall (Tr.ri (aBA (F:=F) (tbl:=tbl) asg c 0 (ug (S.eo x) (S.dR x))))
   have wV:ck (cR P fn.ntmps w vals β ω Z) (cu (S.eo x) (ug (S.eo x) (S.dR x))) { tmps:=vals++Array.replicate (fn.ntmps - vals.size) undef,defers:=[] } w:=by
    rw[aBF]
    exact⟨⟨β,ω,Z,hstart⟩,by show((S.eo x).map ai).length=vals.size;omega⟩
   refine wp_mono (aBB (K:=cR P fn.ntmps w vals β ω Z) (tbl:=tbl) hC hN jQ asg (hbk x) c 0 _ _ _ w agQ wV) ?_
   rintro e a w' ⟨⟨ex,p'⟩,rfl,⟨ash,hkeep⟩,hpr⟩
   have hex:ex= .normal∨ex= .ret:=by
    cases ex with
    |exit i=>exact ash.elim
    |normal=>exact .inl rfl
    |ret=>exact .inr rfl
   have asi:(((uj F.cfg.c fn.results.toList (S.dR x).length).both (bg (S.eo x) p')).bind fun y=>
     match decide (y.2.1.aB=S.aB)with
     |true=>match S.ae2 y.2.1.bC (S.dR x) y.1.1 y.1.2 with
      |some z=>Tr.leaf z
      |none=>.fail
     |false=>.fail).all (fun z=>z=y):=by
    rcases hex with rfl|rfl<;>exact ash
   rw[all_bind]at asi
   have h1:=Tr.n9 (Tr.n9 (Tr.n9 asi (aBL F.cfg.c fn.results.toList (S.dR x).length (bg (S.eo x) p'))) (Tr.ri (aBN F.cfg.c fn.results.toList (S.dR x).length (bg (S.eo x) p')))) (Tr.ri (aq5 (uj F.cfg.c fn.results.toList (S.dR x).length) (bg (S.eo x) p') (mX _ p')))
   obtain⟨⟨⟨v,bs⟩,s',fr,fw⟩,_,⟨⟨h2,h3⟩,h4⟩,h5⟩:=(Tr.pG _ _).1 h1
   simp only at h2 h3 h4 h5
   split at h2
   ·rename_i hfz
    have hfz:s'.aB=S.aB:=of_decide_eq_true hfz
    split at h2
    ·rename_i z hz
     have e:z=y:=h2
     subst e
     obtain⟨ks,hholds⟩:=h4
     obtain⟨_,aB6,l,hl,hk5⟩:=h5
     obtain⟨⟨l0,hl0⟩,vQ⟩:=hkeep
     have aB8:cV s'.bC (bg (S.eo x) (ug (S.eo x) (S.dR x))) s':=by
      refine cV.trans ?_ hk5
      rw[hl]
      exact vQ.more
     have aeF:=aBX hz (fun m b c hb hc hw j u v hp hu hv huv=>by
      have hm:m<S.boxes.length:=by
       have:=(List.getElem?_eq_some_iff.1 hb).1
       rwa [aF.aaD]at this
      have ajs:∃o,(s'.get (.box (.inb m))).v= .agg o∧o.all (iK (fP (S.dR x).length++ks))=true∧c=o.map (eL (fP (S.dR x).length++ks)):=by
       have gen:∀(kk ks:List Key) (bs:List (List E)) (i:Nat) (k:Key) (c:List E),Holds kk s' ks bs→ks[i]? =some k→bs[i]? =some c→∃o,(s'.get (.box k)).v= .agg o∧o.all (iK kk)=true∧c=o.map (eL kk):=by
        intro kk ks
        induction ks with
        |nil=>intro bs i k c _ h;simp at h
        |cons q ks ih=>
         intro bs i k c hh hk hc
         cases bs with
         |nil=>exact hh.elim
         |cons b bs=>
          cases i with
          |zero=>simp only[List.getElem?_cons_zero,Option.some.injEq]at hk hc;subst hk hc;exact hh.1
          |succ i=>exact ih bs i k c hh.2 (by simpa using hk) (by simpa using hc)
       refine gen _ _ bs m _ c hholds ?_ hc
       rw[aF.aaD,List.getElem?_append_left (by simpa[fP]using hm)]
       simp[fP,List.getElem?_range hm]
      obtain⟨orig,ajs,aIe,rfl⟩:=ajs
      have lM:=aB8.2 (.inb m) hw
      rw[aB2,hb,ajs]at lM
      rcases lM with lM|⟨cs,cs',g1,g2,g3,g4⟩
      ·cases lM
      ·cases g1
       cases g2
       rw[List.getElem?_map]at hv
       cases hvo:orig[j]? with
       |none=>rw[hvo]at hv;cases hv
       |some v0=>
        rw[hvo]at hv
        simp only[Option.map_some,Option.some.injEq]at hv
        obtain⟨u',q1,q2⟩:=g4 j hp v0 hvo
        rw[hu]at q1
        cases q1
        have hn:=aB1 hok x b (List.mem_of_getElem? hb) u (List.mem_of_getElem? hu)
        have iy:usable v0=true:=by
         cases v0 with
         |ptr k off=>rfl
         |_=>rw[←hv]at huv;exact huv
        have e:=aiE q2 iy
        rw[hn]at e
        subst e
        rw[←hv]
        cases v0 with
        |ptr k off=>
         obtain⟨i,rfl,hi⟩:=aBQ hok x b (List.mem_of_getElem? hb) _ (List.mem_of_getElem? hu) k off rfl
         show E.ptr (.inb (idx (.inb i) (fP (S.dR x).length++ks))) off=_
         rw[aB0 (by rw[aF.aaD];exact hi)]
        |_=>rfl)
     obtain⟨hv,kE⟩:=aeF
     obtain⟨β1,ct,Z1,hr⟩:=hpr.1
     have cQ:(mO F.cfg.c fn.results.toList S.boxes.length).exec (cu (S.eo x) p').st=some ((ai v,bs.map aq),cl s'):=by
      obtain⟨fr,fw,h3,_,_⟩:=h3
      have h3:(mO F.cfg.c fn.results.toList (S.dR x).length).both (cl (bg (S.eo x) p'))=some ((ai v,bs.map aq),cl s',fr,fw):=h3
      rw[aan,ahi,aF.aaD]at h3
      cases hx:(mO F.cfg.c fn.results.toList S.boxes.length).exec (cu (S.eo x) p').st with
      |none=>rw[hx]at h3;cases h3
      |some q=>rw[hx]at h3;simp only[Option.map_some,Option.some.injEq,Prod.mk.injEq]at h3;obtain⟨e1,e2,_⟩:=h3;cases q;simp only at e1 e2;rw[e1,e2]
     rw[hv,kE]at cQ
     have aB9:∀k b,β k=some b→∃i,i<S.boxes.length∧k= .inb i:=by
      intro k b hk
      obtain⟨i,hi,h⟩:=zo k b hk
      exact⟨i,by rw[←asf];exact hi,h⟩
     obtain⟨u,β',ω',Z',g1,g2⟩:=apk (r:={ v:=ai (S.out z (S.flag z)).1,boxes:=(fy (S.dR x) (S.out z (S.flag z)).2).map aq,aB:=S.aB }) hC.tv hr hsz ase hent.args aB9 cQ (fun i hi=>by
      show(bJ (s'.get (.arg i))).v=(gU S.aB ((S.eo x).map ai)).getD i .undef
      rw[asc,←hfz]
      have:((fF s'.aB (S.eo x)).map ai).getD i .undef=ai ((fF s'.aB (S.eo x)).getD i .undef):=getD_map ai _ i .undef
      rw[this]
      show ai ((fF s'.aB s'.args).getD i .undef)=_
      rw[aB6]
      rfl)
     have hbp:bodyPost P fn (fun e w'=>∃v β' ω' Z',e= .returned v∧Rel (cR P 1 w vals β ω Z) β' ω' Z' (dJ ((S.eo x).map ai) { v:=ai (S.out z (S.flag z)).1,boxes:=(fy (S.dR x) (S.out z (S.flag z)).2).map aq,aB:=S.aB }) { tmps:= #[v],defers:=[] } w') .ret a w':=
      ⟨hr.defers.1,u,g1,u,β',ω',Z',rfl,g2⟩
     rcases hex with rfl|rfl
     ·exact hbp
     ·exact hbp
    ·exact h2.elim
   ·exact h2.elim
  ·cases hF
 ·cases hF
def aaJ (fn:Func):Bool:=match fn.body with|some _=>true|none=>false
noncomputable def bF (F:aZ) (tbl:Nat→Option aX) (fn:Func) (S:aF) (x:S.X):Option S.Y:=(evF F tbl (aaI fn) fn.results.toList S x).run
theorem bG {P:Program} {f:FuncId} {fn:Func} {F:aZ} {tbl:Nat→Option aX} {S:aF} {sh:S.X→Option S.Y} (hf:P.funcs[f]? =some fn) (hb:aaJ fn=true) (jQ:P.follows .mixedOrders=true) (hC:iF P F.cfg.c)
  (hN:fn.ntmps=F.cfg.N) (hok:S.ok=true) (hargs:S.args.length≤F.cfg.N) (hbk:∀x,jV (S.eo x) (fP S.boxes.length) F.aQ=true) (hrun:∀x,bF F tbl fn S x=sh x):bh P f (S.F sh):=by
 have hc:fn.body=some (aaI fn):=by
  unfold aaJ at hb
  unfold aaI
  cases h:fn.body with
  |none=>rw[h]at hb;cases hb
  |some c=>rfl
 exact aB3 hf hc jQ hC hN hok hargs hbk fun x y h=>(hrun x).trans h
theorem aCa {P:Program} {f:FuncId} {fn:Func} {S:aF} {sh:S.X→Option S.Y} (hf:P.funcs[f]? =some fn) (hname:(fn.name== "runtime.NumGoroutine")=false) (hb:aaJ fn=true) (h:bh P f (S.F sh)):fO P f (S.F sh):=by
 have hc:fn.body=some (aaI fn):=by
  unfold aaJ at hb
  unfold aaI
  cases h:fn.body with
  |none=>rw[h]at hb;cases hb
  |some c=>rfl
 exact adC hf hname hc h
def bA (f:FuncId):List (FuncId×aV)→Option aV
 | []=>none
 |(g,K) :: r=>match f==g with
  |true=>some K
  |false=>bA f r
theorem aju {f:FuncId}:∀{l:List (FuncId×aV)} {K:aV},bA f l=some K→(f,K)∈l
 |(g,K') :: r,K,h=>by
  simp only[bA]at h
  split at h
  ·rename_i e;cases h;have:f=g:=by simpa using e
   subst this;simp
  ·exact List.mem_cons_of_mem _ (aju h)
def bq (P:Program) (x:FuncId×aV):Prop:=fO P x.1 x.2.F
theorem bH {P:Program} {e:c8} {l:List (FuncId×aV)} (hT:eS P e.c) (zn:e.az=fun _ f=>bA f l) (h:∀x∈l,bq P x):iF P e.c:=by
 refine⟨hT,fun t f F hf=>?_⟩
 have hf:(match e.az t f with|some K=>some K.F|none=>none)=some F:=hf
 rw[zn]at hf
 simp only at hf
 split at hf
 ·rename_i K hK
  cases hf
  exact h _ (aju hK)
 ·cases hf
def lkS (t:Nat) (f:FuncId) (l:List (FuncId×aV)):List (Nat×FuncId×aV)→Option aV
 | []=>bA f l
 |(u,g,K) :: r=>match t==u&&f==g with
  |true=>some K
  |false=>lkS t f l r
theorem asl {t:Nat} {f:FuncId} {l:List (FuncId×aV)}:∀{s:List (Nat×FuncId×aV)} {K:aV},lkS t f l s=some K→(f,K)∈l∨(t,f,K)∈s
 | [],K,h=>.inl (aju h)
 |(u,g,K') :: r,K,h=>by
  simp only[lkS]at h
  split at h
  ·rename_i e
   simp only[Bool.and_eq_true,beq_iff_eq]at e
   cases h
   obtain⟨rfl,rfl⟩:=e
   exact .inr (List.mem_cons_self ..)
  ·rcases asl h with h|h
   ·exact .inl h
   ·exact .inr (List.mem_cons_of_mem _ h)
theorem aIf {P:Program} {e:c8} {l:List (FuncId×aV)} {s:List (Nat×FuncId×aV)} (hT:eS P e.c) (zn:e.az=fun t f=>lkS t f l s) (h:∀x∈l,bq P x) (hs:∀x∈s,bq P x.2):iF P e.c:=by
 refine⟨hT,fun t f F hf=>?_⟩
 have hf:(match e.az t f with|some K=>some K.F|none=>none)=some F:=hf
 rw[zn]at hf
 simp only at hf
 split at hf
 ·rename_i K hK
  cases hf
  rcases asl hK with h'|h'
  ·exact h _ h'
  ·exact hs _ h'
 ·cases hf
theorem bI {P:Program} {f:FuncId} {fn:Func} {S:aF} {hok:S.ok=true} {sh:S.X→Option S.Y} (hf:P.funcs[f]? =some fn) (hname:(fn.name== "runtime.NumGoroutine")=false) (hb:aaJ fn=true) (h:bh P f (S.F sh)):bq P (f,S.az hok sh):=aCa hf hname hb h
def ae6 (f:TypeId→Option Ty):List (Nat×TypeId)→Option Ty
 | []=>none
 |(_,t) :: r=>match r with
  | []=>f t
  |x :: r=>match f t,ae6 f (x :: r)with
   |some a,some b=>some (.pair a b)
   |_,_=>none
def aaK (cfg:aP):Nat→TypeId→Option Ty
 |0,_=>none
 |n+1,t=>match cfg.ti t with
  |some { kind:=.bool, .. }=>some .bool
  |some { kind:=.int k, .. }=>some (.int k)
  |some { kind:=.str, .. }=>some .str
  |some { kind:=.slice e, .. }=>match cfg.ti e,aaK cfg n e with
   |some i,some r=>if i.size=r.e then some (.sl r)else none
   |_,_=>none
  |some { kind:=.struct fs, .. }=>ae6 (aaK cfg n) fs
  |_=>none
def Wf:(t:Ty)→t.T→Prop
 | .int k,x=>k.min≤x∧x≤k.max
 | .bool,_=>True
 | .str,_=>True
 | .sl r,o=>match o with
   |none=>True
   |some xs=>∀x∈xs,Wf r x
 | .pair h t,x=>Wf h x.1∧Wf t x.2
 | .aU _ h t,x=>Wf h x.1∧Wf t x.2
 | .set k,x=>Wf k x
def gR:(t:Ty)→t.T→Nat
 | .int _,_=>1
 | .bool,_=>1
 | .str,s=>s.length+1
 | .sl r,o=>match o with
   |none=>1
   |some xs=>(xs.map (gR r)).sum+1
 | .pair h t,x=>gR h x.1+gR t x.2
 | .aU _ h t,x=>gR h x.1+gR t x.2
 | .set k,x=>gR k x
theorem pM:∀(t:Ty) (x:t.T),fu (aA t x)=gR t x
 | .int _,_=>rfl
 | .bool,_=>rfl
 | .str,s=>by simp[aA,fu,qN,gR]
 | .sl r,o=>by
   cases o with
   |none=>rfl
   |some xs=>
    simp only[aA,fu,qN,gR,Nat.add_zero]
    congr 1
    induction xs with
    |nil=>rfl
    |cons x xs ih=>simp only[List.map_cons,lQ,List.sum_cons,pM r x,ih]
 | .pair h t,x=>by simp only[aA,adE,pM h x.1,pM t x.2,gR]
 | .aU _ h t,x=>by simp only[aA,adE,pM h x.1,pM t x.2,gR]
 | .set k,x=>by simp only[aA,pM k x,gR]
theorem asm {W:TypeId→List D→Prop} {f:TypeId→Option Ty} (h:∀t ds ty,W t ds→f t=some ty→∃x:ty.T,ds=aA ty x∧Wf ty x):∀(fs:List (Nat×TypeId)) (ds:List D) (ty:Ty),adD W fs ds→ae6 f fs=some ty→∃x:ty.T,ds=aA ty x∧Wf ty x
 | [],ds,ty,_,e=>by cases e
 |(o,t) :: r,ds,ty,hw,e=>by
  obtain⟨a,b,rfl,h1,h2⟩:=hw
  cases r with
  |nil=>
   have h2:b=[]:=h2
   subst h2
   rw[List.append_nil]
   exact h t a ty h1 e
  |cons y r=>
   simp only[ae6]at e
   split at e
   ·rename_i ta tb e1 e2
    cases e
    obtain⟨x,rfl,w1⟩:=h t a ta h1 e1
    obtain⟨z,rfl,w2⟩:=asm h (y :: r) b tb h2 e2
    exact⟨(x,z),rfl,w1,w2⟩
   ·cases e
theorem aaL {cfg:aP}:∀(n:Nat) (t:TypeId) (ds:List D) (ty:Ty),kH cfg n t ds→aaK cfg n t=some ty→∃x:ty.T,ds=aA ty x∧Wf ty x:=by
 intro n
 induction n with
 |zero=>intro t ds ty h;exact h.elim
 |succ n ih=>
  intro t ds ty h e
  simp only[kH]at h
  simp only[aaK]at e
  split at e
  ·rename_i bN;rw[bN]at h;cases e;obtain⟨b,rfl⟩:=h;exact⟨b,rfl,trivial⟩
  ·rename_i bN;rw[bN]at h;cases e;obtain⟨x,rfl,h2⟩:=h;exact⟨x,rfl,h2⟩
  ·rename_i bN;rw[bN]at h;cases e;obtain⟨x,rfl,_⟩:=h;exact⟨x,rfl,trivial⟩
  ·rename_i et _ bN
   rw[bN]at h
   simp only at h
   split at e
   ·rename_i i r hi hr
    rw[hi]at h
    simp only at h
    split at e
    ·rename_i hw
     cases e
     rcases h with rfl|⟨xs,rfl,hlen,hx⟩
     ·exact⟨none,rfl,trivial⟩
     ·have:∃ys:List r.T,xs=ys.map (aA r)∧∀y∈ys,Wf r y:=by
        clear hlen
        induction xs with
        |nil=>exact⟨[],rfl,by simp⟩
        |cons x xs nR=>
         obtain⟨y,e1,w1⟩:=ih et x r (hx x (List.mem_cons_self ..)) hr
         obtain⟨ys,e2,w2⟩:=nR fun z hz=>hx z (List.mem_cons_of_mem _ hz)
         exact⟨y :: ys,by rw[e1,e2];rfl,by
          intro z hz
          simp only[List.mem_cons]at hz
          rcases hz with rfl|hz
          ·exact w1
          ·exact w2 z hz⟩
      obtain⟨ys,rfl,hw2⟩:=this
      exact⟨some ys,by rw[hw];rfl,hw2⟩
    ·cases e
   ·cases e
  ·rename_i fs _ bN
   rw[bN]at h
   exact asm (fun t ds ty=>ih t ds ty) fs ds ty h e
  ·cases e
def aaM (cfg:aP) (n:Nat) (t:TypeId):Option It:=
 match cfg.ti t with
 |some i=>match i.kind.agg,aaK cfg n t with
  |true,some ty=>some (.row ty)
  |false,some (.int k)=>some (.one (.i k))
  |false,some .bool=>some (.one .b)
  |false,some .str=>some (.one .s)
  |false,some (.sl r)=>some (.one (.n .data r))
  |_,_=>none
 |none=>none
def ae7 (cfg:aP) (n:Nat):List TypeId→Option (List It)
 | []=>some []
 |t :: r=>match aaM cfg n t,ae7 cfg n r with
  |some i,some l=>some (i :: l)
  |_,_=>none
def WfS:(h:Sh)→h.T→Prop
 | .i k,x=>k.min≤x∧x≤k.max
 | .b,_=>True
 | .s,_=>True
 | .l _ t,xs=>∀x∈xs,Wf t x
 | .n _ t,o=>Wf (.sl t) o
 | .p _ _,_=>True
 | .dd,_=>True
 | .u _,_=>True
def aCc:(h:Sh)→h.T→Nat
 | .i _,_=>1
 | .b,_=>1
 | .s,x=>x.length+1
 | .l _ t,xs=>(xs.map (gR t)).sum+1
 | .n _ t,o=>gR (.sl t) o
 | .p _ _,_=>0
 | .dd,_=>0
 | .u _,_=>0
def WfI:(i:It)→i.T→Prop
 | .one h,x=>WfS h x
 | .row t,x=>Wf t x
 |_,_=>True
def ajv:(i:It)→i.T→Nat
 | .one h,x=>aCc h x
 | .row t,x=>gR t x
 |_,_=>0
def ae8:(l:List It)→IT l→Prop
 | [],_=>True
 |i :: r,x=>WfI i (IT.hd i r x)∧ae8 r (IT.tl IT.dflt i r x)
def ur:(l:List It)→IT l→Nat
 | [],_=>0
 |i :: r,x=>ajv i (IT.hd i r x)+ur r (IT.tl IT.dflt i r x)
theorem aCd {cfg:aP} {n:Nat} {t:TypeId} {ds:List D} {i:It} (h:kH cfg n t ds) (e:aaM cfg n t=some i):∃x:i.T,nS cfg t ds=ai (i.inst x)∧WfI i x∧ajv i x=fu ds:=by
 unfold aaM at e
 unfold nS
 split at e
 ·rename_i ti bN
  rw[bN]
  simp only
  split at e
  ·rename_i ty ha hty
   cases e
   obtain⟨x,rfl,hw⟩:=aaL n t ds ty h hty
   rw[if_pos ha]
   refine⟨x,?_,hw,(pM ty x).symm⟩
   show _=SV.agg (aq (dh ty x))
   rw[gQ]
  ·rename_i k ha hty
   cases e
   obtain⟨x,rfl,hw⟩:=aaL n t ds _ h hty
   rw[if_neg (by simp[ha])]
   exact⟨x,rfl,hw,rfl⟩
  ·rename_i ha hty
   cases e
   obtain⟨x,rfl,hw⟩:=aaL n t ds _ h hty
   rw[if_neg (by simp[ha])]
   exact⟨x,rfl,hw,rfl⟩
  ·rename_i ha hty
   cases e
   obtain⟨x,rfl,hw⟩:=aaL n t ds _ h hty
   rw[if_neg (by simp[ha])]
   exact⟨x,rfl,hw,(pM .str x).symm⟩
  ·rename_i r ha hty
   cases e
   obtain⟨x,rfl,hw⟩:=aaL n t ds _ h hty
   rw[if_neg (by simp[ha])]
   refine⟨x,?_,hw,(pM (.sl r) x).symm⟩
   cases x<;>rfl
  ·cases e
 ·cases e
theorem aIg {cfg:aP} {n:Nat} {t:TypeId} {i:It} (e:aaM cfg n t=some i):i.has=true:=by
 unfold aaM at e
 split at e
 ·split at e<;>first|(cases e;rfl)|(cases e;done)
 ·cases e
theorem aso {cfg:aP} {n:Nat}:∀(ts:List TypeId) (dn:List (List D)) (l:List It),dn.length=ts.length→Vs.au (fun t x=>kH cfg n t x) ts dn→ae7 cfg n ts=some l→∃x:IT l,gE cfg ts dn=(IT.inst l x).map ai∧ae8 l x∧ur l x=lQ dn
 | [],[],l,_,_,e=>by cases e;exact⟨(),rfl,trivial,rfl⟩
 |t :: ts,ds :: dn,l,hl,hw,e=>by
  simp only[ae7]at e
  split at e
  ·rename_i i r h1 h2
   cases e
   obtain⟨x,e1,w1,b1⟩:=aCd hw.1 h1
   obtain⟨y,e2,w2,b2⟩:=aso ts dn r (by simpa using hl) hw.2 h2
   refine⟨IT.cons i r x y,?_,?_,?_⟩
   ·simp only[gE,IT.inst,List.map_cons,IT.aaz,IT.aaA,e1,e2]
   ·simp only[ae8,IT.aaz,IT.aaA];exact⟨w1,w2⟩
   ·simp only[ur,IT.aaz,IT.aaA,lQ,b1,b2]
  ·cases e
 | [],_ :: _,_,h,_,_=>by simp at h
 |_ :: _,[],_,h,_,_=>by simp at h
open Go.ChangeShapes in
theorem aCe {H:Type} {enc:TypeId×Value→H} {P:Program} {W:World} {cfg:aP} {base:Nat} {args:Array Value} {ds gs:List (DataW H)} {before:List MemPlace} {f:FuncId} {fn:Func} {sp:ChangeSpec} {n m:Nat} {ts:List TypeId} {tb:TypeId} {l:List It}
  {sh:IT (l++[])→Option Bool} (hok:aF.ok { args:=l,res:=[.one .b] }=true) (hF:bh P f (aF.F { args:=l,res:=[.one .b] } sh)) (hT:eS P cfg) (hvars:sp.vars=[]) (zp:fn.params.toList=ts) (hrt:fn.resultTypes= #[tb]) (ahA:P.underlying tb=some .bool)
  (aCf:ae7 cfg n ts=some l)
  (ahB:∀t∈ts,lP cfg n t=true) (hlaid:laidOutB P=true) (hread:∀t∈ts,P.readableRec t=true∧t<P.types.size) (B:pe H) (hm:B.all ds≤m)
  (aCg:∀x:IT l,ae8 l x→ur l x≤m→∃y:IT (l++[]),IT.inst (l++[]) y=IT.inst l x∧sh y=some true)
  (hfn:∀ds:List (DataW H),ds.length=ts.length→sp.fn H (ds++[])={ results:=[.lit (.bool true)],args:=ds })
  (htab:∀g l,(g,l)∈oM P→g<W.heap.size∧mq W g l)
  (hval:∀(j:Nat) t v,fn.params[j]? =some t→args[j]? =some v→Value.okWide P W .any base t v)
  (hW:DataW.Whole enc P fn.params.toList sp.vars false W args.toList ds gs before):
  Calls P f args W fun e W'=>∃v,e= .returned v∧sp.post enc P fn false true false false W args v W':=by
 refine azc hF hT hvars zp hrt ahA ahB hlaid hread B (fun dn h1 h2 h3=>?_) hfn htab hval hW
 obtain⟨x,e1,w1,b1⟩:=aso ts dn l h1 h2 aCf
 obtain⟨y,hy,hs⟩:=aCg x w1 (by omega)
 have hd:=aF.jX { args:=l,res:=[.one .b] } hok y
 have hA:(aF.eo { args:=l,res:=[.one .b] } y)=IT.inst l x:=by
  show(IT.inst (l++[]) y).take l.length=_
  rw[hy,List.take_of_length_le (by rw[IT.aaC];exact Nat.le_refl _)]
 have hB:(aF.dR { args:=l,res:=[.one .b] } y)=[]:=by
  show((IT.inst (l++[]) y).drop l.length).map aeX=_
  rw[hy,List.drop_of_length_le (by rw[IT.aaC];exact Nat.le_refl _)]
  rfl
 rw[hA,hB]at hd
 rw[e1]
 unfold aF.F
 rw[show([]:List (List C))=([]:List (List E)).map aq from rfl,hd]
 simp only[hs,hB]
 rfl
end Go.Ve
namespace Go.Ve
open Go.Vs
@[simp] theorem bU {ρ α:Type} (x:ρ) (k:ρ→Option α):aI (some x) k=k x:=rfl
@[simp] theorem aIh {ρ α:Type} (k:ρ→Option α):aI none k=none:=rfl
@[simp] theorem bY {ρ σ α:Type} (x:ρ) (k:ρ→Option α) (k':σ→Option α):gL (.inl x) k k'=k x:=rfl
@[simp] theorem bZ {ρ σ α:Type} (x:σ) (k:ρ→Option α) (k':σ→Option α):gL (.inr x) k k'=k' x:=rfl
theorem aIi {ρ:Type} (o:Option ρ):(aI o fun x=>some x)=o:=by cases o<;>rfl
theorem wrap_i64 {n:Int} (h0: -9223372036854775808≤n) (h1:n≤9223372036854775807):IntKind.i64.wrap n=n:=by
 simp only[IntKind.wrap,IntKind.bits,IntKind.signed]
 simp
 omega
theorem aIj {i n:Nat} (h:i<n) (hn2:n≤4611686018427387904):IntKind.i64.wrap ((i:Int)+1)=((i+1:Nat):Int):=by
 rw[wrap_i64 (by omega) (by omega)];omega
@[simp] theorem xg {α:Type} (l:List α):ag l=(l.length:Int):=rfl
theorem asp {σ ρ:Type} {f:σ→Option (σ ⊕ ρ)} (I:σ→Prop) (m:σ→Nat) (Q:ρ→Prop)
  (step:∀x,I x→match f x with|some (.inl y)=>I y∧m y<m x|some (.inr r)=>Q r|none=>False):∀(n:Nat) (x:σ),I x→m x<n→∃r,eU f n x=some r∧Q r
 |0,_,_,h=>absurd h (Nat.not_lt_zero _)
 |n+1,x,hI,h=>by
  have hs:=step x hI
  unfold eU
  split<;>rename_i e
  ·rename_i y
   rw[e]at hs
   exact asp I m Q step n y hs.1 (by omega)
  ·rename_i r
   rw[e]at hs
   exact⟨r,rfl,hs⟩
  ·rw[e]at hs
   exact hs.elim
theorem aCh {σ ρ:Type} {f:σ→Option (σ ⊕ ρ)} (I:σ→Prop) (m:σ→Nat) (Q:ρ→Prop)
  (step:∀x,I x→match f x with|some (.inl y)=>I y∧m y<m x|some (.inr r)=>Q r|none=>False) (x:σ) (hI:I x) (hm:m x<fuel):∃r,bO f x=some r∧Q r:=
 asp I m Q step fuel x hI hm
def uu {α β ρ:Type} (g:β→α→Option (β ⊕ ρ)) (fin:β→Option ρ):List α→β→Option ρ
 | [],b=>fin b
 |a :: r,b=>match g b a with
  |some (.inl b')=>uu g fin r b'
  |some (.inr x)=>some x
  |none=>none
theorem asq {σ ρ α β:Type} {f:σ→Option (σ ⊕ ρ)} {g:β→α→Option (β ⊕ ρ)} {fin:β→Option ρ} (mk:β→Nat→σ) (xs:List α)
  (step:∀b i (h:i<xs.length),f (mk b i)=match g b xs[i]with|some (.inl b')=>some (.inl (mk b' (i+1)))|some (.inr r)=>some (.inr r)|none=>none)
  (stop:∀b,f (mk b xs.length)=match fin b with|some r=>some (.inr r)|none=>none):
  ∀(k i:Nat) (b:β),i+k=xs.length→∀n,k<n→eU f n (mk b i)=uu g fin (xs.drop i) b
 |0,i,b,hk,n,hn=>by
  obtain⟨n,rfl⟩:∃m,n=m+1:=⟨n - 1,by omega⟩
  have hi:i=xs.length:=by omega
  subst hi
  rw[List.drop_length]
  unfold eU
  rw[stop b]
  unfold uu
  cases fin b<;>rfl
 |k+1,i,b,hk,n,hn=>by
  obtain⟨n,rfl⟩:∃m,n=m+1:=⟨n - 1,by omega⟩
  have hi:i<xs.length:=by omega
  rw[List.drop_eq_getElem_cons hi]
  unfold eU
  rw[step b i hi]
  rw[uu]
  cases e:g b xs[i]with
  |none=>rfl
  |some u=>cases u with
   |inl b'=>exact asq mk xs step stop k (i+1) b' (by omega) n (by omega)
   |inr r=>rfl
theorem aIk {σ ρ α β:Type} {f:σ→Option (σ ⊕ ρ)} (g:β→α→Option (β ⊕ ρ)) (fin:β→Option ρ) (mk:β→Nat→σ) (xs:List α)
  (step:∀b i (h:i<xs.length),f (mk b i)=match g b xs[i]with|some (.inl b')=>some (.inl (mk b' (i+1)))|some (.inr r)=>some (.inr r)|none=>none)
  (stop:∀b,f (mk b xs.length)=match fin b with|some r=>some (.inr r)|none=>none) (hl:xs.length<fuel) (b:β):
  bO f (mk b 0)=uu g fin xs b:=by
 have:=asq mk xs step stop xs.length 0 b (by omega) fuel hl
 rw[List.drop_zero]at this
 exact this
theorem asr {σ τ ρ:Type} {f:σ→Option (σ ⊕ ρ)} {g:τ→Option (τ ⊕ ρ)} (R:σ→τ→Prop)
  (step:∀x y,R x y→match f x,g y with|some (.inl x'),some (.inl y')=>R x' y'|some (.inr r),some (.inr r')=>r=r'|none,none=>True|_,_=>False):
  ∀(n:Nat) (x:σ) (y:τ),R x y→eU f n x=eU g n y
 |0,_,_,_=>rfl
 |n+1,x,y,h=>by
  have hs:=step x y h
  unfold eU
  cases hf:f x with
  |none=>
   cases hg:g y with
   |none=>rfl
   |some z=>rw[hf,hg]at hs;exact hs.elim
  |some u=>
   cases hg:g y with
   |none=>rw[hf,hg]at hs;cases u<;>exact hs.elim
   |some z=>
    rw[hf,hg]at hs
    cases u with
    |inl u=>cases z with
     |inl z=>exact asr R step n u z hs
     |inr z=>exact hs.elim
    |inr u=>cases z with
     |inl z=>exact hs.elim
     |inr z=>exact congrArg some hs
theorem aIl {σ τ ρ:Type} {f:σ→Option (σ ⊕ ρ)} {g:τ→Option (τ ⊕ ρ)} (R:σ→τ→Prop)
  (step:∀x y,R x y→match f x,g y with|some (.inl x'),some (.inl y')=>R x' y'|some (.inr r),some (.inr r')=>r=r'|none,none=>True|_,_=>False) (x:σ) (y:τ) (h:R x y):bO f x=bO g y:=
 asr R step fuel x y h
theorem aIm {σ ρ:Type} {f:σ→Option (σ ⊕ ρ)} (mk:Nat→σ) (n:Nat) (P:Nat→Prop) (bad good:ρ)
  (yes:∀i,i<n→P i→f (mk i)=some (.inl (mk (i+1)))) (no:∀i,i<n→¬P i→f (mk i)=some (.inr bad)) (stop:f (mk n)=some (.inr good)) (hn:n<fuel):
  ((∀i,i<n→P i)→bO f (mk 0)=some good)∧((¬ ∀i,i<n→P i)→bO f (mk 0)=some bad):=by
 have key:∀(k i:Nat),i+k=n→∀m,k<m→((∀j,i≤j→j<n→P j)→eU f m (mk i)=some good)∧((¬ ∀j,i≤j→j<n→P j)→eU f m (mk i)=some bad):=by
  intro k
  induction k with
  |zero=>
   intro i hi m hm
   obtain⟨m,rfl⟩:∃q,m=q+1:=⟨m - 1,by omega⟩
   have:i=n:=by omega
   subst this
   refine⟨fun _=>by unfold eU;rw[stop],fun h=>absurd (fun j h1 h2=>by omega) h⟩
  |succ k ih=>
   intro i hi m hm
   obtain⟨m,rfl⟩:∃q,m=q+1:=⟨m - 1,by omega⟩
   by_cases hp:P i
   ·obtain⟨g1,g2⟩:=ih (i+1) (by omega) m (by omega)
    unfold eU
    rw[yes i (by omega) hp]
    refine⟨fun h=>g1 fun j h1 h2=>h j (by omega) h2,fun h=>g2 fun h'=>h fun j h1 h2=>?_⟩
    rcases Nat.lt_or_ge i j with hj|hj
    ·exact h' j hj h2
    ·have:j=i:=by omega
     subst this;exact hp
   ·unfold eU
    rw[no i (by omega) hp]
    exact⟨fun h=>absurd (h i (Nat.le_refl _) (by omega)) hp,fun _=>rfl⟩
 obtain⟨h1,h2⟩:=key n 0 (by omega) fuel hn
 exact⟨fun h=>h1 fun j _ hj=>h j hj,fun h=>h2 fun h'=>h fun j hj=>h' j (Nat.zero_le _) hj⟩
theorem aCi {α β ρ:Type} {g:β→α→Option (β ⊕ ρ)} {fin:β→Option ρ} (hg:∀b a,(g b a).isSome=true) (hf:∀b,(fin b).isSome=true):∀(l:List α) (b:β),∃r,uu g fin l b=some r
 | [],b=>Option.isSome_iff_exists.1 (hf b)
 |a :: l,b=>by
  obtain⟨x,e⟩:=Option.isSome_iff_exists.1 (hg b a)
  rw[uu,e]
  cases x with
  |inl b'=>exact aCi hg hf l b'
  |inr r=>exact⟨r,rfl⟩
theorem ass {α:Type} {xs:List α} {i:Int}:(decide (0≤i∧i<ag xs)&&aS i.toNat xs.length)=decide (0≤i∧i<ag xs):=by
 by_cases h:0≤i∧i<ag xs
 ·have:aS i.toNat xs.length=true:=(gY _ _).2 (by have:=xg xs;omega)
  rw[this,Bool.and_true]
 ·rw[decide_eq_false h];rfl
theorem aIn {α β:Type} {xs:List α} {k:Nat} (h:k<xs.length) {A B C:Option β}:
  (if decide ((k:Int)<ag xs)=true then(if decide (0≤(k:Int)∧(k:Int)<ag xs)=true then A else B)else C)=A:=by
 have h2:(k:Int)<ag xs:=by rw[xg];omega
 rw[if_pos (decide_eq_true h2),if_pos (decide_eq_true ⟨by omega,h2⟩)]
theorem aIo {α β:Type} {xs:List α} {k:Nat} (h:k<xs.length) {A C:Option β}:(if decide ((k:Int)<ag xs)=true then A else C)=A:=by
 have h2:(k:Int)<ag xs:=by rw[xg];omega
 rw[if_pos (decide_eq_true h2)]
theorem aIp {α β:Type} {xs:List α} {A C:Option β}:(if decide ((xs.length:Int)<ag xs)=true then A else C)=C:=by
 have h2:¬(xs.length:Int)<ag xs:=by rw[xg];omega
 rw[decide_eq_false h2];rfl
theorem getD_at {α:Type} {xs:List α} {k:Nat} {d:α} (h:k<xs.length):xs.getD ((k:Int)).toNat d=xs[k]:=by
 rw[Int.toNat_natCast,List.getD_eq_getElem?_getD,List.getElem?_eq_getElem h];rfl
def Ok {α:Type} (o:Option α) (Q:α→Prop):Prop:=∃x,o=some x∧Q x
namespace Ok
variable {α β:Type} {Q:α→Prop}
theorem ret {x:α} (h:Q x):Ok (some x) Q:=⟨x,rfl,h⟩
theorem mono {o:Option α} {R:α→Prop} (h:Ok o R) (hi:∀x,R x→Q x):Ok o Q:=by obtain⟨x,e,hx⟩:=h;exact⟨x,e,hi x hx⟩
theorem of_eq {o:Option α} {x:α} (e:o=some x) (h:Q x):Ok o Q:=⟨x,e,h⟩
theorem call {ρ:Type} {o:Option ρ} {k:ρ→Option α} {R:ρ→Prop} (h:Ok o R) (hk:∀x,R x→Ok (k x) Q):Ok (aI o k) Q:=by
 obtain⟨x,rfl,hx⟩:=h
 exact hk x hx
theorem ite {c:Prop} [Decidable c] {a b:Option α} (ht:c→Ok a Q) (he:¬c→Ok b Q):Ok (if c then a else b) Q:=by
 split
 ·exact ht ‹_›
 ·exact he ‹_›
theorem pos {c:Prop} [Decidable c] {a b:Option α} (h:c) (ht:Ok a Q):Ok (if c then a else b) Q:=by rw[if_pos h];exact ht
theorem neg {c:Prop} [Decidable c] {a b:Option α} (h:¬c) (he:Ok b Q):Ok (if c then a else b) Q:=by rw[if_neg h];exact he
theorem grd {c:Prop} [Decidable c] {a b:Option α} (h:c) (ht:Ok a Q):Ok (if decide c=true then a else b) Q:=by rw[if_pos (decide_eq_true h)];exact ht
theorem dec {c:Prop} [Decidable c] {a b:Option α} (ht:c→Ok a Q) (he:¬c→Ok b Q):Ok (if decide c=true then a else b) Q:=
 ite (fun h=>ht (of_decide_eq_true h)) (fun h=>he (fun hc=>h (decide_eq_true hc)))
theorem loop {σ ρ:Type} {f:σ→Option (σ ⊕ ρ)} {R:ρ→Prop} (I:σ→Prop) (m:σ→Nat) {x:σ} (hI:I x) (hm:m x<fuel)
  (step:∀x,I x→Ok (f x) (fun y=>match y with| .inl y=>I y∧m y<m x| .inr r=>R r)):Ok (bO f x) R:=by
 refine aCh I m R (fun x hx=>?_) x hI hm
 obtain⟨y,e,hy⟩:=step x hx
 rw[e]
 cases y<;>exact hy
theorem app {γ:Type} {o:Option (List γ)} {A B:Option α} {k:Prop} (hs:∀xs,o=some xs→Ok A Q) (hn:o=none→Ok B Q) [Decidable k] (hk:k↔o.isSome=true):Ok (if k then A else B) Q:=by
 cases o with
 |none=>rw[if_neg (by simp[hk])];exact hn rfl
 |some xs=>rw[if_pos (by simp[hk])];exact hs xs rfl
end Ok
end Go.Ve
namespace Go.Ve
open Go.Vs
theorem ast {H:Type} (B:pe H):∀(a b:List (DataW H)),B.all a≤B.all (a++b)
 | [],b=>by rw[B.nil];exact Nat.zero_le _
 |x :: a,b=>by rw[List.cons_append,B.cons,B.cons];exact Nat.add_le_add_left (ast B a b) _
theorem ae9:∀(t:Ty) (x:t.T),1≤gR t x
 | .int _,_=>Nat.le_refl _
 | .bool,_=>Nat.le_refl _
 | .str,s=>Nat.le_add_left _ _
 | .sl r,o=>by
   cases o with
   |none=>exact Nat.le_refl _
   |some xs=>exact Nat.le_add_left _ _
 | .pair h t,x=>Nat.le_trans (ae9 h x.1) (Nat.le_add_right _ _)
 | .aU _ h t,x=>Nat.le_trans (ae9 h x.1) (Nat.le_add_right _ _)
 | .set k,x=>ae9 k x
theorem asu {α:Type} {f:α→Nat} (h:∀x,1≤f x):∀l:List α,l.length≤(l.map f).sum
 | []=>Nat.le_refl _
 |a :: l=>by have:=asu h l;have:=h a;simp only[List.map_cons,List.sum_cons,List.length_cons];omega
theorem aCj {r:Ty} (o:Option (List r.T)):(o.getD []).length≤gR (.sl r) o:=by
 cases o with
 |none=>exact Nat.zero_le _
 |some xs=>exact Nat.le_trans (asu (ae9 r) xs) (Nat.le_add_right _ _)
theorem aIr (s:List UInt8):s.length≤gR .str s:=Nat.le_add_right _ _
theorem aIs {i:It} {r:List It} {x:IT (i :: r)} {m:Nat} (h:ur (i :: r) x≤m):ajv i (IT.hd i r x)≤m:=Nat.le_trans (Nat.le_add_right _ _) h
theorem aIt {i:It} {r:List It} {x:IT (i :: r)} {m:Nat} (h:ur (i :: r) x≤m):ur r (IT.tl IT.dflt i r x)≤m:=Nat.le_trans (Nat.le_add_left _ _) h
theorem aIu {r:Ty} {o:Option (List r.T)} {m:Nat} (h:gR (.sl r) o≤m):(o.getD []).length≤m:=Nat.le_trans (aCj o) h
end Go.Ve
namespace Go.Ve
open Go Go.ChangeShapes Go.WideShapes Go.RowKit Go.Vs
theorem asv {P:Program} {w:World}:∀{l:List (String×DataW Unit)} {ps:List MemPlace} {n:String} {d:DataW Unit},DataW.LaidVars P w l ps→(n,d)∈l→
  ∃g t cs fuel p,P.globalNamed n=some g∧(P.globals[g]?).map (·.type)=some t∧w.var? P n=some cs∧DataW.trod (fun _=>()) P w 0 (fun _=>true) false fuel t cs.toList=some (d,p)
 | [],_,_,_,_,h=>by cases h
 |(n0,d0) :: r,ps,n,d,h,hm=>by
  obtain⟨g,t,cs,fuel,p,q,e1,e2,e3,e4,hr,rfl⟩:=h
  rcases List.mem_cons.1 hm with e|hm
  ·cases e;exact⟨g,t,cs,fuel,p,e1,e2,e3,e4⟩
  ·exact asv hr hm
theorem aCk {P:Program} {W:World} {laid:List (String×DataW Unit)} {n:String} {k:IntKind} {zs:List Int} {g:Nat} {t e N:Nat} (h:laidMet P laid W) (hm:(n,DataW.agg (zs.map fun z=>.lit (.int k z)))∈laid)
  (hg:P.globalNamed n=some g) (ht:(P.globals[g]?).map (·.type)=some t) (hut:P.underlying t=some (.array N e)) (hue:P.underlying e=some (.int k)) (hce:P.cellsOf e=1) (hN:zs.length=N) (hct:P.cellsOf t=N):
  mq W g (zs.map fun z=>.int k z):=by
 obtain⟨ps,hv,_⟩:=h
 obtain⟨g',t',cs,fuel,p,e1,e2,e3,hd⟩:=asv hv hm
 obtain rfl:=Option.some.inj (hg.symm.trans e1)
 obtain rfl:=Option.some.inj (ht.symm.trans e2)
 obtain⟨xs,m,_,ex,eB,hl,hel⟩:=DataW.trod_array hut hd
 intro r
 rw[List.getElem?_map]
 cases hr:zs[r]? with
 |none=>
  have:N≤r:=by rw[←hN];exact List.getElem?_eq_none_iff.1 hr
  rw[World.var?_cell hg e3 r,←Array.getElem?_toList,List.getElem?_eq_none (by omega)]
  rfl
 |some z0=>
 have hz0:=hr
 rw[Option.map_some]
 have hrN:r<N:=by rw[←hN];exact(List.getElem?_eq_some_iff.1 hz0).1
 have hE:=hel r hrN
 rw[hce,Nat.mul_one,List.getElem?_eq_getElem (by omega)]at hE
 obtain⟨z,f1,f2,_⟩:=DataW.trod_int hue hE
 have e3':(xs.map (·.1))=zs.map fun n=>.lit (.int k n):=(DataW.agg.inj (Prod.mk.inj ex).1).symm
 have e4:(xs.map (·.1))[r]? =(zs.map fun n=>(DataW.lit (.int k n):DataW Unit))[r]? :=by rw[e3']
 rw[List.getElem?_map,List.getElem?_map,List.getElem?_eq_getElem (by omega:r<xs.length),hz0,f2]at e4
 have hz:z=z0:=by simpa using e4
 subst hz
 rw[World.var?_cell hg e3 r]
 have:cs.toList[r]? =some (.int k z):=by
  have h0:((cs.toList.drop r).take 1)[0]? =some (.int k z):=by rw[f1];rfl
  simpa using h0
 simpa using this
end Go.Ve
namespace Go.Ve
open Go Go.Vs
theorem aCp {W:World} {g:Nat} {l:List Value} {v:Value} (h:mq W g l) (hl:l[0]? =some v):g<W.heap.size:=by
 have h0:=h.get hl
 unfold World.cell? at h0
 cases hh:W.heap[g]? with
 |none=>rw[hh]at h0;cases h0
 |some o=>exact(Array.getElem?_eq_some_iff.1 hh).1
end Go.Ve
namespace Go.Vs
noncomputable section
def jY:Key→Key→Bool
 | .inb a,.inb b=>Nat.beq a b
 | .loc a,.loc b=>Nat.beq a b
 | .esc a i,.esc b j=>match Nat.beq a b with|true=>Nat.beq i j|false=>false
 |_,_=>false
theorem aaR {a b:Key}:jY a b=true↔a=b:=by
 cases a<;>cases b<;>simp[jY]
 rename_i a i b j
 cases h:Nat.beq a b
 ·simp only[Bool.false_eq_true,false_iff]
  rintro ⟨rfl,_⟩
  rw[Nat.beq_refl]at h;cases h
 ·have:=Nat.eq_of_beq_eq_true h
  simp[this]
def fA:ah→ah→Bool
 | .tmp a,.tmp b=>Nat.beq a b
 | .box a,.box b=>jY a b
 | .arg a,.arg b=>Nat.beq a b
 |_,_=>false
theorem rP {a b:ah}:fA a b=true↔a=b:=by
 cases a<;>cases b<;>simp[fA,aaR]
theorem aIv (a:Key):jY a a=true:=aaR.2 rfl
theorem xp (a:ah):fA a a=true:=rP.2 rfl
theorem aCO {a b:ah} (h:fA a b=false):a≠b:=by rintro rfl;rw[xp]at h;cases h
abbrev dr:=List (ah×RV)
def dS (r:ah) (l:dr):RV:=List.rec {} (fun p _ ih=>match p with|(q,x)=>match fA r q with|true=>x|false=>ih) l
theorem asw (r:ah):dS r []={}:=rfl
theorem pP (r q:ah) (x:RV) (l:dr):dS r ((q,x) :: l)=match fA r q with|true=>x|false=>dS r l:=rfl
def cX (l:dr):St:=fun r=>dS r l
theorem aCP (r:ah) (x:RV) (l:dr):cX ((r,x) :: l)=(cX l).set r x:=by
 funext q
 show(match fA q r with|true=>x|false=>dS q l)=if q=r then x else dS q l
 cases h:fA q r
 ·rw[if_neg (aCO h)]
 ·rw[if_pos (rP.1 h)]
section
variable {β:Type}
def iO (n:Nat) (k:Nat→β):β:=Nat.rec (k 0) (fun m _=>k (m+1)) n
theorem xq (n:Nat) (k:Nat→β):iO n k=k n:=by cases n<;>rfl
def frI (n:Int) (k:Int→β):β:=
 match n with
 | .ofNat m=>iO m fun m=>k (.ofNat m)
 | .negSucc m=>iO m fun m=>k (.negSucc m)
theorem asx (n:Int) (k:Int→β):frI n k=k n:=by
 cases n
 ·exact xq _ (fun m=>k (.ofNat m))
 ·exact xq _ (fun m=>k (.negSucc m))
def frB (b:Bool) (k:Bool→β):β:=match b with|true=>k true|false=>k false
theorem ajy (b:Bool) (k:Bool→β):frB b k=k b:=by cases b<;>rfl
def frL {α:Type} (l:List α):(List α→β)→β:=List.rec (fun k=>k []) (fun a _ ih k=>ih fun l=>k (a :: l)) l
theorem ajz {α:Type}:∀(l:List α) (k:List α→β),frL l k=k l
 | [],_=>rfl
 |a :: l,k=>ajz l fun l=>k (a :: l)
def frD (d:D) (k:D→β):β:=
 match d with
 | .int t n=>frI n fun n=>k (.int t n)
 | .bool b=>frB b fun b=>k (.bool b)
 | .str s=>frL s fun s=>k (.str s)
 | .nil=>k .nil
 | .sl e xs=>k (.sl e xs)
 | .aK n=>k (.aK n)
theorem asy (d:D) (k:D→β):frD d k=k d:=by
 cases d<;>simp[frD,asx,ajy,ajz]
def ajA (l:List D):(List D→β)→β:=List.rec (fun k=>k []) (fun d _ ih k=>frD d fun d=>ih fun l=>k (d :: l)) l
theorem asz:∀(l:List D) (k:List D→β),ajA l k=k l
 | [],_=>rfl
 |a :: l,k=>(asy a fun d=>ajA l fun l=>k (d :: l)).trans (asz l fun l=>k (a :: l))
def afe (l:List (List D)):(List (List D)→β)→β:=List.rec (fun k=>k []) (fun d _ ih k=>ajA d fun d=>ih fun l=>k (d :: l)) l
theorem ajB:∀(l:List (List D)) (k:List (List D)→β),afe l k=k l
 | [],_=>rfl
 |a :: l,k=>(asz a fun d=>afe l fun l=>k (d :: l)).trans (ajB l fun l=>k (a :: l))
def xu (c:C) (k:C→β):β:=
 match c with
 | .d x=>match x with
   | .int t n=>frI n fun n=>k (.d (.int t n))
   | .bool b=>frB b fun b=>k (.d (.bool b))
   | .str s=>k (.d (.str s))
   | .nil=>k (.d .nil)
   | .sl e xs=>k (.d (.sl e xs))
   | .aK n=>k (.d (.aK n))
 | .own e xs=>k (.own e xs)
 | .aD r j hv cv e m xs=>iO hv fun hv=>iO cv fun cv=>iO m fun m=>k (.aD r j hv cv e m xs)
 | .ea r j hv e i off=>iO hv fun hv=>iO i fun i=>iO off fun off=>k (.ea r j hv e i off)
 | .da xs=>k (.da xs)
 | .ptr key off=>iO off fun off=>k (.ptr key off)
 | .bW f caps=>k (.bW f caps)
 | .dead=>k .dead
theorem ajC (c:C) (k:C→β):xu c k=k c:=by
 cases c<;>simp only[xu,xq]
 rename_i x
 cases x<;>simp[asx,ajy]
def xw (c:C) (k:C→β):β:=
 match c with
 | .d x=>frD x fun x=>match x with
   | .sl e xs=>afe xs fun xs=>k (.d (.sl e xs))
   |x=>k (.d x)
 | .own e xs=>afe xs fun xs=>k (.own e xs)
 | .aD r j hv cv e m xs=>iO hv fun hv=>iO cv fun cv=>iO m fun m=>frL xs fun xs=>k (.aD r j hv cv e m xs)
 |c=>xu c k
theorem aff (c:C) (k:C→β):xw c k=k c:=by
 cases c<;>simp only[xw,xq,asy,ajB,ajz,ajC]
 split<;>simp[ajB]
def xx (l:List C):(List C→β)→β:=List.rec (fun k=>k []) (fun d _ ih k=>xw d fun d=>ih fun l=>k (d :: l)) l
theorem aaT:∀(l:List C) (k:List C→β),xx l k=k l
 | [],_=>rfl
 |a :: l,k=>(aff a fun d=>xx l fun l=>k (d :: l)).trans (aaT l fun l=>k (a :: l))
def ajD (l:List C):(List C→β)→β:=List.rec (fun k=>k []) (fun d _ ih k=>xu d fun d=>ih fun l=>k (d :: l)) l
theorem asA:∀(l:List C) (k:List C→β),ajD l k=k l
 | [],_=>rfl
 |a :: l,k=>(ajC a fun d=>ajD l fun l=>k (d :: l)).trans (asA l fun l=>k (a :: l))
def frT (fr:List C→(List C→β)→β):List (Bool×List C)→(List (Bool×List C)→β)→β
 | [],k=>k []
 |p :: l,k=>match p with
  |(b,cs)=>frB b fun b=>fr cs fun cs=>frT fr l fun l=>k ((b,cs) :: l)
theorem asB {fr:List C→(List C→β)→β} (h:∀l k,fr l k=k l):∀(l:List (Bool×List C)) (k:List (Bool×List C)→β),frT fr l k=k l
 | [],_=>rfl
 |(b,cs) :: l,k=>by rw[frT];simp only[ajy,h,asB h l]
def xy (fr:List C→(List C→β)→β) (fr1:C→(C→β)→β) (v:SV) (k:SV→β):β:=
 match v with
 | .one c=>fr1 c fun c=>k (.one c)
 | .agg cs=>fr cs fun cs=>k (.agg cs)
 | .aJ vs=>frT fr vs fun vs=>k (.aJ vs)
 | .undef=>k .undef
theorem afh {fr:List C→(List C→β)→β} {fr1:C→(C→β)→β} (h:∀l k,fr l k=k l) (h1:∀c k,fr1 c k=k c) (v:SV) (k:SV→β):xy fr fr1 v k=k v:=by
 cases v<;>simp[xy,h,h1,asB h]
def afi (x:RV) (k:RV→β):β:=
 match x with
 |⟨hv,cv,v⟩=>iO hv fun hv=>iO cv fun cv=>xy xx xw v fun v=>k ⟨hv,cv,v⟩
theorem aCQ (x:RV) (k:RV→β):afi x k=k x:=by
 cases x
 simp only[afi,xq,afh aaT aff]
def xA:dr→(dr→β)→β
 | [],k=>k []
 |p :: l,k=>match p with
  |(r,⟨hv,cv,v⟩)=>xy ajD xu v fun v=>xA l fun l=>k ((r,⟨hv,cv,v⟩) :: l)
theorem afj:∀(l:dr) (k:dr→β),xA l k=k l
 | [],_=>rfl
 |(r,⟨hv,cv,v⟩) :: l,k=>by
  rw[xA]
  simp only[afh asA ajC,afj l]
end
def Prog.lZ {α:Type} (p:Prog α):dr→Option (α×dr×List ah×List ah):=
 Prog.rec (motive:=fun _=>dr→Option (α×dr×List ah×List ah)) (fun a s=>some (a,s,[],[])) (fun _=>none)
  (fun r _ ih s=>match ih (dS r s) s with
    |some (a,s',f,g)=>some (a,s',r :: f,g)
    |none=>none)
  (fun r x _ ih s=>afi x fun x=>match ih ((r,x) :: s)with
    |some (a,s',f,g)=>some (a,s',f,r :: g)
    |none=>none) p
theorem aCR {α:Type} (r:ah) (k:RV→Prog α) (s:dr):(Prog.get r k).lZ s=match(k (dS r s)).lZ s with
 |some (a,s',f,g)=>some (a,s',r :: f,g)
 |none=>none:=rfl
theorem aCS {α:Type} (r:ah) (x:RV) (k:Prog α) (s:dr):(Prog.put r x k).lZ s=afi x fun x=>match k.lZ ((r,x) :: s)with
 |some (a,s',f,g)=>some (a,s',f,r :: g)
 |none=>none:=rfl
theorem asC {α:Type} (p:Prog α):∀(s s':dr) (a:α) (f g:List ah),p.lZ s=some (a,s',f,g)→p.both (cX s)=some (a,cX s',f,g):=by
 induction p with
 |ret a=>intro s s' b f g h;replace h:some (a,s,[],[])=some (b,s',f,g):=h;simp only[Option.some.injEq,Prod.mk.injEq]at h;obtain⟨rfl,rfl,rfl,rfl⟩:=h;rfl
 |fail=>intro s s' b f g h;cases h
 |get r k ih=>
  intro s s' b f g h
  rw[aCR]at h
  cases hk:(k (dS r s)).lZ s with
  |none=>rw[hk]at h;cases h
  |some x=>
   obtain⟨a1,s1,f1,g1⟩:=x
   rw[hk]at h
   simp only[Option.some.injEq,Prod.mk.injEq]at h
   obtain⟨rfl,rfl,rfl,rfl⟩:=h
   have:=ih (dS r s) s _ _ _ _ hk
   simp only[Prog.both]
   show(match(k (dS r s)).both (cX s)with|some (a,s',f,g)=>some (a,s',r :: f,g)|none=>none)=_
   rw[this]
 |put r x k ih=>
  intro s s' b f g h
  rw[aCS,aCQ]at h
  cases hk:k.lZ ((r,x) :: s)with
  |none=>rw[hk]at h;cases h
  |some y=>
   obtain⟨a1,s1,f1,g1⟩:=y
   rw[hk]at h
   simp only[Option.some.injEq,Prod.mk.injEq]at h
   obtain⟨rfl,rfl,rfl,rfl⟩:=h
   have:=ih _ _ _ _ _ hk
   simp only[Prog.both]
   rw[←aCP,this]
theorem aCT {α:Type} {p:Prog α} {s s':dr} {a:α} {f g:List ah} (h:p.lZ s=some (a,s',f,g)):p.exec (cX s)=some (a,cX s'):=by
 have:=asC p _ _ _ _ _ h
 rw[ahi]at this
 cases he:p.exec (cX s)with
 |none=>rw[he]at this;cases this
 |some x=>
  rw[he]at this
  simp only[Option.map_some,Option.some.injEq,Prod.mk.injEq]at this
  obtain⟨h1,h2,_⟩:=this
  rw[←h1,←h2]
def uz (cfg:aP) (ops:Array Oper):List Oper→dr→Option (dr×List (List ah×List ah))
 | [],s=>some (s,[])
 |o :: r,s=>match(iW cfg ops o).lZ s with
  |some (_,s',f,g)=>match uz cfg ops r s' with
   |some (s'',l)=>some (s'',(f,g) :: l)
   |none=>none
  |none=>none
theorem aCU (cfg:aP) (ops:Array Oper):∀(l:List Oper) (s s':dr) (cB:List (List ah×List ah)),uz cfg ops l s=some (s',cB)→lK cfg ops l (cX s)=some (cX s',cB):=by
 intro l
 induction l with
 |nil=>intro s s' cB h;simp only[uz,Option.some.injEq,Prod.mk.injEq]at h;obtain⟨rfl,rfl⟩:=h;rfl
 |cons o l ih=>
  intro s s' cB h
  simp only[uz]at h
  cases he:(iW cfg ops o).lZ s with
  |none=>rw[he]at h;cases h
  |some x=>
   obtain⟨u,s1,f,g⟩:=x
   rw[he]at h
   simp only at h
   cases hr:uz cfg ops l s1 with
   |none=>rw[hr]at h;cases h
   |some y=>
    obtain⟨s2,fs⟩:=y
    rw[hr]at h
    simp only[Option.some.injEq,Prod.mk.injEq]at h
    obtain⟨rfl,rfl⟩:=h
    simp only[lK,asC _ _ _ _ _ _ he,ih _ _ _ hr]
def eZ:List Nat→Nat
 | []=>0
 |t :: l=>eZ l ||| 1 <<< t
theorem asD (t:Nat):∀l:List Nat,(eZ l).testBit t=true↔t∈l
 | []=>by simp[eZ]
 |u :: l=>by
  have ih:=asD t l
  simp only[eZ,Nat.testBit_or,Bool.or_eq_true,ih,Nat.one_shiftLeft,Nat.testBit_two_pow,decide_eq_true_eq,List.mem_cons]
  constructor
  ·rintro (h|rfl)
   ·exact .inr h
   ·exact .inl rfl
  ·rintro (rfl|h)
   ·exact .inr rfl
   ·exact .inl h
def asE (s:St) (bk:List Key) (r:ah) (v:SV):SV:=
 match r with
 | .box _=>match v with| .agg cs=>.agg (eV s bk cs)|_=>.undef
 |_=>fh s bk v
def nk (km:Nat) (bk:List Key) (n:Nat):ah→Bool
 | .tmp t=>km.testBit t
 | .box k=>bk.any (jY k)
 | .arg i=>Nat.blt i n
def cJ (s:St) (km:Nat) (bk:List Key) (n:Nat) (r:ah) (x:RV):RV:=
 match nk km bk n r with
 |true=>{ v:=asE s bk r x.v }
 |false=>{}
def ov (m:Nat) (l:List Key):ah→Bool
 | .tmp t=>m.testBit t
 | .box k=>l.any (jY k)
 | .arg _=>false
def ajE (m:Nat):ah→Nat
 | .tmp t=>m ||| 1 <<< t
 |_=>m
def ajF (l:List Key):ah→List Key
 | .box k=>k :: l
 |_=>l
def oy (s:St) (km:Nat) (bk:List Key) (n:Nat):Nat→List Key→dr→dr
 |_,_,[]=>[]
 |m,l,p :: q=>match p with
  |(r,x)=>match ov m l r with
   |true=>oy s km bk n m l q
   |false=>match nk km bk n r with
    |true=>(r,{ v:=asE s bk r x.v }) :: oy s km bk n (ajE m r) (ajF l r) q
    |false=>oy s km bk n (ajE m r) (ajF l r) q
theorem aCV (m t u:Nat) (l:List Key):ov (m ||| 1 <<< t) l (.tmp u)=(decide (t=u)||ov m l (.tmp u)):=by
 simp only[ov,Nat.testBit_or,Nat.one_shiftLeft,Nat.testBit_two_pow]
 rw[Bool.or_comm]
theorem ajG (s:St) (km:Nat) (bk:List Key) (n:Nat) (r:ah):∀(q:dr) (m:Nat) (l:List Key),ov m l r=false→dS r (oy s km bk n m l q)=cJ s km bk n r (dS r q)
 | [],m,l,_=>by
   simp only[oy,asw,cJ]
   split
   ·cases r<;>rfl
   ·rfl
 |(r',x) :: q,m,l,h=>by
  simp only[oy]
  cases hs:ov m l r' with
  |true=>
   have hne:fA r r'=false:=by
    cases hx:fA r r'
    ·rfl
    ·rw[rP.1 hx,hs]at h;cases h
   simp only
   rw[ajG s km bk n r q m l h]
   show _=cJ s km bk n r (match fA r r' with|true=>x|false=>dS r q)
   rw[hne]
  |false=>
   simp only
   cases hx:fA r r' with
   |true=>
    have e:=rP.1 hx
    subst e
    have e2:dS r ((r,x) :: q)=x:=by simp[pP,xp]
    rw[e2]
    cases hk:nk km bk n r with
    |true=>simp[pP,xp,cJ,hk]
    |false=>
     have key:∀(q:dr) (m':Nat) (l':List Key),dS r (oy s km bk n m' l' q)={}:=by
      intro q
      induction q with
      |nil=>intro m' l';rfl
      |cons p q ih=>
       intro m' l'
       obtain⟨r2,x2⟩:=p
       simp only[oy]
       cases ov m' l' r2 with
       |true=>exact ih ..
       |false=>
        simp only
        cases hk2:nk km bk n r2 with
        |true=>
         have hne:fA r r2=false:=by
          cases hx2:fA r r2
          ·rfl
          ·rw[rP.1 hx2,hk2]at hk;cases hk
         simp only[pP,hne]
         exact ih ..
        |false=>exact ih ..
     simp only[cJ,hk]
     exact key ..
   |false=>
    have e2:dS r ((r',x) :: q)=dS r q:=by simp[pP,hx]
    rw[e2]
    have key:dS r (oy s km bk n (ajE m r') (ajF l r') q)=cJ s km bk n r (dS r q):=by
     refine ajG s km bk n r q _ _ ?_
     cases r' with
     |arg i=>exact h
     |box k=>
      cases r with
      |box k'=>
       have h1:jY k' k=false:=hx
       have h2:(l.any (jY k'))=false:=h
       show((k :: l).any (jY k'))=false
       rw[List.any_cons,h1,h2];rfl
      |tmp t=>exact h
      |arg i=>rfl
     |tmp t=>
      cases r with
      |tmp u=>
       show ov (m ||| 1 <<< t) l (.tmp u)=false
       rw[aCV,h]
       have h1:Nat.beq u t=false:=hx
       have:t≠u:=by rintro rfl;rw[Nat.beq_refl]at h1;cases h1
       simp[this]
      |box k=>exact h
      |arg i=>rfl
    cases hk:nk km bk n r' with
    |true=>
     show dS r ((r',_) :: _)=_
     rw[pP]
     simp only[hx]
     exact key
    |false=>exact key
def kT (km:Nat) (bk:List Key) (n:Nat) (s:dr):dr:=oy (cX s) km bk n 0 [] s
theorem aCW (k:Key) (bk:List Key):bk.any (jY k)=true↔k∈bk:=by
 simp only[List.any_eq_true,aaR]
 exact⟨fun⟨x,h,e⟩=>e ▸ h,fun h=>⟨k,h,rfl⟩⟩
theorem aCX (s:dr) (keys:List Nat) (bk:List Key) (n:Nat):(fin (cX s) keys bk n).st=cX (kT (eZ keys) bk n s):=by
 funext r
 have h0:ov 0 [] r=false:=by cases r<;>simp[ov]
 have hr:cX (kT (eZ keys) bk n s) r=cJ (cX s) (eZ keys) bk n r (cX s r):=ajG (cX s) (eZ keys) bk n r s 0 [] h0
 rw[hr]
 have hz:=nQ (fin (cX s) keys bk n) r
 have ext:∀(a b:RV),a.hv=b.hv→a.cv=b.cv→a.v=b.v→a=b:=by intro a b h1 h2 h3;cases a;cases b;simp_all
 have z1:(cJ (cX s) (eZ keys) bk n r (cX s r)).hv=0∧(cJ (cX s) (eZ keys) bk n r (cX s r)).cv=0:=by
  unfold cJ;split<;>exact⟨rfl,rfl⟩
 refine ext _ _ (by rw[hz.1,z1.1]) (by rw[hz.2,z1.2]) ?_
 cases r with
 |tmp t=>
  rw[ahm]
  have:=asD t keys
  by_cases h:t∈keys
  ·rw[if_pos h]
   simp only[cJ,nk,this.2 h];rfl
  ·rw[if_neg h]
   have h2:(eZ keys).testBit t=false:=by
    cases hb:(eZ keys).testBit t
    ·rfl
    ·exact absurd (this.1 hb) h
   simp only[cJ,nk,h2]
 |box k=>
  rw[ahn]
  have:=aCW k bk
  by_cases h:k∈bk
  ·rw[if_pos h]
   simp only[cJ,nk,this.2 h];rfl
  ·rw[if_neg h]
   have h2:bk.any (jY k)=false:=by
    cases hb:bk.any (jY k)
    ·rfl
    ·exact absurd (this.1 hb) h
   simp only[cJ,nk,h2]
 |arg i=>
  rw[aho]
  by_cases h:i<n
  ·rw[if_pos h]
   have:Nat.blt i n=true:=by simpa using h
   simp only[cJ,nk,this];rfl
  ·rw[if_neg h]
   have:Nat.blt i n=false:=by
    cases hb:Nat.blt i n
    ·rfl
    ·exact absurd (by simpa using hb) h
   simp only[cJ,nk,this]
theorem xB {R:Nat→Prop} (h:∃n,R n):∃n,R n∧∀m,R m→n≤m:=by
 obtain⟨n,hn⟩:=h
 induction n using Nat.strongRecOn with
 |_ n ih=>
  by_cases hm:∃m,m<n∧R m
  ·obtain⟨m,h1,h2⟩:=hm;exact ih m h1 h2
  ·exact⟨n,hn,fun m h=>Nat.le_of_not_lt fun h2=>hm ⟨m,h2,h⟩⟩
structure eN where
 st:dr
 n:Nat
def jz (p:PS) (x:eN):Prop:=p.st=cX x.st∧p.args.length=x.n
def afk (c:Operand) (x:eN):Option Bool:=
 match c with
 | .tmp t=>match(dS (.tmp t) x.st).v with| .one (.d (.bool b))=>some b|_=>none
 | .const (.bool b)=>some b
 |_=>none
theorem aCY {c:Operand} {p:PS} {x:eN} {b:Bool} (h:jz p x) (hc:afk c x=some b):vU c p=some b:=by
 unfold afk at hc
 split at hc
 ·rename_i t
  split at hc
  ·rename_i b' hb
   have h1:(p.st (.tmp t)).v= .one (.d (.bool b')):=by rw[h.1];exact hb
   have h2:((lk t p.slots).getD .undef)= .one (.d (.bool b')):=h1
   cases hl:lk t p.slots with
   |none=>rw[hl]at h2;cases h2
   |some v=>
    rw[hl]at h2
    simp only[Option.getD_some]at h2
    subst h2
    simp only[vU,hl]
    exact hc
  ·cases hc
 ·exact hc
 ·cases hc
def ajH (F:VF) (s:dr) (n:Nat) (k:eN→Option (Ex×eN)):Option (Ex×eN):=xA (kT (eZ F.keys) F.aQ n s) fun st=>k { st,n }
theorem aCZ (F:VF) (s:dr) (n:Nat) (k:eN→Option (Ex×eN)):ajH F s n k=k { st:=kT (eZ F.keys) F.aQ n s,n }:=afj ..
def aaV:List Oper→List Nat
 | []=>[]
 |o :: r=>match o.op,o.dst with
  | .alloc _,some d=>d :: aaV r
  | .box _ _,some d=>d :: aaV r
  | .call _,some d=>d :: aaV r
  |_,_=>aaV r
def l8:Code→List Nat
 | .region _ ops _=>aaV ops.toList
 | .seq a b=>l8 a++l8 b
 | .cond _ a b=>l8 a++l8 b
 | .block _ b=>l8 b
 | .loop b=>l8 b
 | .scope b=>l8 b
 |_=>[]
def aC0 (m:Nat):Key→Bool
 | .inb _=>false
 | .loc t=>m.testBit t
 | .esc t _=>m.testBit t
def aaW (m:Nat) (bk:List Key):List Key:=bk.filter fun k=> !aC0 m k
def asF (F:VF) (b:Code) (s:dr) (n:Nat) (k:eN→Option (Ex×eN)):Option (Ex×eN):=xA (kT (eZ F.keys) (aaW (eZ (l8 b)) F.aQ) n s) fun st=>k { st,n }
theorem aC1 (F:VF) (b:Code) (s:dr) (n:Nat) (k:eN→Option (Ex×eN)):asF F b s n k=k { st:=kT (eZ F.keys) (aaW (eZ (l8 b)) F.aQ) n s,n }:=afj ..
def l9 (F:VF) (rec:Code→eN→Option (Ex×eN)) (c:Code) (x:eN):Option (Ex×eN):=
 match c with
 | .skip=>some (.normal,x)
 | .region _ ops draw=>match uz F.cfg ops ops.toList x.st with
   |some (s,cB)=>match draw with
    |true=>match qE ops cB with
     |true=>ajH F s x.n fun y=>some (.normal,y)
     |false=>none
    |false=>ajH F s x.n fun y=>some (.normal,y)
   |none=>none
 | .seq a b=>match rec a x with
   |some (.normal,y)=>rec b y
   |r=>r
 | .cond c a b=>match afk c x with
   |some true=>rec a x
   |some false=>rec b x
   |none=>none
 | .block id b=>match rec b x with
   |some (.exit i,y)=>match Nat.beq i id with
    |true=>some (.normal,y)
    |false=>some (.exit i,y)
   |r=>r
 | .loop b=>asF F b x.st x.n fun x'=>match rec b x' with
   |some (.normal,y)=>rec (.loop b) y
   |r=>r
 | .scope b=>rec b x
 | .exit id=>some (.exit id,x)
 | .ret=>some (.ret,x)
 |_=>none
def jZ (F:VF) (m:Nat):Code→eN→Option (Ex×eN):=Nat.rec (fun _ _=>none) (fun _ ih=>l9 F ih) m
theorem aIw (F:VF) (c:Code) (x:eN):jZ F 0 c x=none:=rfl
theorem oz (F:VF) (m:Nat) (c:Code) (x:eN):jZ F (m+1) c x=l9 F (jZ F m) c x:=rfl
theorem jz.fin {p:PS} {x:eN} (hl:p.args.length=x.n) (s:dr) (keys:List Nat) (bk:List Key):jz (fin (cX s) keys bk p.args.length) { st:=kT (eZ keys) bk x.n s,n:=x.n }:=by
 rw[hl]
 exact⟨aCX ..,ahl ..⟩
theorem jz.forget {p:PS} {x:eN} (h:jz p x) (keys:List Nat) (bk:List Key):jz (forget keys bk p) { st:=kT (eZ keys) bk x.n x.st,n:=x.n }:=by
 have:=jz.fin h.2 x.st keys bk
 rw[←h.1]at this
 exact this
theorem aC2 (F:VF):∀(c:Code) (m:Nat) (x y:eN) (e:Ex),jZ F m c x=some (e,y)→∀(p:PS) (Q:Ex→PS→Prop),jz p x→(∀p',jz p' y→Q e p')→eK F c p Q:=by
 intro c
 induction c with
 |skip=>
  intro m x y e h p Q hp hQ
  cases m with
  |zero=>cases h
  |succ m=>rw[oz]at h;simp only[l9,Option.some.injEq,Prod.mk.injEq]at h;obtain⟨rfl,rfl⟩:=h;exact hQ p hp
 |exit id=>
  intro m x y e h p Q hp hQ
  cases m with
  |zero=>cases h
  |succ m=>rw[oz]at h;simp only[l9,Option.some.injEq,Prod.mk.injEq]at h;obtain⟨rfl,rfl⟩:=h;exact hQ p hp
 |ret=>
  intro m x y e h p Q hp hQ
  cases m with
  |zero=>cases h
  |succ m=>rw[oz]at h;simp only[l9,Option.some.injEq,Prod.mk.injEq]at h;obtain⟨rfl,rfl⟩:=h;exact hQ p hp
 |region id ops draw=>
  intro m x y e h p Q hp hQ
  cases m with
  |zero=>cases h
  |succ m=>
   rw[oz]at h
   simp only[l9,aCZ]at h
   cases hr:uz F.cfg ops ops.toList x.st with
   |none=>rw[hr]at h;cases h
   |some z=>
    obtain⟨s,cB⟩:=z
    rw[hr]at h
    have hb:=aCU _ _ _ _ _ _ hr
    rw[←hp.1]at hb
    cases draw with
    |false=>
     simp only[Option.some.injEq,Prod.mk.injEq]at h
     obtain⟨rfl,rfl⟩:=h
     simp only[eK]
     rw[(adu _ _ _ _ _ _ hb).1]
     exact hQ _ (jz.fin hp.2 s F.keys F.aQ)
    |true=>
     simp only at h
     cases hd:qE ops cB with
     |false=>rw[hd]at h;cases h
     |true=>
      rw[hd]at h
      simp only[Option.some.injEq,Prod.mk.injEq]at h
      obtain⟨rfl,rfl⟩:=h
      simp only[eK]
      rw[hb]
      exact⟨hd,hQ _ (jz.fin hp.2 s F.keys F.aQ)⟩
 |seq a b od nc=>
  intro m x y e h p Q hp hQ
  cases m with
  |zero=>cases h
  |succ m=>
   rw[oz]at h
   simp only[l9]at h
   simp only[eK]
   cases ha:jZ F m a x with
   |none=>rw[ha]at h;cases h
   |some z=>
    obtain⟨e1,z⟩:=z
    rw[ha]at h
    refine od m x z e1 ha p _ hp fun p' hp'=>?_
    cases e1 with
    |normal=>exact nc m z y e h p' Q hp' hQ
    |exit i=>simp only[Option.some.injEq,Prod.mk.injEq]at h;obtain⟨rfl,rfl⟩:=h;exact hQ p' hp'
    |ret=>simp only[Option.some.injEq,Prod.mk.injEq]at h;obtain⟨rfl,rfl⟩:=h;exact hQ p' hp'
 |cond c a b od nc=>
  intro m x y e h p Q hp hQ
  cases m with
  |zero=>cases h
  |succ m=>
   rw[oz]at h
   simp only[l9]at h
   simp only[eK]
   cases hc:afk c x with
   |none=>rw[hc]at h;cases h
   |some v=>
    rw[hc]at h
    rw[aCY hp hc]
    cases v with
    |true=>exact⟨fun _=>od m x y e h p Q hp hQ,fun h=>by cases h⟩
    |false=>exact⟨fun h=>(by cases h),fun _=>nc m x y e h p Q hp hQ⟩
 |block id b ih=>
  intro m x y e h p Q hp hQ
  cases m with
  |zero=>cases h
  |succ m=>
   rw[oz]at h
   simp only[l9]at h
   simp only[eK]
   cases ha:jZ F m b x with
   |none=>rw[ha]at h;cases h
   |some z=>
    obtain⟨e1,z⟩:=z
    rw[ha]at h
    refine ih m x z e1 ha p _ hp fun p' hp'=>?_
    cases e1 with
    |normal=>simp only[Option.some.injEq,Prod.mk.injEq]at h;obtain⟨rfl,rfl⟩:=h;exact hQ p' hp'
    |ret=>simp only[Option.some.injEq,Prod.mk.injEq]at h;obtain⟨rfl,rfl⟩:=h;exact hQ p' hp'
    |exit i=>
     simp only at h
     cases hi:Nat.beq i id with
     |true=>
      rw[hi]at h
      simp only[Option.some.injEq,Prod.mk.injEq]at h;obtain⟨rfl,rfl⟩:=h
      have:=Nat.eq_of_beq_eq_true hi
      simp only[this,if_true]
      exact hQ p' hp'
     |false=>
      rw[hi]at h
      simp only[Option.some.injEq,Prod.mk.injEq]at h;obtain⟨rfl,rfl⟩:=h
      have:i≠id:=by rintro rfl;rw[Nat.beq_refl]at hi;cases hi
      simp only[this,if_false]
      exact hQ p' hp'
 |scope b ih=>
  intro m x y e h p Q hp hQ
  cases m with
  |zero=>cases h
  |succ m=>
   rw[oz]at h
   simp only[l9]at h
   simp only[eK]
   exact ih m x y e h p Q hp hQ
 |loop b ih=>
  intro m x y e h p Q hp hQ
  let bl:List Key:=aaW (eZ (l8 b)) F.aQ
  let fz:eN→eN:=fun x=>{ st:=kT (eZ F.keys) bl x.n x.st,n:=x.n }
  let R:Nat→PS→Prop:=fun n q=>∃x,jz q (fz x)∧jZ F n (.loop b) x=some (e,y)
  classical
  let μ:PS→Nat:=fun q=>if hq:∃n,R n q then(xB hq).choose else 0
  simp only[eK]
  refine⟨F.keys,bl,fun q=>∃n,R n q,μ,?_,⟨m,x,jz.forget hp F.keys bl,h⟩,?_⟩
  ·refine List.all_eq_true.2 fun k hk=>?_
   cases k with
   |inb i=>
    have:bl.contains (.inb i)=true:=by
     rw[List.contains_iff_mem]
     exact List.mem_filter.2 ⟨hk,rfl⟩
    rw[this];simp
   |loc t=>rfl
   |esc t i=>rfl
  ·intro q hq
   have hμ:μ q=(xB hq).choose:=dif_pos hq
   obtain⟨x1,hx1,hl⟩:=(xB hq).choose_spec.1
   cases hn:(xB hq).choose with
   |zero=>rw[hn]at hl;cases hl
   |succ n=>
    rw[hn,oz]at hl
    simp only[l9,aC1]at hl
    cases hb:jZ F n b (fz x1)with
    |none=>rw[show jZ F n b { st:=kT (eZ F.keys) (aaW (eZ (l8 b)) F.aQ) x1.n x1.st,n:=x1.n }=none from hb]at hl;cases hl
    |some z=>
     obtain⟨e1,z⟩:=z
     rw[show jZ F n b { st:=kT (eZ F.keys) (aaW (eZ (l8 b)) F.aQ) x1.n x1.st,n:=x1.n }=some (e1,z)from hb]at hl
     refine ih n (fz x1) z e1 hb q _ hx1 fun q' hq'=>?_
     cases e1 with
     |normal=>
      have hR:R n (Vs.forget F.keys bl q'):=⟨z,jz.forget hq' F.keys bl,hl⟩
      refine⟨⟨n,hR⟩,?_⟩
      have hex:∃n,R n (Vs.forget F.keys bl q'):=⟨n,hR⟩
      have:μ (Vs.forget F.keys bl q')=(xB hex).choose:=dif_pos hex
      show μ (Vs.forget F.keys bl q')<μ q
      rw[this,hμ,hn]
      exact Nat.lt_succ_of_le ((xB hex).choose_spec.2 _ hR)
     |exit i=>simp only[Option.some.injEq,Prod.mk.injEq]at hl;obtain⟨rfl,rfl⟩:=hl;exact hQ q' hq'
     |ret=>simp only[Option.some.injEq,Prod.mk.injEq]at hl;obtain⟨rfl,rfl⟩:=hl;exact hQ q' hq'
 |_=>
  intro m x y e h
  cases m with
  |zero=>cases h
  |succ m=>rw[oz]at h;simp only[l9]at h;cases h
end
end Go.Vs
namespace Go.Vs
noncomputable section
def afl:List UInt8→List UInt8→Bool
 | [],[]=>true
 |a :: l,b :: m=>match Nat.beq a.toNat b.toNat with|true=>afl l m|false=>false
 |_,_=>false
theorem asG:∀{a b:List UInt8},afl a b=true→a=b
 | [],[],_=>rfl
 |a :: l,b :: m,h=>by
  simp only[afl]at h
  split at h
  ·rename_i h1
   rw[UInt8.toNat_inj.1 (Nat.eq_of_beq_eq_true h1),asG h]
  ·cases h
 | [],_ :: _,h=>by cases h
 |_ :: _,[],h=>by cases h
mutual
def j3:D→D→Bool
 | .int k a,.int k' b=>decide (k=k')&&decide (a=b)
 | .bool a,.bool b=>a==b
 | .str a,.str b=>afl a b
 | .nil,.nil=>true
 | .sl e xs,.sl e' ys=>match Nat.beq e e' with|true=>uA xs ys|false=>false
 | .aK a,.aK b=>decide (a=b)
 |_,_=>false
def xC:List D→List D→Bool
 | [],[]=>true
 |a :: l,b :: m=>match j3 a b with|true=>xC l m|false=>false
 |_,_=>false
def uA:List (List D)→List (List D)→Bool
 | [],[]=>true
 |a :: l,b :: m=>match xC a b with|true=>uA l m|false=>false
 |_,_=>false
end
mutual
theorem asH:∀{a b:D},j3 a b=true→a=b
 | .int k a,.int k' b,h=>by simp only[j3,Bool.and_eq_true,decide_eq_true_eq]at h;rw[h.1,h.2]
 | .bool a,.bool b,h=>by simp only[j3,beq_iff_eq]at h;rw[h]
 | .str a,.str b,h=>by simp only[j3]at h;rw[asG h]
 | .nil,.nil,_=>rfl
 | .sl e xs,.sl e' ys,h=>by
   simp only[j3]at h
   split at h
   ·rename_i h1;rw[Nat.eq_of_beq_eq_true h1,ajJ h]
   ·cases h
 | .aK a,.aK b,h=>by simp only[j3,decide_eq_true_eq]at h;rw[h]
 | .int ..,.bool ..,h| .int ..,.str ..,h| .int ..,.nil,h| .int ..,.sl ..,h| .int ..,.aK ..,h=>by simp[j3]at h
 | .bool ..,.int ..,h| .bool ..,.str ..,h| .bool ..,.nil,h| .bool ..,.sl ..,h| .bool ..,.aK ..,h=>by simp[j3]at h
 | .str ..,.int ..,h| .str ..,.bool ..,h| .str ..,.nil,h| .str ..,.sl ..,h| .str ..,.aK ..,h=>by simp[j3]at h
 | .nil,.int ..,h| .nil,.bool ..,h| .nil,.str ..,h| .nil,.sl ..,h| .nil,.aK ..,h=>by simp[j3]at h
 | .sl ..,.int ..,h| .sl ..,.bool ..,h| .sl ..,.str ..,h| .sl ..,.nil,h| .sl ..,.aK ..,h=>by simp[j3]at h
 | .aK ..,.int ..,h| .aK ..,.bool ..,h| .aK ..,.str ..,h| .aK ..,.nil,h| .aK ..,.sl ..,h=>by simp[j3]at h
theorem asI:∀{a b:List D},xC a b=true→a=b
 | [],[],_=>rfl
 |a :: l,b :: m,h=>by
  simp only[xC]at h
  split at h
  ·rename_i h1;rw[asH h1,asI h]
  ·cases h
 | [],_ :: _,h=>by simp[xC]at h
 |_ :: _,[],h=>by simp[xC]at h
theorem ajJ:∀{a b:List (List D)},uA a b=true→a=b
 | [],[],_=>rfl
 |a :: l,b :: m,h=>by
  simp only[uA]at h
  split at h
  ·rename_i h1;rw[asI h1,ajJ h]
  ·cases h
 | [],_ :: _,h=>by simp[uA]at h
 |_ :: _,[],h=>by simp[uA]at h
end
def xD:List (Key×Nat)→List (Key×Nat)→Bool
 | [],[]=>true
 |a :: l,b :: m=>match jY a.1 b.1,Nat.beq a.2 b.2 with|true,true=>xD l m|_,_=>false
 |_,_=>false
theorem asJ:∀{a b:List (Key×Nat)},xD a b=true→a=b
 | [],[],_=>rfl
 |(a,i) :: l,(b,j) :: m,h=>by
  simp only[xD]at h
  split at h
  ·rename_i h1 h2;rw[aaR.1 h1,Nat.eq_of_beq_eq_true h2,asJ h]
  ·cases h
 | [],_ :: _,h=>by simp[xD]at h
 |_ :: _,[],h=>by simp[xD]at h
def eqC:C→C→Bool
 | .d x,.d y=>j3 x y
 | .own e xs,.own e' ys=>match Nat.beq e e' with|true=>uA xs ys|false=>false
 | .ptr k o,.ptr k' o'=>match jY k k' with|true=>Nat.beq o o'|false=>false
 | .bW f l,.bW f' l'=>match Nat.beq f f' with|true=>xD l l'|false=>false
 |_,_=>false
theorem asK {a b:C} (h:eqC a b=true):a=b:=by
 cases a<;>cases b<;>simp only[eqC]at h<;>first|(cases h;done)|skip
 ·rw[asH h]
 ·split at h
  ·rename_i h1;rw[Nat.eq_of_beq_eq_true h1,ajJ h]
  ·cases h
 ·split at h
  ·rename_i h1;rw[aaR.1 h1,Nat.eq_of_beq_eq_true h]
  ·cases h
 ·split at h
  ·rename_i h1;rw[Nat.eq_of_beq_eq_true h1,asJ h]
  ·cases h
def uB:List C→List C→Bool
 | [],[]=>true
 |a :: l,b :: m=>match eqC a b with|true=>uB l m|false=>false
 |_,_=>false
theorem ajK:∀{a b:List C},uB a b=true→a=b
 | [],[],_=>rfl
 |a :: l,b :: m,h=>by
  simp only[uB]at h
  split at h
  ·rename_i h1;rw[asK h1,ajK h]
  ·cases h
 | [],_ :: _,h=>by simp[uB]at h
 |_ :: _,[],h=>by simp[uB]at h
def afn:SV→SV→Bool
 | .one a,.one b=>eqC a b
 | .agg a,.agg b=>uB a b
 |_,_=>false
theorem asL {a b:SV} (h:afn a b=true):a=b:=by
 cases a<;>cases b<;>simp only[afn]at h<;>first|(cases h;done)|skip
 ·rw[asK h]
 ·rw[ajK h]
structure XI where
 fn:Func
 var:List Nat
 res:List Nat
 keys:List Nat
 bk:List Key
 dat:List Nat:=[]
 bK:Bool:=false
structure XE where
 T:List (TypeId×TI)
 eqs:List (TypeId×List Sc)
 A0:FuncId→fc
 xE:Nat→Option XI
 fuel:Nat
def xlk {α:Type} (t:Nat):List (Nat×α)→Option α
 | []=>none
 |(u,a) :: r=>match Nat.beq t u with|true=>some a|false=>xlk t r
theorem asM {α:Type} {t:Nat} {a:α}:∀{l:List (Nat×α)},xlk t l=some a→(t,a)∈l
 | [],h=>by cases h
 |(u,b) :: r,h=>by
  simp only[xlk]at h
  split at h
  ·rename_i h1
   rw[Option.some.injEq]at h
   rw[Nat.eq_of_beq_eq_true h1,h]
   exact List.mem_cons_self ..
  ·exact List.mem_cons_of_mem _ (asM h)
def pQ:Nat→List SV→dr
 |_,[]=>[]
 |i,v :: vs=>(.arg i,{ v }) :: pQ (i+1) vs
def rQ:List (Nat×SV)→dr
 | []=>[]
 |(t,v) :: l=>(.tmp t,{ v }) :: rQ l
def rR:List (Key×List C)→dr
 | []=>[]
 |(k,b) :: l=>(.box k,{ v:=.agg b }) :: rR l
def aaX (p:PS):dr:=rQ p.slots++(rR p.boxes++pQ 0 p.args)
theorem aaY (r:ah):∀(a b:dr),(∀p∈a,fA r p.1=false)→dS r (a++b)=dS r b
 | [],_,_=>rfl
 |(q,x) :: a,b,h=>by
  have h1:=h (q,x) (List.mem_cons_self ..)
  simp only[List.cons_append,pP,h1]
  exact aaY r a b fun p hp=>h p (List.mem_cons_of_mem _ hp)
theorem asN (t:Nat) (b:dr) (hb:dS (.tmp t) b={}):∀l:List (Nat×SV),dS (.tmp t) (rQ l++b)={ v:=(lk t l).getD .undef }
 | []=>hb
 |(u,v) :: l=>by
  have ih:=asN t b hb l
  simp only[rQ,List.cons_append,pP,lk]
  by_cases h:t=u
  ·subst h
   have:fA (.tmp t) (.tmp t)=true:=xp _
   simp[this]
  ·have:fA (.tmp t) (.tmp u)=false:=by
     cases hx:fA (.tmp t) (.tmp u)
     ·rfl
     ·exact absurd (by have:=rP.1 hx;simpa using this) h
   simp only[this,if_neg h]
   exact ih
theorem asO (k:Key) (b:dr) (hb:dS (.box k) b={}):∀l:List (Key×List C),dS (.box k) (rR l++b)={ v:=match jm k l with|some cs=>.agg cs|none=>.undef }
 | []=>hb
 |(u,v) :: l=>by
  have ih:=asO k b hb l
  simp only[rR,List.cons_append,pP,jm]
  by_cases h:k=u
  ·subst h
   have:fA (.box k) (.box k)=true:=xp _
   simp[this]
  ·have:fA (.box k) (.box u)=false:=by
     cases hx:fA (.box k) (.box u)
     ·rfl
     ·exact absurd (by have:=rP.1 hx;simpa using this) h
   simp only[this,if_neg h]
   exact ih
theorem asP (i:Nat):∀(l:List SV) (j:Nat),dS (.arg i) (pQ j l)={ v:=if j≤i then l.getD (i - j) .undef else .undef }
 | [],j=>by simp[pQ,asw]
 |v :: l,j=>by
  have ih:=asP i l (j+1)
  simp only[pQ,pP]
  by_cases h:i=j
  ·subst h
   have:fA (.arg i) (.arg i)=true:=xp _
   simp[this]
  ·have:fA (.arg i) (.arg j)=false:=by
     cases hx:fA (.arg i) (.arg j)
     ·rfl
     ·exact absurd (by have:=rP.1 hx;simpa using this) h
   simp only[this]
   rw[ih]
   by_cases h2:j+1≤i
   ·rw[if_pos h2,if_pos (by omega),show i - j=(i - (j+1))+1 by omega,List.getD_cons_succ]
   ·rw[if_neg h2,if_neg (by omega)]
theorem aC4 (p:PS):p.st=cX (aaX p):=by
 funext r
 have hsl:∀(l:List (Nat×SV)) q,q∈rQ l→∃t,q.1= .tmp t:=by
  intro l
  induction l with
  |nil=>intro q h;cases h
  |cons x l ih=>intro q h;exact(List.mem_cons.1 h).elim (fun e=>⟨_,by rw[e]⟩) (ih q)
 have cr:∀(l:List (Key×List C)) q,q∈rR l→∃t,q.1= .box t:=by
  intro l
  induction l with
  |nil=>intro q h;cases h
  |cons x l ih=>intro q h;exact(List.mem_cons.1 h).elim (fun e=>⟨_,by rw[e]⟩) (ih q)
 have har:∀(l:List SV) j q,q∈pQ j l→∃t,q.1= .arg t:=by
  intro l
  induction l with
  |nil=>intro j q h;cases h
  |cons x l ih=>intro j q h;exact(List.mem_cons.1 h).elim (fun e=>⟨_,by rw[e]⟩) (ih _ q)
 have asR:∀(r:ah) (l:dr),(∀p∈l,fA r p.1=false)→dS r l={}:=by
  intro r l h
  have:=aaY r l [] h
  rw[List.append_nil]at this
  rw[this];rfl
 cases r with
 |tmp t=>
  show({ v:=(lk t p.slots).getD .undef }:RV)=dS _ (rQ p.slots++(rR p.boxes++pQ 0 p.args))
  rw[asN]
  refine asR _ _ fun q hq=>?_
  rcases List.mem_append.1 hq with h|h
  ·obtain⟨k,e⟩:=cr _ _ h;rw[e];rfl
  ·obtain⟨k,e⟩:=har _ _ _ h;rw[e];rfl
 |box k=>
  show _=dS _ (rQ p.slots++(rR p.boxes++pQ 0 p.args))
  rw[aaY]
  ·rw[asO]
   ·rfl
   ·refine asR _ _ fun q hq=>?_
    obtain⟨k,e⟩:=har _ _ _ hq;rw[e];rfl
  ·intro q hq
   obtain⟨k,e⟩:=hsl _ _ hq;rw[e];rfl
 |arg i=>
  show _=dS _ (rQ p.slots++(rR p.boxes++pQ 0 p.args))
  rw[aaY,aaY,asP]
  ·simp;rfl
  ·intro q hq
   obtain⟨k,e⟩:=cr _ _ hq;rw[e];rfl
  ·intro q hq
   obtain⟨k,e⟩:=hsl _ _ hq;rw[e];rfl
def ajL (i:Nat):Nat→List C→List C→List (Nat×Nat)
 |j,.own _ _ :: l,.d _ :: m=>(i,j) :: ajL i (j+1) l m
 |j,_ :: l,_ :: m=>ajL i (j+1) l m
 |_,_,_=>[]
def asT:Nat→List SV→dr→List (Nat×Nat)
 |_,[],_=>[]
 |i,v :: vs,s=>ajL i 0 v.cells (dS (.arg i) s).v.cells++asT (i+1) vs s
def afp:Nat→List SV→dr→Bool
 |_,[],_=>true
 |i,v :: vs,s=>match afn (dS (.arg i) s).v v with
  |true=>afp (i+1) vs s
  |false=>false
theorem asU:∀(l:List SV) (i:Nat) (s:dr),afp i l s=true→∀j,j<l.length→(cX s (.arg (i+j))).v=l.getD j .undef
 | [],_,_,_,j,h=>by simp at h
 |v :: l,i,s,h,j,hj=>by
  simp only[afp]at h
  split at h
  ·rename_i h1
   cases j with
   |zero=>exact asL h1
   |succ j=>
    have:=asU l (i+1) s h j (by simpa using hj)
    rw[List.getD_cons_succ,←this,show i+(j+1)=i+1+j by omega]
  ·cases h
section
variable {β:Type}
def aaZ:List (List C)→(List (List C)→β)→β
 | [],k=>k []
 |b :: l,k=>xx b fun b=>aaZ l fun l=>k (b :: l)
theorem ajM:∀(l:List (List C)) (k:List (List C)→β),aaZ l k=k l
 | [],_=>rfl
 |a :: l,k=>by rw[aaZ,aaT,ajM l]
def afq:List SV→(List SV→β)→β
 | [],k=>k []
 |v :: l,k=>xy xx xw v fun v=>afq l fun l=>k (v :: l)
theorem asV:∀(l:List SV) (k:List SV→β),afq l k=k l
 | [],_=>rfl
 |a :: l,k=>by rw[afq,afh aaT aff,asV l]
end
def ajN (cfg:aP) (res:List ResultVar) (nb:Nat) (args:List SV) (y:eN):Option gS:=
 match(mO cfg res nb).lZ y.st with
 |some ((v,bs),s,_,_)=>
  let fz:=asT 0 args s
  match afp 0 (gU fz args) s with
  |true=>xy xx xw v fun v=>aaZ bs fun bs=>some { v,boxes:=bs,aB:=fz }
  |false=>none
 |none=>none
theorem asW {cfg:aP} {res:List ResultVar} {args:List SV} {nb:Nat} {y:eN} {r:gS} {e:Ex} (he:e= .normal∨e= .ret) (h:ajN cfg res nb args y=some r) {p:PS} (hp:jz p y):Ends cfg res args nb r e p:=by
 refine⟨he,?_⟩
 unfold ajN at h
 cases hx:(mO cfg res nb).lZ y.st with
 |none=>rw[hx]at h;cases h
 |some x=>
  obtain⟨⟨v,bs⟩,s,f,g⟩:=x
  rw[hx]at h
  simp only at h
  split at h
  ·rename_i hs
   simp only[afh aaT aff,ajM,Option.some.injEq]at h
   subst h
   have:=aCT hx
   rw[←hp.1]at this
   rw[this]
   refine⟨rfl,rfl,fun i hi=>?_⟩
   have:=asU _ 0 s hs i (by rw[ahs];exact hi)
   rwa [Nat.zero_add]at this
  ·cases h
def XE.cfg (E:XE) (I:XI) (Γ:FuncId→fc):aP:={ N:=I.fn.ntmps,T:=E.T,Γ:=fun _ g=>some (Γ g),var:=I.var,res:=I.res,eqs:=E.eqs,dat:=I.dat,bK:=I.bK }
def afr (E:XE) (ih:FuncId→fc) (I:XI) (c:Code) (args:List SV) (boxes:List (List C)):Option gS:=
 let F:VF:={ cfg:=E.cfg I fun g args boxes=>match E.A0 g args boxes with|some r=>some r|none=>ih g args boxes,keys:=I.keys,aQ:=fP boxes.length++I.bk }
 afq args fun args=>aaZ boxes fun boxes=>
 match Nat.ble args.length I.fn.ntmps with
 |true=>xA (aaX (lO args boxes)) fun st=>match jZ F E.fuel c { st,n:=args.length }with
  |some (e,y)=>match e with
   | .exit _=>none
   |_=>ajN F.cfg I.fn.results.toList boxes.length args y
  |none=>none
 |false=>none
def pR (E:XE) (ih:FuncId→fc):FuncId→fc:=fun f args boxes=>
 match E.xE f with
 |none=>none
 |some I=>match I.fn.body with
  |none=>none
  |some c=>afr E ih I c args boxes
def mb (E:XE) (n:Nat):FuncId→fc:=Nat.rec (fun _ _ _=>none) (fun _ ih=>pR E ih) n
structure XOK (P:Program) (X:XE):Prop where
 mix:P.follows .mixedOrders=true
 T:∀t i,lk t X.T=some i→ay P t=some i
 E:∀t sh,lk t X.eqs=some sh→sW P t sh
 A0:∀g,fO P g (X.A0 g)
 xE:∀f I,X.xE f=some I→P.funcs[f]? =some I.fn∧(I.fn.name== "runtime.NumGoroutine")=false
theorem aC5 {P:Program} {E:XE} (h:XOK P E):∀n f,bh P f (mb E n f)∧fO P f (mb E n f):=by
 intro n
 induction n with
 |zero=>intro f;exact⟨(fun args boxes r hr=>by cases hr),(fun args boxes r hr=>by cases hr)⟩
 |succ n ih=>
  intro f
  show bh P f (pR E (mb E n) f)∧fO P f (pR E (mb E n) f)
  cases ht:E.xE f with
  |none=>
   have:pR E (mb E n) f=fun _ _=>none:=by funext a b;simp only[pR,ht]
   rw[this]
   exact⟨(fun args boxes r hr=>by cases hr),(fun args boxes r hr=>by cases hr)⟩
  |some I=>
   cases hb:I.fn.body with
   |none=>
    have:pR E (mb E n) f=fun _ _=>none:=by funext a b;simp only[pR,ht,hb]
    rw[this]
    exact⟨(fun args boxes r hr=>by cases hr),(fun args boxes r hr=>by cases hr)⟩
   |some c=>
    have e:pR E (mb E n) f=afr E (mb E n) I c:=by funext a b;simp only[pR,ht,hb]
    rw[e]
    obtain⟨hf,hname⟩:=h.xE f I ht
    have key:bh P f (afr E (mb E n) I c):=by
     intro args boxes r hr
     let F:VF:={ cfg:=E.cfg I fun g args boxes=>match E.A0 g args boxes with|some r=>some r|none=>mb E n g args boxes,keys:=I.keys,aQ:=fP boxes.length++I.bk }
     have hC:iF P F.cfg:=by
      refine⟨⟨h.T,h.E,fun g l hl=>by cases hl⟩,fun t g G hG=>?_⟩
      have hG':some (fun args boxes=>match E.A0 g args boxes with|some r=>some r|none=>mb E n g args boxes)=some G:=hG
      cases hG'
      intro args boxes r hr
      simp only at hr
      cases h0:E.A0 g args boxes with
      |some r'=>
       rw[h0]at hr
       cases hr
       exact h.A0 g args boxes _ h0
      |none=>
       rw[h0]at hr
       exact(ih g).2 args boxes r hr
     classical
     have:=ayY (f:=f) (V:=F) (F:=fun a b=>if a=args∧b=boxes then some r else none) hf hb h.mix hC rfl ?_
     ·exact this args boxes r (by simp)
     ·intro a b r' h'
      split at h'
      ·rename_i hab
       obtain⟨rfl,rfl⟩:=hab
       cases h'
       unfold afr at hr
       simp only[asV,ajM,afj]at hr
       split at hr
       ·rename_i hlen
        refine⟨Nat.le_of_ble_eq_true hlen,fun i hi=>List.mem_append_left _ (List.mem_of_getElem? (ahr hi)),?_⟩
        cases hx:jZ F E.fuel c { st:=aaX (lO a b),n:=a.length }with
        |none=>
         rw[show jZ _ E.fuel c { st:=aaX (lO a b),n:=a.length }=none from hx]at hr
         cases hr
        |some z=>
         obtain⟨e1,y⟩:=z
         rw[show jZ _ E.fuel c { st:=aaX (lO a b),n:=a.length }=some (e1,y)from hx]at hr
         refine aC2 F c E.fuel _ y e1 hx _ _ ⟨aC4 _,rfl⟩ fun p' hp'=>?_
         cases e1 with
         |exit i=>cases hr
         |normal=>exact asW (.inl rfl) hr hp'
         |ret=>exact asW (.inr rfl) hr hp'
       ·cases hr
      ·cases h'
    exact⟨key,adC hf hname hb key⟩
end
end Go.Vs
namespace Go.Vs
noncomputable section
section
variable {β:Type}
def dfU (b:UInt8) (k:UInt8→β):β:=iO b.toNat fun n=>k (UInt8.ofNat n)
theorem aC7 (b:UInt8) (k:UInt8→β):dfU b k=k b:=by
 unfold dfU
 rw[xq,UInt8.ofNat_toNat]
def dfS (l:List UInt8):(List UInt8→β)→β:=List.rec (fun k=>k []) (fun d _ ih k=>dfU d fun d=>ih fun l=>k (d :: l)) l
theorem aC8:∀(l:List UInt8) (k:List UInt8→β),dfS l k=k l
 | [],_=>rfl
 |a :: l,k=>(aC7 a fun d=>dfS l fun l=>k (d :: l)).trans (aC8 l fun l=>k (a :: l))
mutual
def dfD:D→(D→β)→β
 | .int t n,k=>frI n fun n=>k (.int t n)
 | .bool b,k=>frB b fun b=>k (.bool b)
 | .str s,k=>dfS s fun s=>k (.str s)
 | .nil,k=>k .nil
 | .sl e xs,k=>ajR xs fun xs=>k (.sl e xs)
 | .aK n,k=>k (.aK n)
def asY:List D→(List D→β)→β
 | [],k=>k []
 |d :: l,k=>dfD d fun d=>asY l fun l=>k (d :: l)
def ajR:List (List D)→(List (List D)→β)→β
 | [],k=>k []
 |d :: l,k=>asY d fun d=>ajR l fun l=>k (d :: l)
end
def dfC (c:C) (k:C→β):β:=
 match c with
 | .d x=>dfD x fun x=>k (.d x)
 | .own e xs=>iO e fun e=>ajR xs fun xs=>k (.own e xs)
 |c=>xu c k
def afs:List C→(List C→β)→β
 | [],k=>k []
 |d :: l,k=>dfC d fun d=>afs l fun l=>k (d :: l)
def as0:List (List C)→(List (List C)→β)→β
 | [],k=>k []
 |d :: l,k=>afs d fun d=>as0 l fun l=>k (d :: l)
def dfV (v:SV) (k:SV→β):β:=
 match v with
 | .one c=>dfC c fun c=>k (.one c)
 | .agg cs=>afs cs fun cs=>k (.agg cs)
 | .aJ vs=>frT afs vs fun vs=>k (.aJ vs)
 | .undef=>k .undef
end
def aIx (o:Option gS):Option gS:=match o with
 |some r=>dfV r.v fun v=>as0 r.boxes fun bs=>frL r.aB fun fz=>some { v,boxes:=bs,aB:=fz }
 |none=>none
def as1 {α:Type} (n:Nat):List (List α)→List α:=Nat.rec (fun l=>match l with| []=>[]|a :: _=>a) (fun _ ih l=>match l with| []=>[]|_ :: r=>ih r) n
def ajS {α:Type} (t:Nat) (l:List (List (Nat×α))):Option α:=xlk t (as1 (Nat.div t 8) l)
def cN {α:Type} (p:α→Prop):List α→Prop
 | []=>True
 |a :: r=>p a∧cN p r
theorem cN.mem {α:Type} {p:α→Prop}:∀{l:List α},cN p l→∀x∈l,p x
 |_ :: _,h,_,.head _=>h.1
 |_ :: _,h,_,.tail _ hx=>cN.mem h.2 _ hx
theorem as2 {α:Type} {p:α→Prop}:∀(n:Nat) (l:List (List α)),cN (cN p) l→cN p (as1 n l)
 |0,[],_=>trivial
 |0,a :: _,h=>h.1
 |n+1,[],_=>trivial
 |n+1,_ :: r,h=>as2 n r h.2
theorem as3 {α:Type} {p:Nat×α→Prop} {t:Nat} {a:α} {l:List (List (Nat×α))} (h:cN (cN p) l) (hx:ajS t l=some a):p (t,a):=cN.mem (as2 _ l h) _ (asM hx)
def xF:List SV→List SV→Bool
 | [],[]=>true
 |a :: l,b :: m=>match afn a b with|true=>xF l m|false=>false
 |_,_=>false
theorem as4:∀{a b:List SV},xF a b=true→a=b
 | [],[],_=>rfl
 |a :: l,b :: m,h=>by
  simp only[xF]at h
  split at h
  ·rename_i h1;rw[asL h1,as4 h]
  ·cases h
 | [],_ :: _,h=>by simp[xF]at h
 |_ :: _,[],h=>by simp[xF]at h
def xG:List (List C)→List (List C)→Bool
 | [],[]=>true
 |a :: l,b :: m=>match uB a b with|true=>xG l m|false=>false
 |_,_=>false
theorem as5:∀{a b:List (List C)},xG a b=true→a=b
 | [],[],_=>rfl
 |a :: l,b :: m,h=>by
  simp only[xG]at h
  split at h
  ·rename_i h1;rw[ajK h1,as5 h]
  ·cases h
 | [],_ :: _,h=>by simp[xG]at h
 |_ :: _,[],h=>by simp[xG]at h
structure Fact where
 f:FuncId
 args:List SV
 boxes:List (List C)
 r:gS
def uC (g:FuncId) (args:List SV) (boxes:List (List C)):List Fact→Option gS
 | []=>none
 |x :: l=>match Nat.beq g x.f with
  |true=>match xF args x.args with
   |true=>match xG boxes x.boxes with
    |true=>some x.r
    |false=>uC g args boxes l
   |false=>uC g args boxes l
  |false=>uC g args boxes l
def memo (l:List Fact) (A:FuncId→fc):FuncId→fc:=fun g args boxes=>
 match uC g args boxes l with
 |some r=>some r
 |none=>A g args boxes
def gq (P:Program) (x:Fact):Prop:=∃F,fO P x.f F∧F x.args x.boxes=some x.r
theorem as6 {P:Program} {g:FuncId} {args:List SV} {boxes:List (List C)} {r:gS}:∀{l:List Fact},(∀x∈l,gq P x)→uC g args boxes l=some r→∃F,fO P g F∧F args boxes=some r
 | [],_,h=>by cases h
 |x :: l,hl,h=>by
  have ih:uC g args boxes l=some r→∃F,fO P g F∧F args boxes=some r:=fun h=>as6 (fun y hy=>hl y (List.mem_cons_of_mem _ hy)) h
  simp only[uC]at h
  split at h
  ·rename_i h1
   split at h
   ·rename_i h2
    split at h
    ·rename_i h3
     cases h
     rw[Nat.eq_of_beq_eq_true h1,as4 h2,as5 h3]
     exact hl x (List.mem_cons_self ..)
    ·exact ih h
   ·exact ih h
  ·exact ih h
theorem rS {P:Program} {l:List Fact} {A:FuncId→fc} (hA:∀g,fO P g (A g)) (hl:∀x∈l,gq P x) (g:FuncId):fO P g (memo l A g):=by
 intro args boxes r h
 unfold memo at h
 split at h
 ·rename_i r' h'
  cases h
  obtain⟨F,h1,h2⟩:=as6 hl h'
  exact h1 args boxes _ h2
 ·exact hA g args boxes r h
theorem iP {P:Program} {E:XE} (h:XOK P E) {n:Nat} {x:Fact} (hx:mb E n x.f x.args x.boxes=some x.r):gq P x:=⟨_,(aC5 h n x.f).2,hx⟩
end
end Go.Vs
namespace Go.Ve
open Go.Vs
noncomputable section
def aDa (f:FuncId) (S:aF) (x:S.X) (y:S.Y):Fact:={ f:=f,args:=(S.eo x).map ai,boxes:=(S.dR x).map aq,r:={ v:=ai (S.out y (S.flag y)).1,boxes:=(fy (S.dR x) (S.out y (S.flag y)).2).map aq,aB:=S.aB } }
theorem as7 {P:Program} {f:FuncId} {S:aF} {hok:S.ok=true} {sh:S.X→Option S.Y} (h:∀x y,sh x=some y→gq P (aDa f S x y)):bq P (f,S.az hok sh):=by
 show fO P f (S.F sh)
 intro args boxes r hF
 unfold aF.F at hF
 split at hF
 ·rename_i x hx
  split at hF
  ·rename_i y hy
   cases hF
   obtain⟨rfl,rfl⟩:=aF.hO S hok hx
   obtain⟨F,h1,h2⟩:=h x y hy
   exact h1 _ _ _ h2
  ·cases hF
 ·cases hF
end
end Go.Ve
namespace Go.Fn
open Classical in
noncomputable def nr {α β:Type} (a:α) (b:β) (x:α):Option β:=if x=a then some b else none
theorem aft {α β:Type} {a x:α} {b y:β} (h:nr a b x=some y):x=a∧y=b:=by
 unfold nr at h
 split at h
 ·rename_i e;cases h;exact⟨e,rfl⟩
 ·cases h
theorem aa0 {α β:Type} (a:α) (b:β):nr a b a=some b:=by unfold nr;rw[if_pos rfl]
theorem uD {α β:Type} {a x:α} (b:β) (h:x≠a):nr a b x=none:=by unfold nr;rw[if_neg h]
def xH {β:Type} (p q:Option β):Option β:=match p with|some y=>some y|none=>q
theorem ajT {β:Type} {p q:Option β} {y:β} (h:xH p q=some y):p=some y∨q=some y:=by
 cases p with
 |none=>exact .inr h
 |some z=>exact .inl h
end Go.Fn
namespace Go.Vs
def uK:Option TypeDesc→Sc→Bool
 |some (.int k'),.int k=>decide (k'=k)
 |some .bool,.bool=>true
 |some .string,.str=>true
 |_,_=>false
def xY (P:Program):List Field→List Sc→Nat→Bool
 | [],[],_=>true
 |f :: fs,k :: sh,j=>f.name != "_" &&f.offset==j&&uK (P.underlying f.type) k&&xY P fs sh (j+1)
 |_,_,_=>false
theorem aj1 {w:World} {Z:Nat→Prop} {us:List Value} {j:Nat} {d:D} {ds:List D} (h:DL w Z (us.drop j) (d :: ds)):∃v,us[j]? =some v∧bL w Z d v∧DL w Z (us.drop (j+1)) ds:=by
 have e:(us.drop j)[0]? =us[j]? :=by rw[List.getElem?_drop,Nat.add_zero]
 have e2:us.drop (j+1)=(us.drop j).drop 1:=by rw[List.drop_drop]
 rw[←e,e2]
 generalize us.drop j=l at h
 match l,h with
 |v :: l,h=>exact⟨v,rfl,h.1,h.2⟩
theorem as8 {P:Program} {w:World} {Z:Nat→Prop} (d:Nat) (xs ys:Array Value):∀(fs:List Field) (sh:List Sc) (j:Nat) (ds es:List D),xY P fs sh j=true→bD sh ds=true→bD sh es=true→
  DL w Z (xs.toList.drop j) ds→DL w Z (ys.toList.drop j) es→(Op.eqFields (d+1) xs ys fs).run P w= .ok (cw ds es) w
 | [],sh,j,ds,es,hf,h1,h2,_,_=>by
   cases sh with
   |cons=>cases hf
   |nil=>
    cases ds with
    |cons=>cases h1
    |nil=>
     cases es with
     |cons=>cases h2
     |nil=>simp[Op.eqFields,cw]
 |f :: fs,sh,j,ds,es,hf,h1,h2,h3,h4=>by
  cases sh with
  |nil=>cases hf
  |cons k sh=>
   simp only[xY,Bool.and_eq_true,bne_iff_ne,beq_iff_eq]at hf
   obtain⟨⟨⟨f1,f2⟩,f3⟩,f4⟩:=hf
   cases ds with
   |nil=>cases k<;>cases h1
   |cons a ds=>
    cases es with
    |nil=>cases k<;>cases h2
    |cons b es=>
     obtain⟨u,u1,u2,u3⟩:=aj1 h3
     obtain⟨v,v1,v2,v3⟩:=aj1 h4
     have hu:xs[f.offset]? =some u:=by rw[f2];simpa using u1
     have hv:ys[f.offset]? =some v:=by rw[f2];simpa using v1
     have key:P.plainKey f.type=true→(∀(r:Bool),r=gT a b→(Op.equalIn (d+1) f.type u v).run P w= .ok r w)→bD sh ds=true→bD sh es=true→(Op.eqFields (d+1) xs ys (f :: fs)).run P w= .ok (cw (a :: ds) (b :: es)) w:=by
      intro hp hr g1 g2
      have ih:=as8 d xs ys fs sh (j+1) ds es f4 g1 g2 u3 v3
      simp only[Op.eqFields,ne_eq,f1,not_false_eq_true,if_true,Sem.run_bind,run_part_plain w hp hu,run_part_plain w hp hv,Result.andThen_ok,hr _ rfl]
      cases hq:gT a b with
      |true=>simp[cw,hq,ih]
      |false=>simp[cw,hq]
     cases k with
     |int k=>
      cases a<;>simp only[bD,Bool.and_eq_true,decide_eq_true_eq,Bool.false_eq_true]at h1
      cases b<;>simp only[bD,Bool.and_eq_true,decide_eq_true_eq,Bool.false_eq_true]at h2
      obtain⟨rfl,g1⟩:=h1
      obtain⟨e,g2⟩:=h2
      subst e
      cases hty:P.underlying f.type with
      |none=>rw[hty]at f3;cases f3
      |some ty=>
       rw[hty]at f3
       cases ty<;>first|(simp only[uK,Bool.false_eq_true]at f3;done)|skip
       refine key (by simp[Program.plainKey,hty]) (fun r hr=>?_) g1 g2
       have u2:u=_:=u2
       have v2:v=_:=v2
       subst hr;rw[u2,v2,run_equalIn_int w d f.type _ _ _ _ hty];rfl
     |bool=>
      cases a<;>simp only[bD,Bool.false_eq_true]at h1
      cases b<;>simp only[bD,Bool.false_eq_true]at h2
      cases hty:P.underlying f.type with
      |none=>rw[hty]at f3;cases f3
      |some ty=>
       rw[hty]at f3
       cases ty<;>first|(simp only[uK,Bool.false_eq_true]at f3;done)|skip
       refine key (by simp[Program.plainKey,hty]) (fun r hr=>?_) h1 h2
       have u2:u=_:=u2
       have v2:v=_:=v2
       subst hr;rw[u2,v2,run_equalIn_bool' w d f.type _ _ hty];rfl
     |str=>
      cases a<;>simp only[bD,Bool.false_eq_true]at h1
      cases b<;>simp only[bD,Bool.false_eq_true]at h2
      cases hty:P.underlying f.type with
      |none=>rw[hty]at f3;cases f3
      |some ty=>
       rw[hty]at f3
       cases ty<;>first|(simp only[uK,Bool.false_eq_true]at f3;done)|skip
       refine key (by simp[Program.plainKey,hty]) (fun r hr=>?_) h1 h2
       have u2:u=_:=u2
       have v2:v=_:=v2
       subst hr;rw[u2,v2,run_equalIn_string w d f.type _ _ hty,ByteArray.toList_eq,ByteArray.toList_eq]
       simp only[gT]
       congr 1
       rw[Bool.eq_iff_iff]
       simp
theorem as9 {P:Program} {w:World} {Z:Nat→Prop} (em:Bool) (d:Nat) (xs:Array Value):∀(fs:List Field) (sh:List Sc) (j:Nat) (ds:List D),xY P fs sh j=true→bD sh ds=true→
  DL w Z (xs.toList.drop j) ds→(forIn (m:=Sem) fs PUnit.unit fun f _=>do
   if f.name≠ "_" then do
    Instr.checkKey em (d+1) f.type (←part f.type xs f.offset)
    pure (ForInStep.yield PUnit.unit)
   else pure (ForInStep.yield PUnit.unit)).run P w= .ok PUnit.unit w
 | [],sh,j,ds,hf,h1,_=>by simp
 |f :: fs,sh,j,ds,hf,h1,h3=>by
  cases sh with
  |nil=>cases hf
  |cons k sh=>
   simp only[xY,Bool.and_eq_true,bne_iff_ne,beq_iff_eq]at hf
   obtain⟨⟨⟨f1,f2⟩,f3⟩,f4⟩:=hf
   cases ds with
   |nil=>cases k<;>cases h1
   |cons a ds=>
    obtain⟨u,u1,u2,u3⟩:=aj1 h3
    have hu:xs[f.offset]? =some u:=by rw[f2];simpa using u1
    have key:P.plainKey f.type=true→(Instr.checkKey em (d+1) f.type u).run P w= .ok () w→bD sh ds=true→(forIn (m:=Sem) (f :: fs) PUnit.unit fun f _=>do
      if f.name≠ "_" then do
       Instr.checkKey em (d+1) f.type (←part f.type xs f.offset)
       pure (ForInStep.yield PUnit.unit)
      else pure (ForInStep.yield PUnit.unit)).run P w= .ok PUnit.unit w:=by
     intro hp hr g1
     have ih:=as9 em d xs fs sh (j+1) ds f4 g1 u3
     rw[List.forIn_cons]
     simp only[ne_eq,f1,not_false_eq_true,if_true,Sem.run_bind,run_part_plain w hp hu,Result.andThen_ok,hr,Sem.run_pure]
     exact ih
    cases k with
    |int k=>
     cases a<;>simp only[bD,Bool.and_eq_true,decide_eq_true_eq,Bool.false_eq_true]at h1
     cases hty:P.underlying f.type with
     |none=>rw[hty]at f3;cases f3
     |some ty=>
      rw[hty]at f3
      cases ty<;>first|(simp only[uK,Bool.false_eq_true]at f3;done)|skip
      refine key (by simp[Program.plainKey,hty]) ?_ h1.2
      have u2:u=_:=u2
      rw[u2]
      simp[Instr.checkKey,run_underlying hty]
    |bool=>
     cases a<;>simp only[bD,Bool.false_eq_true]at h1
     cases hty:P.underlying f.type with
     |none=>rw[hty]at f3;cases f3
     |some ty=>
      rw[hty]at f3
      cases ty<;>first|(simp only[uK,Bool.false_eq_true]at f3;done)|skip
      refine key (by simp[Program.plainKey,hty]) ?_ h1
      have u2:u=_:=u2
      rw[u2]
      simp[Instr.checkKey,run_underlying hty]
    |str=>
     cases a<;>simp only[bD,Bool.false_eq_true]at h1
     cases hty:P.underlying f.type with
     |none=>rw[hty]at f3;cases f3
     |some ty=>
      rw[hty]at f3
      cases ty<;>first|(simp only[uK,Bool.false_eq_true]at f3;done)|skip
      refine key (by simp[Program.plainKey,hty]) ?_ h1
      have u2:u=_:=u2
      rw[u2]
      simp[Instr.checkKey,run_underlying hty]
theorem ji {P:Program} {t:TypeId} {sh:List Sc} (h1:P.underlying t=some (.struct (P.fieldsOf t))) (h2:P.stoodInHeld t=false) (h3:P.eqGuardType P.depth t=false) (h4:xY P (P.fieldsOf t).toList sh 0=true):sW P t sh:=by
 have hE:∀(w:World) (Z:Nat→Prop) (xs ys:Array Value) (ds es:List D),DL w Z xs.toList ds→DL w Z ys.toList es→bD sh ds=true→bD sh es=true→(Op.equalIn 10000 t (.agg xs) (.agg ys)).run P w= .ok (cw ds es) w:=by
  intro w Z xs ys ds es hx hy f1 f2
  rw[show(10000:Nat)=9998+1+1 from rfl,run_equalIn_struct w (9998+1) t xs ys h1 h2]
  exact as8 9998 xs ys _ sh 0 ds es h4 f1 f2 (by simpa using hx) (by simpa using hy)
 refine⟨?_,?_,?_,⟨_,h1⟩⟩
 ·intro w Z xs ys ds es x y hx hy f1 f2 op hop
  have hE:=hE w Z xs ys ds es hx hy f1 f2
  rw[Sem.run_bind,run_eqGuard_agg w op t x y xs ys h3,Result.andThen_ok]
  rcases hop with rfl|rfl
  ·rw[run_eql_struct,hE];rfl
  ·rw[run_neq_struct,hE];rfl
 ·intro w ds es f1 f2
  exact hE w (fun _=>True) _ _ ds es (by simpa using qt f1) (by simpa using qt f2) f1 f2
 ·intro w ds em f1
  rw[show(10000:Nat)=9998+1+1 from rfl]
  unfold Instr.checkKey
  simp only[Sem.run_bind,run_underlying h1,Result.andThen_ok,oW]
  have:=as9 (P:=P) (w:=w) (Z:=fun _=>True) em 9998 (ds.map eX).toArray (P.fieldsOf t).toList sh 0 ds h4 f1 (by simpa using qt f1)
  simp only[←Array.forIn_toList]at this ⊢
  have h9:(9998+1:Nat)=9999:=rfl
  rw[h9]at this
  rw[this]
  rfl
end Go.Vs
namespace Go.Vs
def att:D→Bool
 | .sl _ _=>false
 |_=>true
def atu:C→Bool
 | .d x=>att x
 |_=>false
def scalar (v:SV):Bool:=v.cells.all atu
theorem aDT {w w':World} {Z Z':Nat→Prop} {d:D} {v:Value} (hd:att d=true) (h:bL w Z d v):bL w' Z' d v:=by
 cases d<;>first|(cases hd;done)|exact h
theorem aDU {K K':Ctx} {β β':Key→Option Nat} {Z Z':Nat→Prop} {s s':St} {a a':Act} {w w':World} {c:C} {u:Value} (hc:atu c=true) (h:ax K β Z s a w c u):ax K' β' Z' s' a' w' c u:=by
 cases c<;>first|(cases hc;done)|exact aDT hc h
section
variable {P:Program} {w:World} {vals:Array Value} {β:Key→Option Nat} {ω:Nat→Option bX} {Z:Nat→Prop} {args:List SV}
theorem akF (hent:Rel (cR P 0 w vals β ω Z) β ω Z (dI args []) { tmps:= #[],defers:=[] } w) (hok:args.all kF=true) {w':World} {v:Value} {r:gS} (hos:w'.os=w.os) (sM:w'.tape=w.tape) (hout:w'.output=w.output)
  (hsize:w.heap.size≤w'.heap.size) (hframe:∀b,b<w.heap.size→ω b=none→w'.heap[b]? =w.heap[b]?) {K₀:Ctx} {β₀:Key→Option Nat} {Z₀:Nat→Prop} {s₀:St} {a₀:Act} {w₀:World}
  (hv:aY (ax K₀ β₀ Z₀ s₀ a₀ w₀) v r.v) (hsc:scalar r.v=true) (hb:r.boxes=[]) (hf:r.aB=[]):
  Rel (cR P 1 w vals β ω Z) (fun _=>none) (fun _=>none) Z (dJ args r) { tmps:= #[v],defers:=[] } w':=by
 have hzf:∀b,Z b→w'.heap[b]? =w.heap[b]? :=fun b hz=>hframe b (hent.dH b hz) (by
  cases cy:ω b with
  |none=>rfl
  |some g=>exact absurd hz (hent.cZ b g cy).1)
 have hkeys:=ahw hent
 have zq:∀k,(dJ args r (.box k)).v= .undef:=by
  intro k
  cases k with
  |inb i=>simp[dJ,hb]
  |loc t=>rfl
  |esc t i=>rfl
 have v8:∀i,(dJ args r (.arg i)).v=args.getD i .undef:=by intro i;simp[dJ,hf,gU]
 refine⟨rfl,⟨rfl,hent.defers.2⟩,hos,sM,hout,hsize,?_,fun b hz=>Nat.lt_of_lt_of_le (hent.dH b hz) hsize,fun _ h=>h,fun b hz=>.inl hz,?_,?_,?_,?_,?_,?_,?_⟩
 ·intro b hlt hE
  exact hframe b hlt (by simpa[cR]using hE)
 ·intro t
  cases t with
  |zero=>exact aY.mono (fun c u hc hr=>aDU (List.all_eq_true.1 hsc c hc) hr) hv
  |succ t=>trivial
 ·intro i
  rw[v8]
  refine aY.lD (fun j c u hc hu hr=>?_) (hent.args i)
  have aDV:=ahv hok hc
  cases c with
  |d x=>exact bL.mono (fun b hz=>⟨hzf b hz,hz⟩) _ _ hr
  |own e xs=>
   by_cases hm:aW e=true
   ·obtain⟨b,rfl,h2⟩:=(ax.jL hm).1 hr
    obtain⟨g1,g2⟩:=hent.fT i j e xs _ b hc hu (jn ..)
    exact(ax.jL hm).2 ⟨b,rfl,cH.mono (fun b hz=>⟨hzf b hz,hz⟩) e xs _ (hframe _ g1 (by simpa[cR]using g2)) h2⟩
   have hm:aW e=false:=by simpa using hm
   obtain⟨ad,cap,h1,h2,h3,h4⟩:=(ax.gK hm).1 hr
   subst h1
   obtain⟨g1,g2⟩:=hent.fT i j e xs _ ad.block hc hu rfl
   exact(ax.gK hm).2 ⟨ad,cap,rfl,h2,h3,cq.mono (fun b hz=>⟨hzf b hz,hz⟩) e xs _ _ (hframe _ g1 (by simpa[cR]using g2)) h4⟩
  |ptr k off=>
   obtain⟨b,g1,_⟩:=hr
   obtain⟨i,hi,_⟩:=hkeys k b g1
   simp at hi
  |bW f caps=>
   obtain⟨vs,g1,g2⟩:=hr
   refine⟨vs,g1,g2.gV fun u p hp ⟨b,q1,_⟩=>?_⟩
   obtain⟨i,hi,_⟩:=hkeys p.1 b q1
   simp at hi
  |_=>cases aDV
 ·intro k
  rw[zq]
  exact rfl
 ·intro q j e xs u1 b1 hr hc hh aM
  exfalso
  cases q with
  |tmp t=>
   cases t with
   |zero=>
    have hm:C.own e xs∈r.v.cells:=List.mem_of_getElem? hc
    have:=List.all_eq_true.1 hsc _ hm
    cases this
   |succ t=>simp[dJ,SV.cells]at hc
  |arg i=>simp[ah.isArg]at hr
  |box k=>rw[zq]at hc;simp[SV.cells]at hc
 ·intro i j e xs u1 b1 hc hh aM
  rw[v8]at hc
  exact hent.fT i j e xs u1 b1 hc hh aM
 ·intro b g h;cases h
 ·intro k b h
  obtain⟨i,hi,_⟩:=hkeys k b h
  simp at hi
end
end Go.Vs
