/- Chapter 10, plain. -/
import Derived.Test.YtfopaakmgogpiaaGreatDoorEC
import Derived.Test.YtfopaakmgogpiaaGreatDoorVB
import Derived.Test.YtfopaakmgogpiaaGreatDoorV9
set_option linter.unusedVariables false
set_option linter.unusedSimpArgs false
set_option maxRecDepth 100000
set_option maxHeartbeats 4000000
namespace Go.Z
open Go Go.Abs Go.W
structure SB (n:Nat)(r:qv):Prop where
 L:r.lots.length≤n
 P:r.products.length≤n
 U:r.units.length≤n
 D:∀p∈r.products,p.docs.length≤n∧p.draft.needs.length≤n∧p.draft.tests.length≤n∧∀d∈p.docs,d.needs.length≤n∧d.tests.length≤n
 N:∀u∈r.units,u.uses.length≤n∧u.results.length≤n
theorem SB.mono {n m:Nat}{r:qv}(h:SB n r)(hm:n≤m):SB m r:=
 ⟨Nat.le_trans h.L hm,Nat.le_trans h.P hm,Nat.le_trans h.U hm,fun p hp=>⟨Nat.le_trans (h.D p hp).1 hm,Nat.le_trans (h.D p hp).2.1 hm,Nat.le_trans (h.D p hp).2.2.1 hm,fun d hd=>⟨Nat.le_trans ((h.D p hp).2.2.2 d hd).1 hm,Nat.le_trans ((h.D p hp).2.2.2 d hd).2 hm⟩⟩,fun u hu=>⟨Nat.le_trans (h.N u hu).1 hm,Nat.le_trans (h.N u hu).2 hm⟩⟩
theorem SB.empty:SB 0 qbe:=⟨Nat.le_refl _,Nat.le_refl _,Nat.le_refl _,fun p (hp:p∈([]:List jd))=>absurd hp List.not_mem_nil,fun u (hu:u∈([]:List qz))=>absurd hu List.not_mem_nil⟩
theorem SB.gb {n:Nat}{r:qc}(h:SB n r.er)(hn:n≤BB):GB r:=by
 refine⟨Nat.le_trans h.L hn,?_,?_,fun p hp=>?_,fun u hu=>?_⟩
 ·have:=h.P;rw[qfl,List.length_map]at this;exact Nat.le_trans this hn
 ·have:=h.U;rw[qgw,List.length_map]at this;exact Nat.le_trans this hn
 ·obtain⟨h1,h2,h3,h4⟩:=h.D p.er (by rw[qfl];exact List.mem_map_of_mem hp)
  have h1':(p.docs.getD []).length≤n:=by
   have:((p.docs.getD []).map qr.er).length≤n:=h1
   rwa [List.length_map]at this
  refine⟨Nat.le_trans h1' hn,Nat.le_trans h2 hn,Nat.le_trans h3 hn,fun d hd=>?_⟩
  obtain⟨h5,h6⟩:=h4 d.er (List.mem_map_of_mem hd)
  exact⟨Nat.le_trans h5 hn,Nat.le_trans h6 hn⟩
 ·obtain⟨h1,h2⟩:=h.N u.er (by rw[qgw];exact List.mem_map_of_mem hu)
  exact⟨Nat.le_trans h1 hn,Nat.le_trans h2 hn⟩
theorem SB.setProd {n:Nat}{r:qv}(h:SB n r){i:Nat}{p:jd}(hp:p.docs.length≤n∧p.draft.needs.length≤n∧p.draft.tests.length≤n∧∀d∈p.docs,d.needs.length≤n∧d.tests.length≤n):SB n (setProd r i p):=
 ⟨h.L,by show(r.products.set i p).length≤n;rw[List.length_set];exact h.P,h.U,fun q hq=>by
  rcases qev hq with hq|rfl
  ·exact h.D q hq
  ·exact hp,h.N⟩
theorem SB.setUnit {n:Nat}{r:qv}(h:SB n r){i:Nat}{u:qz}(hu:u.uses.length≤n∧u.results.length≤n):SB n (setUnit r i u):=
 ⟨h.L,h.P,by show(r.units.set i u).length≤n;rw[List.length_set];exact h.U,h.D,fun q hq=>by
  rcases qev hq with hq|rfl
  ·exact h.N q hq
  ·exact hu⟩
theorem SB.setLot {n:Nat}{r:qv}(h:SB n r){i:Nat}{x:qj}:SB n (setLot r i x):=
 ⟨by show(r.lots.set i x).length≤n;rw[List.length_set];exact h.L,h.P,h.U,h.D,h.N⟩
theorem qz1 {α:Type}{p:α→Bool}{x:α}{l:List α}{n:Nat}(h:l.length≤n):(qbs p x l).length≤n+1:=by
 unfold qbs
 split
 ·rw[List.length_set];omega
 ·rw[List.length_append,List.length_singleton];omega
theorem q77 {w:Int→Int}{l:List qm}{k:List UInt8}{x:Int}{n:Nat}(h:l.length≤n):(qgg w l k x).length≤n+1:=by
 unfold qgg
 split
 ·split
  ·rw[List.length_set];omega
  ·omega
 ·rw[List.length_append,List.length_singleton];omega
theorem jec {w:Int→Int}{n:Nat}{r r':qv}{e:jg}(h:SB n r)(ha:z8 w r e=.ok r'):SB (n+1) r':=by
 have h':=h.mono (Nat.le_succ n)
 unfold z8 at ha
 split at ha
 ·unfold qgr at ha
  split at ha
  ·repeat' split at ha
   all_goals first|(cases ha;done)|skip
   cases ha
   exact⟨by show(r.lots++[_]).length≤_;rw[List.length_append,List.length_singleton];have:=h.L;omega,h'.P,h'.U,h'.D,h'.N⟩
  split at ha
  ·repeat' split at ha
   all_goals first|(cases ha;done)|skip
   cases ha
   refine⟨h'.L,by show(r.products++[_]).length≤_;rw[List.length_append,List.length_singleton];have:=h.P;omega,h'.U,fun p hp=>?_,h'.N⟩
   rcases List.mem_append.1 hp with hp|hp
   ·exact h'.D p hp
   ·simp at hp;subst hp;simp
  ·split at ha
   ·cases ha
   repeat' split at ha
   all_goals first|(cases ha;done)|skip
   cases ha
   refine⟨h'.L,h'.P,by show(r.units++[_]).length≤_;rw[List.length_append,List.length_singleton];have:=h.U;omega,h'.D,fun p hp=>?_⟩
   rcases List.mem_append.1 hp with hp|hp
   ·exact h'.N p hp
   ·simp at hp;subst hp;simp
 split at ha
 ·unfold qb8 at ha
  split at ha
  ·cases ha
  split at ha
  ·cases ha
  rename_i p hp
  have hD:=h.D p (List.mem_of_getElem? hp)
  have hD':=h'.D p (List.mem_of_getElem? hp)
  repeat' split at ha
  all_goals first|(cases ha;done)|skip
  ·cases ha
   refine h'.setProd ⟨hD'.1,?_,hD'.2.2.1,hD'.2.2.2⟩
   show(qbn p.draft.needs _ _).length≤_
   unfold qbn
   split
   ·exact Nat.le_trans (List.length_filter_le _ _) hD'.2.1
   ·exact qz1 hD.2.1
  ·cases ha
   exact h'.setProd ⟨hD'.1,hD'.2.1,qz1 hD.2.2.1,hD'.2.2.2⟩
  ·cases ha
   refine h'.setProd ⟨by show(p.docs++[_]).length≤_;rw[List.length_append,List.length_singleton];have:=hD.1;omega,hD'.2.1,hD'.2.2.1,fun d hd=>?_⟩
   rcases List.mem_append.1 hd with hd|hd
   ·exact hD'.2.2.2 d hd
   ·simp at hd;subst hd;exact⟨hD'.2.1,hD'.2.2.1⟩
 split at ha
 ·unfold qln at ha
  split at ha
  ·cases ha
  split at ha
  ·cases ha
  repeat' split at ha
  all_goals first|(cases ha;done)|skip
  all_goals (cases ha;exact h'.setLot)
 ·unfold qe2 at ha
  split at ha
  ·cases ha
  split at ha
  ·cases ha
  rename_i u hu
  have hN:=h.N u (List.mem_of_getElem? hu)
  have hN':=h'.N u (List.mem_of_getElem? hu)
  split at ha
  ·unfold qpk at ha
   split at ha
   ·cases ha
   split at ha
   ·cases ha
   repeat' split at ha
   all_goals first|(cases ha;done)|skip
   cases ha
   exact h'.setLot.setUnit ⟨q77 hN.1,hN'.2⟩
  split at ha
  ·unfold qkv at ha
   split at ha
   ·cases ha
   split at ha
   ·cases ha
   rename_i v hv
   have hV':=h'.N v (List.mem_of_getElem? hv)
   repeat' split at ha
   all_goals first|(cases ha;done)|skip
   cases ha
   exact(h'.setUnit (u:={ u with partner:=v.name }) ⟨hN'.1,hN'.2⟩).setUnit (u:={ v with partner:=u.name }) ⟨hV'.1,hV'.2⟩
  split at ha
  ·repeat' split at ha
   all_goals first|(cases ha;done)|skip
   cases ha
   exact h'.setUnit ⟨hN'.1,by show(u.results++[_]).length≤_;rw[List.length_append,List.length_singleton];have:=hN.2;omega⟩
  split at ha
  ·split at ha
   ·cases ha
   split at ha
   ·cases ha
   split at ha
   ·cases ha
   ·cases ha
    exact h'.setUnit ⟨hN'.1,hN'.2⟩
  split at ha
  ·split at ha
   ·cases ha
   ·cases ha
    exact h'.setUnit ⟨hN'.1,hN'.2⟩
  ·split at ha
   ·cases ha
   ·cases ha
    exact h'.setUnit ⟨hN'.1,hN'.2⟩
theorem jf4 {w:Int→Int}{n:Nat}{r r':qv}{e:jg}(h:SB n r)(ha:after w r e=.ok r'):SB (n+1) r':=by
 unfold after at ha
 split at ha
 ·cases ha
 split at ha
 ·cases ha
 rename_i r1 h1
 cases ha
 have:=jec h h1
 exact⟨this.L,this.P,this.U,this.D,this.N⟩
def HB (h:qb7):Prop:=∀(j:Nat) (r:qv),h.2[j]?=some r→SB j r
theorem HB.empty:HB ([],[qbe]):=by
 intro j r hr
 cases j with
 |zero=>simp at hr;subst hr;exact SB.empty
 |succ j=>simp at hr
theorem HB.accept {w:Int→Int}{h h':qb7}{k:Int}{e:jg}(o:je w h)(b:HB h)(ha:Go.W.accept w h k e=.ok h'):HB h':=by
 unfold Go.W.accept at ha
 split at ha
 ·cases ha
 split at ha
 ·split at ha
  ·cases ha
  split at ha
  ·cases ha
  ·cases ha
   intro j r hr
   simp only[List.getElem?_dropLast]at hr
   split at hr
   ·exact b j r hr
   ·cases hr
 ·split at ha
  ·cases ha
  ·rename_i r' h1
   cases ha
   intro j r hr
   have hn:=o.now
   have hlen:=o.len
   simp only at hr
   by_cases hj:j<h.2.length
   ·rw[List.getElem?_append_left hj]at hr;exact b j r hr
   ·rw[List.getElem?_append_right (by omega)]at hr
    have hj2:j=h.1.length+1:=by
     cases hd:j-h.2.length with
     |zero=>omega
     |succ d=>rw[hd]at hr;simp at hr
    subst hj2
    rw[hlen,Nat.sub_self]at hr
    simp at hr
    subst hr
    exact jf4 (b _ _ hn) h1
end Go.Z
namespace Go.Z
open Go Go.Abs Go.W
def qqp (n:Nat)(h:qb7):Option HV→Prop
 |none=>h=([],[qbe])∧n=0
 |some v=>v.lc≤v.cs.length∧v.ls≤v.ss.length∧h.1=(v.cs.take v.lc).map ql.er∧h.2=(v.ss.take v.ls).map qc.er∧v.ev.length=n∧v.lc≤n
def jd9 (n:Nat)(h:qb7)(c:Int)(s:Option HV):Except Int qb7→Prop
 | .error x=>c=x∧x≠0∧qqp n h s
 | .ok h'=>c=0∧qqp (n+1) h' s
theorem qub {α:Type}{xs:List α}{len:Nat}{x:α}(h1:len≤xs.length)(h2:len≤BB):qhq xs len x=some (xs.take len++[x]):=by
 unfold qhq
 rw[if_pos ⟨h1,by unfold BB at h2;omega⟩]
theorem qs2 {n:Nat}(h:n≤BB):j6 .i64 ((n:Int)+1)=((n+1:Nat):Int):=qaj (by unfold BB at h;omega)
theorem qo4 {n:Nat}(h:n≤BB)(h0:0<n):j6 .i64 ((n:Int)-1)=((n-1:Nat):Int):=by
 obtain⟨m,rfl⟩:∃m,n=m+1:=⟨n-1,by omega⟩
 have:=qz7 (i:=m) (by unfold BB at h;omega)
 rw[this];rfl
theorem qtt {α:Type}{l:List α}{k:Nat}(h:k≤l.length):(l.take k).dropLast=l.take (k-1):=by
 rw[List.dropLast_eq_take,List.length_take,List.take_take]
 congr 1;omega
theorem q7f {a b:Int}:f51 (some [a,b])=some (qbr [a,b]):=qbj (by simp[SM])
theorem jg9 {e:ql}(hc:yx e.er=0):∃c s',qjy e=some (c,s')∧jd9 0 ([],[qbe]) c s' (Go.W.accept (j6 .i64) ([],[qbe]) (0+1) e.er):=by
 unfold qjy Go.W.accept
 rw[show j6 .i64 1=1 from rfl,show e.er.number=e.number from rfl,show e.er.kind=e.kind from rfl,show((0:Int)+1)=1 from rfl]
 by_cases h1:e.number=1
 ·rw[dT h1,if_neg (fun h=>h h1)]
  simp only[cT]
  by_cases h2:e.kind=qek
  ·rw[show decide (e.kind=([117,110,100,111]:List UInt8))=true from dT h2,if_pos h2]
   simp only[cT,qca,jw,q7f]
   exact⟨_,_,rfl,rfl,by decide,rfl,rfl⟩
  ·rw[show decide (e.kind=([117,110,100,111]:List UInt8))=false from dF h2,if_neg h2]
   have hw:WF zreg.er:=WF.empty 0
   obtain⟨r',c,g1,g2⟩:=q6z (r:=zreg) (SB.empty.gb (r:=zreg) (Nat.zero_le _)) hw hc h2
   simp only[cond_false,g1,jw]
   rw[show now ([],[qbe])=zreg.er from rfl]
   cases ha:after (j6 .i64) zreg.er e.er with
   |error k=>
    rw[ha]at g2
    obtain⟨rfl,g3⟩:=g2
    rw[dF g3]
    exact⟨_,_,rfl,rfl,g3,rfl,rfl⟩
   |ok s=>
    rw[ha]at g2
    obtain⟨rfl,rfl⟩:=g2
    exact⟨_,_,rfl,rfl,Nat.le_refl _,Nat.le_refl _,rfl,rfl,rfl,Nat.le_refl _⟩
 ·rw[dF h1,if_pos h1]
  exact⟨_,_,rfl,rfl,by decide,rfl,rfl⟩
theorem jk8 {v:HV}{n:Nat}{h:qb7}{e:ql}(hr:qqp n h (some v))(o:je (j6 .i64) h)(b:HB h)(hn:n<BB)(hc:yx e.er=0):∃c s',q1s (some v) e=some (c,s')∧jd9 n h c s' (Go.W.accept (j6 .i64) h ((n:Int)+1) e.er):=by
 obtain⟨r1,r2,r3,r4,r5,r6⟩:=hr
 have hl1:h.1.length=v.lc:=by rw[r3,List.length_map,List.length_take];omega
 have hl2:h.2.length=v.ls:=by rw[r4,List.length_map,List.length_take];omega
 have hls:v.ls=v.lc+1:=by rw[←hl1,←hl2];exact o.len
 have hev:qhq v.ev v.ev.length e=some (v.ev++[e]):=by rw[qub (Nat.le_refl _) (by omega),List.take_length]
 show ∃c s',(jw (qpg v e) fun q=>some (q.1,some q.2))=some (c,s')∧_
 unfold qpg Go.W.accept
 rw[show e.er.number=e.number from rfl,show e.er.kind=e.kind from rfl,r5,qs2 (by omega)]
 by_cases h1:e.number=((n+1:Nat):Int)
 case neg=>
  rw[dF h1,if_pos (show e.number≠(n:Int)+1 from h1)]
  exact⟨_,_,rfl,rfl,by decide,r1,r2,r3,r4,r5,r6⟩
 rw[dT h1,if_neg (show ¬e.number≠(n:Int)+1 from fun hh=>hh h1)]
 simp only[cT]
 by_cases h2:e.kind=qek
 ·rw[show decide (e.kind=([117,110,100,111]:List UInt8))=true from dT h2,if_pos h2]
  simp only[cT,qca,jw]
  by_cases h3:v.lc=0
  ·have h4:h.1=[]:=List.eq_nil_of_length_eq_zero (by rw[hl1,h3])
   rw[h4]
   simp only[h3,show decide (((0:Nat):Int)=0)=true from rfl,show decide ((0:Int)<((0:Nat):Int))=false from rfl,cond_false,q7f]
   exact⟨_,_,rfl,rfl,by decide,r1,r2,r3,r4,r5,r6⟩
  ·have hpos:0<v.lc:=by omega
   rw[dF (show ¬(v.lc:Int)=0 by omega),dT (show(0:Int)<(v.lc:Int) by omega),qo4 (by omega) hpos]
   obtain⟨x,hx⟩:∃x,(v.cs.take v.lc)[v.lc-1]?=some x:=⟨_,List.getElem?_eq_getElem (by rw[List.length_take];omega)⟩
   have hmx:max 0 ((v.lc-1:Nat):Int)=((v.lc-1:Nat):Int):=by omega
   have hlast:h.1.getLast?=some x.er:=by
    rw[List.getLast?_eq_getElem?,hl1,r3,List.getElem?_map,hx];rfl
   rw[hmx,hlast]
   simp only[cT,z6 hx,q7f]
   by_cases h5:x.kind=qb6
   ·rw[if_pos (show x.er.kind=qb6 from h5),show decide (x.kind=([115,104,105,112]:List UInt8))=true from dT h5]
    exact⟨_,_,rfl,rfl,by decide,r1,r2,r3,r4,r5,r6⟩
   ·rw[if_neg (show ¬x.er.kind=qb6 from h5),show decide (x.kind=([115,104,105,112]:List UInt8))=false from dF h5]
    rw[r5]at hev
    simp only[Bool.false_eq_true,if_false,show decide (qbr [0,0]=0)=true from rfl,cT]
    rw[dT (show(0:Int)≤((v.lc-1:Nat):Int)∧((v.lc-1:Nat):Int)≤(v.lc:Int)∧v.lc≤v.ls by omega)]
    simp only[cT,hev]
    have htn:((v.lc-1:Nat):Int).toNat=v.lc-1:=Int.toNat_natCast _
    refine⟨_,_,rfl,rfl,by show((v.lc-1:Nat):Int).toNat≤v.cs.length;rw[htn];omega,by show v.lc≤v.ss.length;omega,?_,?_,by show(v.ev++[e]).length=_;rw[List.length_append,r5];rfl,by show((v.lc-1:Nat):Int).toNat≤n+1;rw[htn];omega⟩
    ·show h.1.dropLast=(v.cs.take ((v.lc-1:Nat):Int).toNat).map ql.er
     rw[htn,r3,←List.map_dropLast,qtt r1]
    ·show h.2.dropLast=(v.ss.take v.lc).map qc.er
     rw[r4,←List.map_dropLast,qtt r2,hls];rfl
 ·rw[show decide (e.kind=([117,110,100,111]:List UInt8))=false from dF h2,if_neg h2]
  have hnow:=o.now
  rw[hl1,r4,List.getElem?_map]at hnow
  cases hr:(v.ss.take v.ls)[v.lc]? with
  |none=>rw[hr]at hnow;cases hnow
  |some r=>
   rw[hr]at hnow
   have hre:r.er=now h:=by simpa using hnow
   have hsb:SB v.lc r.er:=b v.lc r.er (by rw[r4,List.getElem?_map,hr];rfl)
   have hwf:WF r.er:=by rw[hre];exact o.wfNow
   obtain⟨r',c,g1,g2⟩:=q6z (hsb.gb (by omega)) hwf hc h2
   have hi:j6 .i64 ((v.ls:Int)-1)=(v.lc:Int):=by rw[qo4 (by omega) (by omega),hls];rfl
   rw[hi]
   simp only[cond_false,z6 hr,g1,jw]
   rw[hre]at g2
   cases ha:after (j6 .i64) (now h) e.er with
   |error k=>
    rw[ha]at g2
    obtain⟨rfl,g3⟩:=g2
    rw[dF g3]
    exact⟨_,_,rfl,rfl,g3,r1,r2,r3,r4,r5,r6⟩
   |ok s=>
    rw[ha]at g2
    obtain⟨rfl,rfl⟩:=g2
    rw[r5]at hev
    rw[qub r1 (by omega),qub r2 (by omega)]
    simp only[hev,show decide ((0:Int)=0)=true from rfl,cT]
    refine⟨_,_,rfl,rfl,?_,?_,?_,?_,by show(v.ev++[e]).length=_;rw[List.length_append,r5];rfl,by show v.lc+1≤n+1;omega⟩
    ·show v.lc+1≤(v.cs.take v.lc++[e]).length
     rw[List.length_append,List.length_take,List.length_singleton];omega
    ·show v.ls+1≤(v.ss.take v.ls++[r']).length
     rw[List.length_append,List.length_take,List.length_singleton];omega
    ·show h.1++[e.er]=((v.cs.take v.lc++[e]).take (v.lc+1)).map ql.er
     rw[List.take_of_length_le (by rw[List.length_append,List.length_take,List.length_singleton];omega),List.map_append,r3];rfl
    ·show h.2++[r'.er]=((v.ss.take v.ls++[r']).take (v.ls+1)).map qc.er
     rw[List.take_of_length_le (by rw[List.length_append,List.length_take,List.length_singleton];omega),List.map_append,r4];rfl
theorem q6i {s:Option HV}{n:Nat}{h:qb7}{e:ql}(hr:qqp n h s)(o:je (j6 .i64) h)(b:HB h)(hn:n<BB)(hc:yx e.er=0):∃c s',q1s s e=some (c,s')∧jd9 n h c s' (Go.W.accept (j6 .i64) h ((n:Int)+1) e.er):=by
 cases s with
 |some v=>exact jk8 hr o b hn hc
 |none=>
  obtain⟨rfl,rfl⟩:=hr
  exact jg9 hc
end Go.Z
namespace Go.Z
open Go Go.Abs Go.W
def EvB (e:ql):Prop:=(e.names.getD []).length≤SM∧(e.values.getD []).length≤SM
theorem jct {α:Type}{o:Option (List α)}(h:(o.getD []).length≤SM):∃q b,(cond o.isNone (some (none,false)) (jw (apO (some []) (o.getD [])) fun v2=>some (v2,true)):Option (Option (List α)×Bool))=some (q,b)∧q.getD []=o.getD []:=by
 cases o with
 |none=>exact⟨none,false,rfl,rfl⟩
 |some l=>
  have:apO (some []) l=some (some l):=by
   unfold apO
   simp only[Option.getD_some,List.nil_append]
   rw[if_pos (by simpa using h)]
   rfl
  exact⟨some l,true,by simp only[Option.isNone_some,cond_false,Option.getD_some,this,jw],rfl⟩
theorem jcw {e:ql}(h:EvB e):∃e',f66 e=some e'∧e'.er=e.er∧EvB e':=by
 obtain⟨q1,b1,h1,k1⟩:=jct (o:=e.names) h.1
 obtain⟨q2,b2,h2,k2⟩:=jct (o:=e.values) h.2
 refine⟨⟨e.number,e.kind,q1,q2,e.text⟩,?_,?_,?_⟩
 ·unfold f66
  rw[show f122 e.names=some (q1,b1)from h1,show f123 e.values=some (q2,b2)from h2]
  cases b1<;>cases b2<;>rfl
 ·show jg.mk _ _ _ _ _=jg.mk _ _ _ _ _
  simp only[k1,k2]
 ·exact⟨by show(q1.getD []).length≤_;rw[k1];exact h.1,by show(q2.getD []).length≤_;rw[k2];exact h.2⟩
def ze3 (n:Nat):Except (Int×Int) qb7→(Int×Int×Option HV)⊕(Int×Option HV)→Prop
 | .error x,d=>∃s,d=.inl (x.1,x.2,s)∧x.2≠0
 | .ok h,d=>∃o,d=.inr ((n:Int),o)∧qqp n h o∧je (j6 .i64) h∧HB h
theorem jcl {l:Option (List ql)}(hb:∀e∈l.getD [],EvB e)(hl:(l.getD []).length≤BB):∀(m:List ql) (i:Nat) (h:qb7) (s:Option HV),(l.getD []).drop i=m→i≤(l.getD []).length→qqp i h s→je (j6 .i64) h→HB h→∃d,itO (s47 l) ((i:Int),s)=some d∧ze3 (l.getD []).length (qdj (j6 .i64) i h (m.map ql.er)) d
 | [],i,h,s,hm,hi,hr,o,b=>by
  have he:i=(l.getD []).length:=by
   have:=List.drop_eq_nil_iff.1 hm;omega
  subst he
  refine⟨.inr (((l.getD []).length:Int),s),qa6 ?_,s,rfl,hr,o,b⟩
  unfold s47
  rw[ku];rfl
 |e::m,i,h,s,hm,hi,hr,o,b=>by
  have hx:(l.getD [])[i]?=some e:=by
   have:=congrArg List.head? hm
   rwa [List.head?_drop]at this
  have hlt:i<(l.getD []).length:=(List.getElem?_eq_some_iff.1 hx).1
  have hm':(l.getD []).drop (i+1)=m:=by rw[qcp hx]at hm;exact(List.cons.inj hm).2
  have heb:=hb e (List.mem_of_getElem? hx)
  have hw:j6 .i64 ((i:Int)+1)=((i+1:Nat):Int):=qs2 (by omega)
  have hstep:s47 l ((i:Int),s)=cond (decide (yx e.er=0)) (jw (f66 e) fun e2=>jw (q1s s e2) fun q=>cond (decide (q.1=0)) (some (.inl (((i+1:Nat):Int),q.2))) (some (.inr (.inl (((i+1:Nat):Int),q.1,q.2))))) (some (.inr (.inl (((i+1:Nat):Int),yx e.er,s)))):=by
   unfold s47
   simp only[qal hlt,cT,z6 hx,jw,q21 heb.1 heb.2,hw]
  rw[List.map_cons]
  simp only[qdj]
  by_cases hc:yx e.er=0
  case neg=>
   rw[if_pos hc]
   refine⟨.inl (((i+1:Nat):Int),yx e.er,s),qa6 ?_,s,rfl,hc⟩
   rw[hstep,dF hc];rfl
  rw[if_neg (fun h=>h hc)]
  obtain⟨e',g1,g2,g3⟩:=jcw heb
  obtain⟨c,s',k1,k2⟩:=q6i (e:=e') hr o b (by omega) (by rw[g2];exact hc)
  rw[g2]at k2
  rw[dT hc,cT,g1]at hstep
  simp only[jw,k1]at hstep
  cases ha:Go.W.accept (j6 .i64) h ((i:Int)+1) e.er with
  |error x=>
   rw[ha]at k2
   obtain⟨rfl,k3,k4⟩:=k2
   rw[dF k3]at hstep
   exact⟨.inl (((i+1:Nat):Int),c,s'),qa6 hstep,s',rfl,k3⟩
  |ok h'=>
   rw[ha]at k2
   obtain⟨rfl,k4⟩:=k2
   rw[dT (rfl:(0:Int)=0)]at hstep
   obtain⟨d,d1,d2⟩:=jcl hb hl m (i+1) h' s' hm' hlt k4 (o.accept hc ha) (b.accept o ha)
   exact⟨d,by rw[qec hstep];exact d1,d2⟩
def zhq (n:Nat):Except (Int×Int) qb7→(Int×Int)⊕Option HV→Prop
 | .error x,d=>d=.inl x∧x.2≠0
 | .ok h,d=>∃o,d=.inr o∧qqp n h o∧je (j6 .i64) h∧HB h∧n≤1000
theorem ja5 {l:Option (List ql)}(hb:∀e∈l.getD [],EvB e):∃d,f47 l=some d∧zhq (l.getD []).length (run (j6 .i64) ((l.getD []).map ql.er)) d:=by
 unfold f47 run
 rw[List.length_map]
 by_cases h:1000<(l.getD []).length
 ·rw[dT (by omega),if_pos h]
  exact⟨_,rfl,rfl,by decide⟩
 ·rw[dF (by omega),if_neg h,cond_false]
  obtain⟨d,d1,d2⟩:=jcl hb (by unfold BB;omega) (l.getD []) 0 ([],[qbe]) none rfl (Nat.zero_le _) ⟨rfl,rfl⟩ je.empty HB.empty
  rw[show(0:Int)=((0:Nat):Int)from rfl,d1]
  cases hr:qdj (j6 .i64) 0 ([],[qbe]) ((l.getD []).map ql.er)with
  |error x=>
   rw[hr]at d2
   obtain⟨s,rfl,k⟩:=d2
   exact⟨_,rfl,rfl,k⟩
  |ok h'=>
   rw[hr]at d2
   obtain⟨o,rfl,k1,k2,k3⟩:=d2
   exact⟨_,rfl,o,rfl,k1,k2,k3,by omega⟩
theorem jmk {n:Nat}{h:qb7}{o:Option HV}(hr:qqp n h o)(k:je (j6 .i64) h)(hn:n≤1000):∃r,jpr o=some r∧r.er=now h:=by
 cases o with
 |none=>
  obtain⟨rfl,rfl⟩:=hr
  exact⟨zreg,rfl,rfl⟩
 |some v=>
  obtain⟨r1,r2,r3,r4,r5,r6⟩:=hr
  have hl1:h.1.length=v.lc:=by rw[r3,List.length_map,List.length_take];omega
  have hl2:h.2.length=v.ls:=by rw[r4,List.length_map,List.length_take];omega
  have hls:v.ls=v.lc+1:=by rw[←hl1,←hl2];exact k.len
  have hi:j6 .i64 ((v.ls:Int)-1)=(v.lc:Int):=by rw[qo4 (by unfold BB;omega) (by omega),hls];rfl
  have hnow:=k.now
  rw[hl1,r4,List.getElem?_map]at hnow
  cases hq:(v.ss.take v.ls)[v.lc]? with
  |none=>rw[hq]at hnow;cases hnow
  |some r=>
   rw[hq]at hnow
   exact⟨r,by show zo (v.ss.take v.ls) (j6 .i64 ((v.ls:Int)-1))=some r;rw[hi];exact z6 hq,by simpa using hnow⟩
def qx7:Except (Int×Int) qb7→qv×Int×Int
 | .error x=>(qbe,x.1,x.2)
 | .ok h=>(now h,0,0)
theorem jwv {l:Option (List ql)}(hb:∀e∈l.getD [],EvB e):∃r,f9 l=some r∧(r.1.er,r.2)=qx7 (run (j6 .i64) ((l.getD []).map ql.er)):=by
 obtain⟨d,d1,d2⟩:=ja5 hb
 unfold f9
 rw[d1]
 cases hr:run (j6 .i64) ((l.getD []).map ql.er)with
 |error x=>
  rw[hr]at d2
  obtain⟨rfl,k⟩:=d2
  refine⟨(zreg,x.1,x.2),?_,rfl⟩
  simp only[jw]
  rw[dF k];rfl
 |ok h=>
  rw[hr]at d2
  obtain⟨o,rfl,k1,k2,k3,k4⟩:=d2
  obtain⟨r,q1,q2⟩:=jmk k1 k2 k4
  refine⟨(r,0,0),?_,?_⟩
  ·simp only[jw,q1]
  ·rw[q2];rfl
def qwt (r:Except (Int×Int) qb7)(n:Nat)(e:jg):Int:=match r with
 | .error x=>x.2
 | .ok h=>if yx e≠0 then yx e else if 1000≤n then 5 else match Go.W.accept (j6 .i64) h ((n:Int)+1) e with
  | .error x=>x
  | .ok _=>0
theorem joh {l:Option (List ql)}{e:ql}(hb:∀e∈l.getD [],EvB e)(he:EvB e):f15 l e=some (qwt (run (j6 .i64) ((l.getD []).map ql.er)) (l.getD []).length e.er):=by
 obtain⟨d,d1,d2⟩:=ja5 hb
 unfold f15 qwt
 rw[d1,q21 he.1 he.2]
 simp only[jw,qca]
 have f3:∀a b c:Int,f51 (some [a,b,c])=some (qbr [a,b,c]):=fun a b c=>qbj (by simp[SM])
 cases hr:run (j6 .i64) ((l.getD []).map ql.er)with
 |error x=>
  rw[hr]at d2
  obtain⟨rfl,k⟩:=d2
  simp only[f3,jw]
  have:qbr [x.2,yx e.er,if decide (1000≤((l.getD []).length:Int))=true then 5 else 0]=x.2:=by simp[qbr,k]
  rw[this,dF k];rfl
 |ok h=>
  rw[hr]at d2
  obtain⟨o,rfl,k1,k2,k3,k4⟩:=d2
  simp only[f3,jw]
  generalize hk:(if decide (1000≤((l.getD []).length:Int))=true then(5:Int)else 0)=kk
  by_cases hc:yx e.er=0
  case neg=>
   rw[if_pos hc]
   have:qbr [0,yx e.er,kk]=yx e.er:=by simp[qbr,hc]
   rw[this,dF hc];rfl
  rw[if_neg (fun h=>h hc)]
  by_cases hn:1000≤(l.getD []).length
  ·rw[if_pos hn]
   have:qbr [0,yx e.er,kk]=5:=by
    rw[←hk,dT (by omega)];simp[qbr,hc]
   rw[this];rfl
  ·rw[if_neg hn]
   have:qbr [0,yx e.er,kk]=0:=by
    rw[←hk,dF (by omega)];simp[qbr,hc]
   rw[this]
   obtain⟨e',g1,g2,g3⟩:=jcw he
   obtain⟨c,s',a1,a2⟩:=q6i (e:=e') k1 k2 k3 (by unfold BB;omega) (by rw[g2];exact hc)
   rw[g2]at a2
   simp only[decide_true,cT,g1,jw,a1]
   cases ha:Go.W.accept (j6 .i64) h (((l.getD []).length:Int)+1) e.er with
   |error x=>
    rw[ha]at a2
    rw[a2.1]
   |ok h'=>
    rw[ha]at a2
    rw[a2.1]
end Go.Z
