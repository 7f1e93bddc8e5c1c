/- Chapter 10. -/
import Derived.Test.YtimdocpnkimlfaaGreatDoorAZ
import Derived.Test.YtimdocpnkimlfaaGreatDoorEF
set_option linter.unusedVariables false
set_option linter.unusedSimpArgs false
set_option maxRecDepth 100000
set_option maxHeartbeats 4000000
open Option renaming some→I,getD_some→En
open Bool renaming false→Es
namespace Go.Z
open Go Go.Abs Go.W
theorem j7x {a0:Option (List GEv)}{a1:Int}{r}(h:f11 a0 a1=I r):qc iM (X iM) 11 [sl 5 vev a0,Iv a1]=I (.bool r,Es):=zW rfl rfl (W11 h) (by first|rfl|simp only[go_sem,seval])
theorem j4y {a0:Option (List GEv)}{a1:Int}{r}(h:f12 a0 a1=I r):qc iM (X iM) 12 [sl 5 vev a0,Iv a1]=I (.bool r,Es):=zW rfl rfl (W12 h) (by first|rfl|simp only[go_sem,seval])
theorem j5w {a0:Option (List GEv)}{a1:GEv}{r}(h:f13 a0 a1=I r):qc iM (X iM) 13 [sl 5 vev a0,aE a1]=I (Iv r,Es):=zW rfl rfl (W13 h) (by first|rfl|simp only[go_sem,seval])
theorem j6c {a0:Option (List GEv)}{a1:GEv}{r}(h:f14 a0 a1=I r):qc iM (X iM) 14 [sl 5 vev a0,aE a1]=I (Iv r,Es):=zW rfl rfl (W14 h) (by first|rfl|simp only[go_sem,seval])
theorem jzr {a0:Option (List GEv)}{r}(h:f16 a0=I r):qc iM (X iM) 16 [sl 5 vev a0]=I (.aI [aR r.1,Iv r.2.1,Iv r.2.2],Es):=zW rfl rfl (W16 h) (by first|rfl|simp only[go_sem,seval])
theorem j4r {a0:ar}{a1:ar}{r}(h:f17 a0 a1=I r):qc iM (X iM) 17 [aR a0,aR a1]=I (.bool r,Es):=zW rfl rfl (W17 h) (by first|rfl|simp only[go_sem,seval])
theorem j6b {a0:ar}{r}(h:f18 a0=I r):qc iM (X iM) 18 [aR a0]=I (aR r,Es):=zW rfl rfl (W18 h) (by first|rfl|simp only[go_sem,seval])
noncomputable def f3 (a0:Option (List GEv))(a1:GEv):Option Bool:=
 qa (f11 a0 20) fun v1=>
 cond v1
  (qa (f12 (I [a1]) 1) fun v4=>
  cond v4
   (qa (f13 a0 a1) fun v7=>
   cond (decide (v7=0))
    (qa (f14 a0 a1) fun v10=>
    cond (decide (v10=0))
     (qa (f16 a0) fun ec=>
     qa (bq (I []) (a0.getD [])) fun fk=>
     qa (bq fk [a1]) fun eN=>
     qa (bq (I []) (eN.getD [])) fun iW=>
     qa (bq iW [⟨qe .i64 (((eN.getD []).length:Int)+1),([117,110,100,111]:List UInt8),none,none,[]⟩]) fun v21=>
     qa (f16 v21) fun v23=>
     cond (decide (ec.2.2=0))
      (cond (decide (a1.kind=([115,104,105,112]:List UInt8)))
       (cond (decide (v23.2.2=19))
        (cond (decide (v23.2.1=(qe .i64 (((eN.getD []).length:Int)+1))))
         (qa (nT) fun hO=>
         I hO)
         (I Es))
        (I Es))
       (cond (decide (a1.kind=([117,110,100,111]:List UInt8)))
        (cond (decide (a1.kind=([104,111,108,100]:List UInt8)))
         (cond (decide (a1.kind=([102,114,101,101]:List UInt8)))
          (qa (bq (I []) (a1.names.getD [])) fun ER=>
          qa (bq (I []) (a1.values.getD [])) fun vI=>
          qa (bq iW [⟨qe .i64 (((eN.getD []).length:Int)+1),([104,111,108,100]:List UInt8),ER,vI,[]⟩]) fun oX=>
          qa (f16 oX) fun v40=>
          qa (f18 ec.1) fun B2=>
          qa (qq (a1.values.getD []) 0) fun nG=>
          cond (decide (v40.2.2=0))
           (qa (f18 v40.1) fun Xy=>
           qa (f17 Xy (⟨nG,B2.au,B2.ae,B2.units⟩)) fun v49=>
           cond v49
            (qa (nT) fun Xz=>
            I Xz)
            (I Es))
           (I Es))
          (qa (bq (I []) (a1.names.getD [])) fun ES=>
          qa (bq (I []) (a1.values.getD [])) fun v56=>
          qa (bq iW [⟨qe .i64 (((eN.getD []).length:Int)+1),([102,114,101,101]:List UInt8),ES,v56,[]⟩]) fun v58=>
          qa (f16 v58) fun MH=>
          qa (f18 ec.1) fun XA=>
          qa (qq (a1.values.getD []) 0) fun MI=>
          cond (decide (MH.2.2=0))
           (qa (f18 MH.1) fun XB=>
           qa (f17 XB (⟨MI,XA.au,XA.ae,XA.units⟩)) fun MJ=>
           cond MJ
            (qa (nT) fun v72=>
            I v72)
            (I Es))
           (I Es)))
         (cond (decide (a1.kind=([102,114,101,101]:List UInt8)))
          (qa (bq (I []) (a1.names.getD [])) fun v75=>
          qa (bq (I []) (a1.values.getD [])) fun MK=>
          qa (bq iW [⟨qe .i64 (((eN.getD []).length:Int)+1),([104,111,108,100]:List UInt8),v75,MK,[]⟩]) fun ML=>
          qa (f16 ML) fun MN=>
          qa (f18 ec.1) fun B3=>
          qa (qq (a1.values.getD []) 0) fun v85=>
          cond (decide (MN.2.2=0))
           (qa (f18 MN.1) fun Jc=>
           qa (f17 Jc (⟨v85,B3.au,B3.ae,B3.units⟩)) fun ET=>
           cond ET
            (qa (nT) fun v93=>
            I v93)
            (I Es))
           (I Es))
          (qa (nT) fun Jd=>
          I Jd)))
        (cond (decide (v23.2.2=0))
         (qa (f18 v23.1) fun v98=>
         qa (f18 ec.1) fun jR=>
         qa (f17 v98 jR) fun B4=>
         cond B4
          (cond (decide (a1.kind=([104,111,108,100]:List UInt8)))
           (cond (decide (a1.kind=([102,114,101,101]:List UInt8)))
            (qa (bq (I []) (a1.names.getD [])) fun v107=>
            qa (bq (I []) (a1.values.getD [])) fun v109=>
            qa (bq iW [⟨qe .i64 (((eN.getD []).length:Int)+1),([104,111,108,100]:List UInt8),v107,v109,[]⟩]) fun XD=>
            qa (f16 XD) fun Je=>
            qa (qq (a1.values.getD []) 0) fun XE=>
            cond (decide (Je.2.2=0))
             (qa (f18 Je.1) fun XF=>
             qa (f17 XF (⟨XE,jR.au,jR.ae,jR.units⟩)) fun XG=>
             cond XG
              (qa (nT) fun XH=>
              I XH)
              (I Es))
             (I Es))
            (qa (bq (I []) (a1.names.getD [])) fun XI=>
            qa (bq (I []) (a1.values.getD [])) fun v127=>
            qa (bq iW [⟨qe .i64 (((eN.getD []).length:Int)+1),([102,114,101,101]:List UInt8),XI,v127,[]⟩]) fun XJ=>
            qa (f16 XJ) fun v131=>
            qa (qq (a1.values.getD []) 0) fun XK=>
            cond (decide (v131.2.2=0))
             (qa (f18 v131.1) fun XL=>
             qa (f17 XL (⟨XK,jR.au,jR.ae,jR.units⟩)) fun v138=>
             cond v138
              (qa (nT) fun v141=>
              I v141)
              (I Es))
             (I Es)))
           (cond (decide (a1.kind=([102,114,101,101]:List UInt8)))
            (qa (bq (I []) (a1.names.getD [])) fun XM=>
            qa (bq (I []) (a1.values.getD [])) fun v146=>
            qa (bq iW [⟨qe .i64 (((eN.getD []).length:Int)+1),([104,111,108,100]:List UInt8),XM,v146,[]⟩]) fun v148=>
            qa (f16 v148) fun Jf=>
            qa (qq (a1.values.getD []) 0) fun v152=>
            cond (decide (Jf.2.2=0))
             (qa (f18 Jf.1) fun XO=>
             qa (f17 XO (⟨v152,jR.au,jR.ae,jR.units⟩)) fun v157=>
             cond v157
              (qa (nT) fun v160=>
              I v160)
              (I Es))
             (I Es))
            (qa (nT) fun v162=>
            I v162)))
          (I Es))
         (I Es))))
      (I Es))
     (qa (nT) fun v164=>
     I v164))
    (qa (nT) fun XP=>
    I XP))
   (qa (nT) fun v168=>
   I v168))
  (qa (nT) fun XQ=>
  I XQ)
theorem W3 {a0:Option (List GEv)}{a1:GEv}{r}(h:f3 a0 a1=I r):qc iM (X iM) 3 [sl 5 vev a0,aE a1]=I (.bool r,Es):=by
 unfold f3 at h
 refine zd c3 ?_
 repeat' first|(replace h:=qb h;obtain⟨d,g,h⟩:=h; (with_reducible first|replace g:=j7x g|replace g:=j4y g|replace g:=j5w g|replace g:=j6c g|replace g:=jzr g|replace g:=Q8 g|replace g:=j6b g|replace g:=j4r g|replace g:=Tb g|skip);try dsimp only[zg,l3,List.map,zy,yf,jd,qu,bI,jf,vev,bp,q9,yb,aE,aR,aU,aL,aP,aD]at g)|(replace h:=qd h;rcases h with⟨g,h⟩|⟨g,h⟩)
 all_goals (cases h<;>(simp only[go_sem,seval,c3,kc,jg, *];exact⟨_,rfl⟩))
end Go.Z
namespace Go.Z
open Go Go.Abs Go.W
theorem MO {α:Type}{l:List α}(h:l.length≤SM):bq (I []) l=I (I l):=by
 unfold bq
 simp only[En,List.nil_append]
 rw[if_pos (by unfold SM at h;simpa using h)]
 rfl
theorem jcr {α:Type}{l:List α}{x:α}(h:l.length<SM):bq (I l) [x]=I (I (l++[x])):=by
 unfold bq
 simp only[En]
 rw[if_pos (by unfold SM at h;simp;omega)]
 rfl
theorem jec {r:Except (Int×Int) yv}{h:yv}{n:Nat}{e:dR}(hr:r=.ok h)(hn:Bw r n e=0)(h1:n<1000):jn e=0∧∃h',Go.W.accept (qe .i64) h ((n:Int)+1) e=.ok h':=by
 subst hr
 unfold Bw at hn
 dsimp only at hn
 by_cases hc:jn e=0
 ·rw[if_neg (fun h=>h hc),if_neg (by omega)]at hn
  cases ha:Go.W.accept (qe .i64) h ((n:Int)+1) e with
  |error x=>rw[ha]at hn;exact absurd hn (q8x ha)
  |ok h'=>exact⟨hc,h',rfl⟩
 ·rw[if_pos hc]at hn;exact absurd hn hc
theorem q7k {L:List GEv}{a1 u:GEv}(hb:∀e∈L,iJ e)(h1:iJ a1)(h2:iJ u):∀e∈L++[a1]++[u],iJ e:=by
 intro e he
 rcases List.mem_append.1 he with he|he
 ·rcases List.mem_append.1 he with he|he
  ·exact hb e he
  ·rw[List.mem_singleton.1 he];exact h1
 ·rw[List.mem_singleton.1 he];exact h2
theorem jdt {L:List GEv}{a1:GEv}{h h':yv}{k:List UInt8}{q1:Option (List (List UInt8))}{q2:Option (List Int)}(j:lh (I L) h)(hn:L.length≤20)(he:iJ a1)(hc:jn a1.er=0)(ha:Go.W.accept (qe .i64) h ((L.length:Int)+1) a1.er=.ok h')
  (hk:a1.kind=yp∧k=kg∨a1.kind=kg∧k=yp) (e1:q1.getD []=a1.names.getD []) (e2:q2.getD []=a1.values.getD []):
  ∃g,f16 (I (L++[a1]++[⟨((L.length:Int)+2),k,q1,q2,[]⟩]))=I (g,0,0)∧g.er={ now h with day:=vl a1.er 0 }∧GB g:=by
 have hr:=j.hr
 simp only[En]at hr
 have hl:(L.map GEv.er).length=L.length:=List.length_map _
 obtain⟨q,r1,r2⟩:=jfx (f:=(⟨((L.length:Int)+2),k,q1,q2,[]⟩:GEv).er) hr (by omega) hc (by rw[hl];exact ha) hk (by rw[hl];rfl) e1 e2 rfl
 have j2:lh (I (L++[a1]++[⟨((L.length:Int)+2),k,q1,q2,[]⟩])) q:=⟨q7k j.hb he (by unfold iJ;rw[show(⟨((L.length:Int)+2),k,q1,q2,[]⟩:GEv).names=q1 from rfl,show(⟨((L.length:Int)+2),k,q1,q2,[]⟩:GEv).values=q2 from rfl,e1,e2];exact he),by
  simp only[En,List.map_append,List.map_cons,List.map_nil];exact r1⟩
 obtain⟨g,g1,g2,g3⟩:=j2.ct
 exact⟨g,g1,g2.trans r2,g3⟩
theorem joz (a0:Option (List GEv))(a1:GEv):f3 a0 a1=I true:=by
 obtain⟨b1,p1,k1⟩:=jwb (l:=a0) (n:=20) (by omega)
 unfold f3
 rw[show f11 a0 20=I b1 from p1,ob]
 cases b1 with
 |false=>rfl
 |true=>
 rw[cond_true]
 obtain⟨hn,h,j⟩:=k1 rfl
 obtain⟨b2,p2,k2⟩:=jdz (l:=I [a1]) (n:=1) (by omega)
 rw[show f12 (I [a1]) 1=I b2 from p2,ob]
 cases b2 with
 |false=>rfl
 |true=>
 rw[cond_true]
 have he:iJ a1:=(k2 rfl).2 a1 (by simp)
 rw[jtw j.hb he,ob]
 generalize hx:Bw (run (qe .i64) ((a0.getD []).map GEv.er)) (a0.getD []).length a1.er=x
 by_cases h0:x=0
 case neg=>rw[decide_eq_false h0];rfl
 subst h0
 rw[decide_eq_true rfl,cond_true,jqx j.hb he,ob,hx,decide_eq_true rfl,cond_true]
 obtain⟨hc,h',ha⟩:=jec j.hr hx (by omega)
 obtain⟨g,g1,g2,g3⟩:=j.ct
 rw[g1,ob]
 have hL:∃L,a0.getD []=L:=⟨_,rfl⟩
 obtain⟨L,hL⟩:=hL
 have j':lh (I L) h:=⟨by rw[En,←hL];exact j.hb,by rw[En,←hL];exact j.hr⟩
 rw[hL]at hn ha hx ⊢
 have hn:L.length≤20:=by omega
 have hS:L.length+5≤SM:=by unfold SM;omega
 have oc:(L++[a1]).length=L.length+1:=by simp
 have hw:qe .i64 (((L++[a1]).length:Int)+1)=(L.length:Int)+2:=by
  rw[yg (by unfold SM at hS;omega)];omega
 have nv:∀x:GEv,bq (I (L++[a1])) [x]=I (I (L++[a1]++[x])):=fun x=>jcr (by omega)
 have KK:bq (I []) (a1.names.getD [])=I (I (a1.names.getD [])):=MO he.1
 have qF:bq (I []) (a1.values.getD [])=I (I (a1.values.getD [])):=MO he.2
 simp only[MO (l:=L) (by omega),jcr (l:=L) (x:=a1) (by omega),ob,En,MO (l:=L++[a1]) (by omega),hw,nv,KK,qF,decide_true,cond_true]
 have hr:=j'.hr
 simp only[En]at hr
 have XR:(L.map GEv.er).length=L.length:=List.length_map _
 have hub:∀e∈(I (L++[a1]++[(⟨(L.length:Int)+2,[117,110,100,111],none,none,[]⟩:GEv)])).getD [],iJ e:=q7k j'.hb he (by constructor<;>simp[SM])
 obtain⟨⟨gu,iu,bu⟩,u1,u2⟩:=jeo hub
 obtain⟨gc,c1,c2⟩:=Ub g3
 have bc:GB gc:=j.gb (c2.trans g2)
 by_cases XS:a1.kind=([117,110,100,111]:List UInt8)
 ·-- an undo
  rw[u1,ob]
  simp only[XS] <;>rfl
 have Jg:a1.er.kind≠y8:=XS
 have bE:=jck hr (by omega) hc (by rw[XR];exact ha) Jg
 have cL:(gu.er,iu,bu)=Iq (if a1.er.kind=yw then Except.error ((L.length:Int)+2,19)else .ok h):=by
  rw[←XR,←bE,u2]
  simp only[En,List.map_append,List.map_cons,List.map_nil,XR] <;>rfl
 rw[u1,ob]
 by_cases Dt:a1.kind=([115,104,105,112]:List UInt8)
 ·rw[if_pos (show a1.er.kind=yw from Dt)]at cL
  have e1:iu=(L.length:Int)+2:=congrArg (fun x=>x.2.1) cL
  have e2:bu=19:=congrArg (fun x=>x.2.2) cL
  simp only[decide_eq_true Dt,cond_true,e1,e2,decide_true] <;>rfl
 rw[if_neg (show ¬a1.er.kind=yw from Dt)]at cL
 have e0:gu.er=now h:=congrArg Prod.fst cL
 have e2:bu=0:=congrArg (fun x=>x.2.2) cL
 obtain⟨gd,d1,d2⟩:=Ub (j.gb e0)
 have bd:GB gd:=j.gb (d2.trans e0)
 simp only[decide_eq_false Dt,decide_eq_false XS,cond_false,e2,decide_true,cond_true,d1,c1,ob,q5i (d2.trans (e0.trans (g2.symm.trans c2.symm))) bd]
 have hv:∀k,(a1.kind=yp∧k=kg∨a1.kind=kg∧k=yp)→qq (a1.values.getD []) 0=I (vl a1.er 0):=fun k _=>jn5 hc Jg
 have kE:∀k,(a1.kind=yp∧k=kg∨a1.kind=kg∧k=yp)→∃g,f16 (I (L++[a1]++[⟨((L.length:Int)+2),k,I (a1.names.getD []),I (a1.values.getD []),[]⟩]))=I (g,0,0)∧∃g',f18 g=I g'∧f17 g' ⟨vl a1.er 0,gc.au,gc.ae,gc.units⟩=I true:=fun k hk=>by
  obtain⟨g,q1,q2,q3⟩:=jdt j' hn he hc ha hk (q1:=I (a1.names.getD [])) (q2:=I (a1.values.getD [])) rfl rfl
  obtain⟨g',r1,r2⟩:=Ub q3
  refine⟨g,q1,g',r1,q5i ?_ ?_⟩
  ·rw[r2,q2,←g2,←c2];rfl
  ·have h1:g'.er=g.er:=r2
   have h2:g'.er={ gc.er with day:=vl a1.er 0 }:=by rw[r2,q2,←g2,←c2]
   have h3:∃n,n≤BB∧SB n gc.er:=⟨_,j.sb.2,by rw[c2,g2];exact j.sb.1⟩
   obtain⟨n,n1,n2⟩:=h3
   exact SB.gb (n:=n) (by rw[h2];exact⟨n2.L,n2.P,n2.U,n2.D,n2.N⟩) n1
 by_cases EU:a1.kind=([104,111,108,100]:List UInt8)
 ·have EV:¬a1.kind=([102,114,101,101]:List UInt8):=by rw[EU];decide
  obtain⟨gl,l1,gm,m1,m2⟩:=kE kg (.inl ⟨EU,rfl⟩)
  have l1:f16 (I (L++[a1]++[⟨((L.length:Int)+2),[102,114,101,101],I (a1.names.getD []),I (a1.values.getD []),[]⟩]))=I (gl,0,0):=l1
  simp only[decide_eq_true EU,decide_eq_false EV,cond_true,cond_false,l1,ob,hv kg (.inl ⟨EU,rfl⟩),decide_true,m1,m2] <;>rfl
 ·by_cases EV:a1.kind=([102,114,101,101]:List UInt8)
  ·obtain⟨gl,l1,gm,m1,m2⟩:=kE yp (.inr ⟨EV,rfl⟩)
   have l1:f16 (I (L++[a1]++[⟨((L.length:Int)+2),[104,111,108,100],I (a1.names.getD []),I (a1.values.getD []),[]⟩]))=I (gl,0,0):=l1
   simp only[decide_eq_false EU,decide_eq_true EV,cond_true,cond_false,l1,ob,hv yp (.inr ⟨EV,rfl⟩),decide_true,m1,m2] <;>rfl
  ·simp only[decide_eq_false EU,decide_eq_false EV,cond_false] <;>rfl
theorem I3 (a0:Option (List GEv))(a1:GEv):qc iM (X iM) 3 [sl 5 vev a0,.agg [.int .i64 a1.number,.str a1.kind,sl 1 yf a1.names,sl 1 zy a1.values,.str a1.text]]=I (.bool true,Es):=W3 (joz a0 a1)
end Go.Z
