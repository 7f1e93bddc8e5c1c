/- Chapter 4. -/
import Derived.Test.YtnjngdcbkkonnaaGreatDoorA8
import Derived.Test.YtnjngdcbkkonnaaGreatDoorZL
import Derived.Test.YtnjngdcbkkonnaaGreatDoorZP
import Derived.Test.YtnjngdcbkkonnaaGreatDoorPB
set_option linter.unusedVariables false
set_option linter.unusedSimpArgs false
set_option maxRecDepth 100000
set_option maxHeartbeats 4000000
noncomputable section
namespace Go.Z
open Go Go.Abs Go.Proofs
def pc8 (p:qb):List (qa×Bool):=[(.str p.name,false),(.str p.kd,false),(.int .i64 p.pa,false),(.int .i64 p.pb,false),(.int .i64 p.sa,false),(.int .i64 p.sb,false),(.int .i64 p.cost,false),(.int .i64 p.stock,false)]
def pcl (l:List qb):List (qa×Bool):=l.flatMap pc8
theorem qct {p:qb}{l:List qb}:pcl (p::l)=pc8 p++pcl l:=by simp[pcl]
theorem qop:∀ {l:List qb},(pcl l).length=l.length*8
 | []=>rfl
 |p::l=>by rw[qct,List.length_append,qop,List.length_cons];show 8+_=_;omega
def qmf (p:qb)(x:Int):qb:={ p with stock:=x }
theorem jmx {c:List (qa×Bool)}{cs:List (qa×Bool)}{o n:Nat}:qao (c++cs) (c.length+o) n=qao cs o n:=by
 simp only[q2g,List.length_append]
 by_cases h:o+n≤cs.length
 ·simp only[h,show c.length+o+n≤c.length+cs.length by omega,decide_true,jdr]
  rw[List.drop_append,List.drop_eq_nil_of_le (by omega)]
  simp
 ·simp only[h,show ¬c.length+o+n≤c.length+cs.length by omega,decide_false,ldC]
theorem jn0 {c:List (qa×Bool)}{cs:List (qa×Bool)}{o:Nat}{vs:List qa}:qah (c++cs) (c.length+o) vs=(qah cs o vs).map (c++·):=by
 simp only[qrr,List.length_append]
 by_cases h:o+vs.length≤cs.length
 ·simp only[h,show c.length+o+vs.length≤c.length+cs.length by omega,decide_true,Bool.true_and]
  cases vs.all zj with
  |false=>rfl
  |true=>
   simp only[q3x,Option.map_some]
   congr 1
   rw[List.take_append,List.take_of_length_le (by omega),List.drop_append,List.drop_eq_nil_of_le (by omega)]
   simp[Nat.add_assoc]
 ·simp only[h,show ¬c.length+o+vs.length≤c.length+cs.length by omega,decide_false,Bool.false_and,stC]
  rfl
theorem jat:∀ {l:List qb} {i:Nat} {p:qb},l[i]?=some p→qao (pcl l) (i*8+7) 1=some [.int .i64 p.stock]
 | [],i,p,h=>by simp at h
 |q::l,0,p,h=>by
  simp only[List.getElem?_cons_zero,Option.some.injEq]at h
  subst h
  rw[qct]
  rfl
 |q::l,i+1,p,h=>by
  simp only[List.getElem?_cons_succ]at h
  rw[qct,show(i+1)*8+7=(pc8 q).length+(i*8+7) by show _=8+_;omega,jmx,jat h]
theorem q9h:∀ {l:List qb} {i:Nat} {p:qb} {x:Int},l[i]?=some p→qah (pcl l) (i*8+7) [.int .i64 x]=some (pcl (l.set i (qmf p x)))
 | [],i,p,x,h=>by simp at h
 |q::l,0,p,x,h=>by
  simp only[List.getElem?_cons_zero,Option.some.injEq]at h
  subst h
  rw[List.set_cons_zero,qct,qct]
  rfl
 |q::l,i+1,p,x,h=>by
  simp only[List.getElem?_cons_succ]at h
  rw[List.set_cons_succ,qct,qct,show(i+1)*8+7=(pc8 q).length+(i*8+7) by show _=8+_;omega,jn0,q9h h]
  rfl
def qjn (n:Nat)(l:List qb)(i:Int):Option qb:=if 0≤i∧i<n then l[i.toNat]? else none
theorem qss {n:Nat}{l:List qb}{i:Int}{v:qb}(hv:qjn n l i=some v):0≤i∧i<n∧l[i.toNat]?=some v:=by
 unfold qjn at hv
 split at hv
 ·next hi=>exact⟨hi.1,hi.2,hv⟩
 ·cases hv
section
variable {p:qn}{xc:XC}{h0:Nat}{al:Option (List Nat)}{e:Env}{h:zd}
theorem qpo {n b:Nat}{k:IntKind}{l:List qb}{i:Int}{v:qb}(hv:qjn n l i=some v):qq9 8 h (some (.ms b 0 n)) (some (.int k i))=some ⟨.ptr b (i.toNat*8),false,none,h⟩:=by
 obtain⟨h1,h2,_⟩:=qss hv
 simp only[qq9,qek,q6l h1 h2,val,Nat.zero_add]
theorem qtd {n:Nat}{l:List qb}{i:Int}{v:qb}(hv:qjn n l i=some v):qao (pcl l) (i.toNat*8+7) 1=some [.int .i64 v.stock]:=jat (qss hv).2.2
theorem q9m {n:Nat}{l:List qb}{i x:Int}{v:qb}(hv:qjn n l i=some v):qah (pcl l) (i.toNat*8+7) [.int .i64 x]=some (pcl (l.set i.toNat (qmf v x))):=q9h (qss hv).2.2
def qqs:qb:=⟨[],[],0,0,0,0,0,0⟩
theorem q43 {n:Nat}:cellsOf (List.replicate n [qa.str [],.str [],.int .i64 0,.int .i64 0,.int .i64 0,.int .i64 0,.int .i64 0,.int .i64 0]).flatten=pcl (List.replicate n qqs):=by
 induction n with
 |zero=>rfl
 |succ n ih=>
  simp only[List.replicate_succ,List.flatten_cons,qct]
  simp only[cellsOf]at ih ⊢
  simp only[List.map_append,ih];rfl
theorem jv6 {r b n:Nat}(hn:n≤1073741824):q7t h0 r 8 b [.str [],.str [],.int .i64 0,.int .i64 0,.int .i64 0,.int .i64 0,.int .i64 0,.int .i64 0] h (some (.int .i64 (n:Int))) (some (.int .i64 (n:Int)))=ifR (decide (b≤4096)) (qbv (newBox h0 h r (.cells (pcl (List.replicate n qqs)))) (.ms (h0+r) 0 n)):=by
 show(bif Nat.beq n n&&Nat.ble n 1073741824&&Nat.ble b 4096&&Nat.beq 8 8&&Nat.blt 0 8&&true then _ else _)=_
 simp only[qkm,qbx,qdb,hn,decide_true,Bool.true_and,Bool.and_true,show(0:Nat)<8 from by decide]
 rw[q43]
 by_cases hb:b≤4096
 ·simp only[hb,decide_true,cT,ifR,qbv]
  cases newBox h0 h r (.cells (pcl (List.replicate n qqs)))<;>rfl
 ·simp only[hb,decide_false,cF,ifR]
def q1f (sz len o b:Nat)(vy:qa)(h:zd)(cs:Option (List (qa×Bool))):Option qm:=match cs with
 |some cs=>(match qki sz len vy with
  |some (n,vs)=>(match qah cs o vs with
   |some cs'=>bif Nat.beq vs.length (n*sz)then(match yv h b (.cells cs')with
    |some h'=>val h' (.int .i64 n)
    |none=>none)else none
   |none=>none)
  |none=>none)
 |none=>none
@[go_sem] theorem jyi {sz b o len:Nat}{vy:qa}:q8p h0 al sz h (some (.ms b o len)) (some vy)=ifR (kg h0 al b) (q1f sz len o b vy h (yl h b)):=by
 unfold q8p q1f
 simp only[ifR]
 cases kg h0 al b<;>rfl
theorem qxo {l:List qb}:(l.map zi).flatMap qa.flat=(pcl l).map (·.1):=by
 induction l with
 |nil=>rfl
 |cons q l ih=>rw[List.map_cons,List.flatMap_cons,ih,qct,List.map_append];rfl
theorem jhg {l:List qb}:((pcl l).map (·.1)).all zj=true:=by
 induction l with
 |nil=>rfl
 |cons q l ih=>rw[qct,List.map_append,List.all_append,ih];rfl
theorem q24 {l:List qb}:((pcl l).map (·.1)).map (·,false)=pcl l:=by
 induction l with
 |nil=>rfl
 |cons q l ih=>rw[qct,List.map_append,List.map_append,ih];rfl
def jnv (r:Option zd)(n:Nat):Option qm:=match r with
 |some h'=>some ⟨.int .i64 n,false,none,h'⟩
 |none=>none
@[go_sem] theorem jw9 {n:Nat}:jnv (some h) n=some ⟨.int .i64 n,false,none,h⟩:=rfl
theorem jra {b:Nat}{o:Option (List qb)}:q1f 8 (o.getD []).length 0 b (sl 8 zi o) h (some (pcl (List.replicate (o.getD []).length qqs)))=jnv (yv h b (.cells (pcl (o.getD [])))) (o.getD []).length:=by
 have hs:qki 8 (o.getD []).length (sl 8 zi o)=some ((o.getD []).length,(pcl (o.getD [])).map (·.1)):=by
  cases o with
  |none=>rfl
  |some l=>
   show(bif Nat.beq 8 8||(l.map zi).isEmpty then some (min (l.map zi).length l.length,((l.map zi).take l.length).flatMap qa.flat)else none)=_
   rw[show Nat.beq 8 8=true from rfl,Bool.true_or,cT,List.length_map,Nat.min_self,List.take_of_length_le (by rw[List.length_map];exact Nat.le_refl _),qxo]
   rfl
 unfold q1f
 simp only[hs]
 have hl:((pcl (o.getD [])).map (·.1)).length=(o.getD []).length*8:=by rw[List.length_map,qop]
 have hst:qah (pcl (List.replicate (o.getD []).length qqs)) 0 ((pcl (o.getD [])).map (·.1))=some (pcl (o.getD [])):=by
  simp only[qrr,hl,qop,List.length_replicate,Nat.zero_add,Nat.le_refl,decide_true,jhg,Bool.and_self,q3x]
  rw[List.take_zero,List.nil_append,q24,List.drop_eq_nil_of_le (by rw[qop,List.length_replicate];exact Nat.le_refl _),List.append_nil]
 simp only[hst,hl,Nat.beq_refl,cT]
 cases yv h b (.cells (pcl (o.getD [])))<;>rfl
theorem jsp {r b t:Nat}{o:Option (List qb)}(hn:(o.getD []).length≤1073741824):q1j h0 r 8 b h (some t) (some (.list false 8 [])) (some (sl 8 zi o))=ifR (decide (b≤4096)) (q2l (some t) (.ms (h0+r) 0 (o.getD []).length) (newBox h0 h r (.cells (pcl (o.getD []))))):=by
 have hc:cellsOf (((o.getD []).map zi).flatMap qa.flat)=pcl (o.getD []):=by
  rw[qxo];exact q24
 simp only[q1j,Option.isSome_some,qkm,decide_true,Bool.and_self,cT,q97,List.length_map,qbx,qdb,hn,Bool.true_and,hc]
 by_cases hb:b≤4096
 ·simp only[hb,decide_true,Bool.and_self,cT,ifR,q2l,show(0:Nat)<8 from by decide]
 ·simp only[hb,decide_false,Bool.false_and,cF,ifR]
theorem q35:∀ {l:List qb},qix 8 l.length ((pcl l).map (·.1))=l.map zi
 | []=>rfl
 |q::l=>by
  rw[qct,List.map_append,List.length_cons,List.map_cons,←q35]
  rfl
theorem qwr {s:Nat}{env:Env}{l:List qb}{o:Bool}(hs:Abs.look s env=some (.ms 0 0 l.length,o))(he:(env.all fun y=>Nat.beq y.1 s||Abs.below 0 y.2.1)=true):
  qr4 s 8 ⟨env,[.cells (pcl l)]⟩=some ⟨(s,sl 8 zi (some l),false)::env,[]⟩:=by
 unfold qr4
 simp only[hs]
 have h1:((pcl l).all fun c=>Abs.below 0 c.1&&!c.1.isAgg)=true:=by
  rw[List.all_eq_true];intro x hx
  obtain⟨q,_,hq⟩:=List.mem_flatMap.1 hx
  simp only[pc8,List.mem_cons,List.not_mem_nil,or_false]at hq
  rcases hq with rfl|rfl|rfl|rfl|rfl|rfl|rfl|rfl<;>rfl
 have h2:Nat.beq (l.length*8) (pcl l).length=true:=by rw[qop];exact Nat.beq_refl _
 simp only[h1,h2,he,show Nat.blt 0 8=true from rfl,Bool.and_self,cT]
 rw[q35];rfl
end
def qgx (n:Nat)(ch:Option (List Int))(s:Int×List qb):Option ((Int×List qb)⊕(List qb⊕(Int×List qb))):=
 cond (decide (s.1<((ch.getD []).length:Int))) (j5 (yd (ch.getD []) s.1) fun c=>j5 (qjn n s.2 c) fun p=>
  cond (decide (p.stock=0)) (some (.inr (.inl s.2))) (some (.inl (za .i64 (s.1+1),s.2.set c.toNat (qmf p (za .i64 (p.stock-1))))))) (some (.inr (.inr s)))
def qp3 (n:Nat)(ch:Option (List Int))(s:Int×List qb):qc:=⟨[(6,.ms 0 0 n,false),(15,sl 1 zh ch,false),(16,.int .i64 ((ch.getD []).length:Int),false),(17,.int .i64 s.1,false)],[.cells (pcl s.2)]⟩
def qud (n:Nat)(ch:Option (List Int)):List qb⊕(Int×List qb)→qi×qc
 | .inl l=>(.ret,⟨[(4,.list true 0 [],false),(5,.bool false,false)],[.cells (pcl l)]⟩)
 | .inr s=>(.exit 0,⟨[(6,.ms 0 0 n,false),(15,sl 1 zh ch,false),(16,.int .i64 ((ch.getD []).length:Int),false),(17,.int .i64 s.1,false),(18,.bool false,false)],[.cells (pcl s.2)]⟩)
theorem j0k (n:Nat)(ch:Option (List Int))(s r)(h:qgx n ch s=some r):yh pr qoa (qp3 n ch) (qud n ch) s r:=by
 unfold qgx at h
 rcases j0 h with⟨h1,k⟩|⟨h1,k⟩
 ·obtain⟨c,h2,k⟩:=jz k
  obtain⟨p,h3,k⟩:=jz k
  rcases j0 k with⟨h4,k⟩|⟨h4,k⟩
  ·cases k
   have h4':p.stock=0:=by simpa using h4
   exact j8 (by simp only[go_sem,seval,qoa,qp3,qud,h1,zf h2,qpo h3,qtd h3,h4,h4']<;>rfl)
  ·cases k
   have h4':¬p.stock=0:=by simpa using h4
   exact qex (st':=⟨[(6,.ms 0 0 n,false),(15,sl 1 zh ch,false),(16,.int .i64 ((ch.getD []).length:Int),false),(17,.int .i64 (za .i64 (s.1+1)),false)],[.cells (pcl (s.2.set c.toNat (qmf p (za .i64 (p.stock-1)))))]⟩) (by simp only[go_sem,seval,qoa,qp3,h1,zf h2,qpo h3,qtd h3,q9m h3,h4,h4']<;>rfl) (qks (Nat.le_refl _))
 ·cases k
  exact j8 (by simp only[go_sem,seval,qoa,qp3,h1,qud]<;>rfl)
theorem j26 (n:Nat)(ch:Option (List Int)){s d}(h:itO (qgx n ch) s=some d):X pr (.loop qoa) (qp3 n ch s)=some (qud n ch d):=yo (j0k n ch) (fun d=>by rcases d with d|d<;>(intro hh;cases hh)) h
def f138 (ps:Option (List qb))(ch:Option (List Int)):Option (Option (List qb)×Bool):=
 cond (decide ((ps.getD []).length≤1073741824)) (j5 (itO (qgx (ps.getD []).length ch) (0,ps.getD [])) fun d=>match d with
  | .inl _=>some (none,false)
  | .inr s=>cond (decide (s.2.length=(ps.getD []).length)) (some (some s.2,true)) none) none
def sqL:qe→qe
 | .seq a _=>a
 |x=>x
def sqR:qe→qe
 | .seq _ b=>b
 |x=>x
def g138:jb:=.seq (.code (sqL c138.body)) (.seq (.code (sqL (sqR c138.body))) (.seq (.code (sqL (sqR (sqR c138.body)))) (.seq (.code (sqL (sqR (sqR (sqR c138.body))))) (.shut 6 8 (.code (sqR (sqR (sqR (sqR c138.body)))))))))
theorem jzi {ps:Option (List qb)}{ch:Option (List Int)}{r}(h:f138 ps ch=some r):qa3 Tryz.prog 138 [sl 8 zi ps,sl 1 zh ch] (.tup [sl 8 zi r.1,.bool r.2]) false:=by
 unfold f138 at h
 rcases j0 h with⟨h1,k⟩|⟨h1,k⟩
 ·have hn:(ps.getD []).length≤1073741824:=of_decide_eq_true h1
  obtain⟨d,h2,k⟩:=jz k
  have wl:=j26 (ps.getD []).length ch h2
  have e1:X pr (sqL c138.body) ⟨qbr 0 [sl 8 zi ps,sl 1 zh ch],[]⟩=some (.normal,⟨[(0,sl 8 zi ps,false),(1,sl 1 zh ch,false)],[]⟩):=by simp only[go_sem,seval,c138,sqL]<;>rfl
  have e2:X pr (sqL (sqR c138.body)) ⟨[(0,sl 8 zi ps,false),(1,sl 1 zh ch,false)],[]⟩=some (.normal,⟨[(0,sl 8 zi ps,false),(1,sl 1 zh ch,false),(6,.ms 0 0 (ps.getD []).length,false)],[.cells (pcl (List.replicate (ps.getD []).length qqs))]⟩):=by simp only[go_sem,seval,c138,sqL,sqR,jv6 hn]<;>rfl
  have e3:X pr (sqL (sqR (sqR c138.body))) ⟨[(0,sl 8 zi ps,false),(1,sl 1 zh ch,false),(6,.ms 0 0 (ps.getD []).length,false)],[.cells (pcl (List.replicate (ps.getD []).length qqs))]⟩=some (.normal,⟨[(1,sl 1 zh ch,false),(6,.ms 0 0 (ps.getD []).length,false)],[.cells (pcl (ps.getD []))]⟩):=by simp only[go_sem,seval,c138,sqL,sqR,jra]<;>rfl
  cases d with
  |inl l=>
   cases k
   simp only[qp3,qud]at wl
   have e4:X pr (sqL (sqR (sqR (sqR c138.body)))) ⟨[(1,sl 1 zh ch,false),(6,.ms 0 0 (ps.getD []).length,false)],[.cells (pcl (ps.getD []))]⟩=some (.ret,⟨[(4,.list true 0 [],false),(5,.bool false,false)],[.cells (pcl l)]⟩):=by simp only[go_sem,seval,c138,sqL,sqR,wl]<;>rfl
   have hg:qx pr g138 ⟨qbr 0 [sl 8 zi ps,sl 1 zh ch],[]⟩ .ret ⟨[(4,.list true 0 [],false),(5,.bool false,false)],[.cells (pcl l)]⟩:=.seqN rfl (.code e1) (.seqN rfl (.code e2) (.seqN rfl (.code e3) (.seqX rfl (.code e4) (by intro hh;cases hh))))
   exact qpw (okM ok0) (show pr.fns 138=some c138 from rfl) (show c138.body=g138.erase from rfl) (by simp[c138]) hg (.inr rfl) (show qaj _ c138.results=some [(.list true 0 [],false),(.bool false,false)]from rfl) rfl rfl
  |inr s=>
   dsimp only at k
   rcases j0 k with⟨h3,k⟩|⟨h3,k⟩
   ·cases k
    have h3':s.2.length=(ps.getD []).length:=of_decide_eq_true h3
    simp only[qp3,qud]at wl
    have e4:X pr (sqL (sqR (sqR (sqR c138.body)))) ⟨[(1,sl 1 zh ch,false),(6,.ms 0 0 (ps.getD []).length,false)],[.cells (pcl (ps.getD []))]⟩=some (.normal,⟨[(6,.ms 0 0 (ps.getD []).length,false),(15,sl 1 zh ch,false),(16,.int .i64 ((ch.getD []).length:Int),false),(17,.int .i64 s.1,false),(18,.bool false,false)],[.cells (pcl s.2)]⟩):=by simp only[go_sem,seval,c138,sqL,sqR,wl]<;>rfl
    have hsh:=qwr (s:=6) (env:=[(6,.ms 0 0 (ps.getD []).length,false),(15,sl 1 zh ch,false),(16,.int .i64 ((ch.getD []).length:Int),false),(17,.int .i64 s.1,false),(18,.bool false,false)]) (l:=s.2) (o:=false) (by rw[h3'];rfl) (by
     have hb:Abs.below 0 (sl 1 zh ch)=true:=by simp only[go_sem,seval]
     show(true&&(Abs.below 0 (sl 1 zh ch)&&(true&&(true&&(true&&true)))))=true
     rw[hb];rfl)
    have e5:X pr (sqR (sqR (sqR (sqR c138.body)))) ⟨(6,sl 8 zi (some s.2),false)::[(6,.ms 0 0 (ps.getD []).length,false),(15,sl 1 zh ch,false),(16,.int .i64 ((ch.getD []).length:Int),false),(17,.int .i64 s.1,false),(18,.bool false,false)],[]⟩=some (.ret,⟨[(4,sl 8 zi (some s.2),false),(5,.bool true,false)],[]⟩):=by simp only[go_sem,seval,c138,sqL,sqR]<;>rfl
    have hg:qx pr g138 ⟨qbr 0 [sl 8 zi ps,sl 1 zh ch],[]⟩ .ret ⟨[(4,sl 8 zi (some s.2),false),(5,.bool true,false)],[]⟩:=.seqN rfl (.code e1) (.seqN rfl (.code e2) (.seqN rfl (.code e3) (.seqN rfl (.code e4) (.shut hsh (.code e5)))))
    exact qpw (okM ok0) (show pr.fns 138=some c138 from rfl) (show c138.body=g138.erase from rfl) (by simp[c138]) hg (.inr rfl) (show qaj _ c138.results=some [(sl 8 zi (some s.2),false),(.bool true,false)]from rfl) rfl (by
     have hb:Abs.below 0 (sl 8 zi (some s.2))=true:=by simp only[go_sem,seval]
     show(Abs.below 0 (sl 8 zi (some s.2))&&(true&&true))=true
     rw[hb];rfl)
   ·cases k
 ·cases k
def qj8 (n:Nat)(ch:Option (List Int))(s:Int×List qb):Option ((Int×List qb)⊕(Int×List qb)):=
 cond (decide (s.1<((ch.getD []).length:Int))) (j5 (yd (ch.getD []) s.1) fun c=>j5 (qjn n s.2 c) fun p=>
  some (.inl (za .i64 (s.1+1),s.2.set c.toNat (qmf p (za .i64 (p.stock-1)))))) (some (.inr s))
def q3o (n:Nat)(ch:Option (List Int))(s:Int×List qb):qc:=⟨[(1,sl 1 zh ch,false),(6,.ms 0 0 n,false),(7,.int .i64 s.1,false)],[.cells (pcl s.2)]⟩
def q83 (n:Nat)(ch:Option (List Int))(s:Int×List qb):qi×qc:=(.exit 0,⟨[(1,sl 1 zh ch,false),(6,.ms 0 0 n,false),(7,.int .i64 s.1,false),(15,.bool false,false)],[.cells (pcl s.2)]⟩)
theorem b72 (n:Nat)(ch:Option (List Int))(s r)(h:qj8 n ch s=some r):yh pr qyg (q3o n ch) (q83 n ch) s r:=by
 unfold qj8 at h
 rcases j0 h with⟨h1,k⟩|⟨h1,k⟩
 ·obtain⟨c,h2,k⟩:=jz k
  obtain⟨p,h3,k⟩:=jz k
  cases k
  exact qex (st':=⟨[(1,sl 1 zh ch,false),(6,.ms 0 0 n,false),(7,.int .i64 (za .i64 (s.1+1)),false)],[.cells (pcl (s.2.set c.toNat (qmf p (za .i64 (p.stock-1)))))]⟩) (by simp only[go_sem,seval,qyg,q3o,h1,zf h2,qpo h3,qtd h3,q9m h3]<;>rfl) (qks (Nat.le_refl _))
 ·cases k
  exact j8 (by simp only[go_sem,seval,qyg,q3o,h1,q83]<;>rfl)
theorem l72 (n:Nat)(ch:Option (List Int)){s d}(h:itO (qj8 n ch) s=some d):X pr (.loop qyg) (q3o n ch s)=some (q83 n ch d):=yo (b72 n ch) (fun d hh=>by cases hh) h
def qpy (n:Nat)(l:List qb)(i:Int):Option (Int⊕(Unit⊕Int)):=
 cond (decide (i<(n:Int))) (j5 (qjn n l i) fun p=>cond (decide (p.stock<0)) (some (.inr (.inl ()))) (some (.inl (za .i64 (i+1))))) (some (.inr (.inr i)))
def qqu (n:Nat)(l:List qb)(i:Int):qc:=⟨[(6,.ms 0 0 n,false),(8,.int .i64 i,false)],[.cells (pcl l)]⟩
def qt1 (n:Nat)(l:List qb):Unit⊕Int→qi×qc
 | .inl _=>(.ret,⟨[(4,.list true 0 [],false),(5,.bool false,false)],[.cells (pcl l)]⟩)
 | .inr i=>(.exit 2,⟨[(6,.ms 0 0 n,false),(8,.int .i64 i,false),(32,.bool false,false)],[.cells (pcl l)]⟩)
theorem j2t (n:Nat)(l:List qb)(i r)(h:qpy n l i=some r):yh pr qut (qqu n l) (qt1 n l) i r:=by
 unfold qpy at h
 rcases j0 h with⟨h1,k⟩|⟨h1,k⟩
 ·obtain⟨p,h3,k⟩:=jz k
  rcases j0 k with⟨h4,k⟩|⟨h4,k⟩
  ·cases k
   exact j8 (by simp only[go_sem,seval,qut,qqu,qt1,h1,qpo h3,qtd h3,h4]<;>rfl)
  ·cases k
   exact qex (st':=⟨[(6,.ms 0 0 n,false),(8,.int .i64 (za .i64 (i+1)),false)],[.cells (pcl l)]⟩) (by simp only[go_sem,seval,qut,qqu,h1,qpo h3,qtd h3,h4]<;>rfl) (qks (Nat.le_refl _))
 ·cases k
  exact j8 (by simp only[go_sem,seval,qut,qqu,h1,qt1]<;>rfl)
theorem j17 (n:Nat)(l:List qb){i d}(h:itO (qpy n l) i=some d):X pr (.loop qut) (qqu n l i)=some (qt1 n l d):=yo (j2t n l) (fun d=>by rcases d with d|d<;>(intro hh;cases hh)) h
def f72 (ps:Option (List qb))(ch:Option (List Int)):Option (Option (List qb)×Bool):=
 cond (decide ((ps.getD []).length≤1073741824)) (j5 (itO (qj8 (ps.getD []).length ch) (0,ps.getD [])) fun s=>j5 (itO (qpy (ps.getD []).length s.2) 0) fun d=>match d with
  | .inl _=>some (none,false)
  | .inr _=>cond (decide (s.2.length=(ps.getD []).length)) (some (some s.2,true)) none) none
def g72:jb:=.seq (.code (sqL c72.body)) (.seq (.code (sqL (sqR c72.body))) (.seq (.code (sqL (sqR (sqR c72.body)))) (.seq (.code (sqL (sqR (sqR (sqR c72.body))))) (.shut 6 8 (.code (sqR (sqR (sqR (sqR c72.body)))))))))
theorem T72 {ps:Option (List qb)}{ch:Option (List Int)}{r}(h:f72 ps ch=some r):qa3 Tryz.prog 72 [sl 8 zi ps,sl 1 zh ch] (.tup [sl 8 zi r.1,.bool r.2]) false:=by
 unfold f72 at h
 rcases j0 h with⟨h1,k⟩|⟨h1,k⟩
 ·have hn:(ps.getD []).length≤1073741824:=of_decide_eq_true h1
  obtain⟨s,h2,k⟩:=jz k
  obtain⟨d,h3,k⟩:=jz k
  have wl:=l72 (ps.getD []).length ch h2
  have wk:=j17 (ps.getD []).length s.2 h3
  simp only[q3o,q83]at wl
  have e1:X pr (sqL c72.body) ⟨qbr 0 [sl 8 zi ps,sl 1 zh ch],[]⟩=some (.normal,⟨[(0,sl 8 zi ps,false),(1,sl 1 zh ch,false)],[]⟩):=by simp only[go_sem,seval,c72,sqL]<;>rfl
  have e2:X pr (sqL (sqR c72.body)) ⟨[(0,sl 8 zi ps,false),(1,sl 1 zh ch,false)],[]⟩=some (.normal,⟨[(1,sl 1 zh ch,false),(6,.ms 0 0 (ps.getD []).length,false)],[.cells (pcl (ps.getD []))]⟩):=by simp only[go_sem,seval,c72,sqL,sqR,jsp hn]<;>rfl
  have e3:X pr (sqL (sqR (sqR c72.body))) ⟨[(1,sl 1 zh ch,false),(6,.ms 0 0 (ps.getD []).length,false)],[.cells (pcl (ps.getD []))]⟩=some (.normal,⟨[(1,sl 1 zh ch,false),(6,.ms 0 0 (ps.getD []).length,false),(7,.int .i64 s.1,false),(15,.bool false,false)],[.cells (pcl s.2)]⟩):=by simp only[go_sem,seval,c72,sqL,sqR,wl]<;>rfl
  cases d with
  |inl u=>
   cases k
   simp only[qqu,qt1]at wk
   have e4:X pr (sqL (sqR (sqR (sqR c72.body)))) ⟨[(1,sl 1 zh ch,false),(6,.ms 0 0 (ps.getD []).length,false),(7,.int .i64 s.1,false),(15,.bool false,false)],[.cells (pcl s.2)]⟩=some (.ret,⟨[(4,.list true 0 [],false),(5,.bool false,false)],[.cells (pcl s.2)]⟩):=by simp only[go_sem,seval,c72,sqL,sqR,wk]<;>rfl
   have hg:qx pr g72 ⟨qbr 0 [sl 8 zi ps,sl 1 zh ch],[]⟩ .ret ⟨[(4,.list true 0 [],false),(5,.bool false,false)],[.cells (pcl s.2)]⟩:=.seqN rfl (.code e1) (.seqN rfl (.code e2) (.seqN rfl (.code e3) (.seqX rfl (.code e4) (by intro hh;cases hh))))
   exact qpw (okM ok0) (show pr.fns 72=some c72 from rfl) (show c72.body=g72.erase from rfl) (by simp[c72]) hg (.inr rfl) (show qaj _ c72.results=some [(.list true 0 [],false),(.bool false,false)]from rfl) rfl rfl
  |inr i=>
   dsimp only at k
   rcases j0 k with⟨h4,k⟩|⟨h4,k⟩
   ·cases k
    have h4':s.2.length=(ps.getD []).length:=of_decide_eq_true h4
    simp only[qqu,qt1]at wk
    have e4:X pr (sqL (sqR (sqR (sqR c72.body)))) ⟨[(1,sl 1 zh ch,false),(6,.ms 0 0 (ps.getD []).length,false),(7,.int .i64 s.1,false),(15,.bool false,false)],[.cells (pcl s.2)]⟩=some (.normal,⟨[(6,.ms 0 0 (ps.getD []).length,false),(8,.int .i64 i,false),(32,.bool false,false)],[.cells (pcl s.2)]⟩):=by simp only[go_sem,seval,c72,sqL,sqR,wk]<;>rfl
    have hsh:=qwr (s:=6) (env:=[(6,.ms 0 0 (ps.getD []).length,false),(8,.int .i64 i,false),(32,.bool false,false)]) (l:=s.2) (o:=false) (by rw[h4'];rfl) rfl
    have e5:X pr (sqR (sqR (sqR (sqR c72.body)))) ⟨(6,sl 8 zi (some s.2),false)::[(6,.ms 0 0 (ps.getD []).length,false),(8,.int .i64 i,false),(32,.bool false,false)],[]⟩=some (.ret,⟨[(4,sl 8 zi (some s.2),false),(5,.bool true,false)],[]⟩):=by simp only[go_sem,seval,c72,sqL,sqR]<;>rfl
    have hg:qx pr g72 ⟨qbr 0 [sl 8 zi ps,sl 1 zh ch],[]⟩ .ret ⟨[(4,sl 8 zi (some s.2),false),(5,.bool true,false)],[]⟩:=.seqN rfl (.code e1) (.seqN rfl (.code e2) (.seqN rfl (.code e3) (.seqN rfl (.code e4) (.shut hsh (.code e5)))))
    exact qpw (okM ok0) (show pr.fns 72=some c72 from rfl) (show c72.body=g72.erase from rfl) (by simp[c72]) hg (.inr rfl) (show qaj _ c72.results=some [(sl 8 zi (some s.2),false),(.bool true,false)]from rfl) rfl (by
     have hb:Abs.below 0 (sl 8 zi (some s.2))=true:=by simp only[go_sem,seval]
     show(Abs.below 0 (sl 8 zi (some s.2))&&(true&&true))=true
     rw[hb];rfl)
   ·cases k
 ·cases k
end Go.Z
namespace Go.Z
open Go Go.Abs Go.Proofs
theorem q6r {α:Type}{z:Nat}{f:α→qa}(hf:∀a b,f a=f b→a=b):∀ {x y:Option (List α)},sl z f x=sl z f y→x=y:=by
 intro x y h
 cases x with
 |none=>
  cases y with
  |none=>rfl
  |some l=>simp[sl]at h
 |some l=>
  cases y with
  |none=>simp[sl]at h
  |some l'=>
   simp only[sl,qa.list.injEq,true_and]at h
   have:∀l l':List α,l.map f=l'.map f→l=l':=by
    intro l
    induction l with
    |nil=>intro l' h;cases l' with
     |nil=>rfl
     |cons b l'=>simp at h
    |cons a l ih=>intro l' h;cases l' with
     |nil=>simp at h
     |cons b l'=>
      simp only[List.map_cons,List.cons.injEq]at h
      rw[hf a b h.1,ih l' h.2]
   rw[this l l' h]
theorem jce (a b:Int)(h:zh a=zh b):a=b:=by simp only[zh,qa.int.injEq,true_and]at h;exact h
theorem q89 (a b:qb)(h:zi a=zi b):a=b:=by
 simp only[zi,qa.agg.injEq,List.cons.injEq,qa.str.injEq,qa.int.injEq,true_and,and_true]at h
 cases a;cases b;simp_all
def A2 (x:Option (List qb)×Option (List Int)):List qa:=[sl 8 zi x.1,sl 1 zh x.2]
theorem jjl {x y}(h:A2 x=A2 y):x=y:=by
 simp only[A2,List.cons.injEq,and_true]at h
 obtain⟨a,b⟩:=x
 obtain⟨a',b'⟩:=y
 have e1:=q6r q89 h.1
 have e2:=q6r jce h.2
 simp only at e1 e2
 rw[e1,e2]
abbrev FT:=Option (List qb)→Option (List Int)→Option (Option (List qb)×Bool)
def tkT (f:FT):List qa→Option (qa×Bool):=fun args=>open Classical in
 if h:∃x,args=A2 x then(f h.choose.1 h.choose.2).map fun r=>(.tup [sl 8 zi r.1,.bool r.2],false)else none
theorem q2v (f:FT)(x):tkT f (A2 x)=(f x.1 x.2).map fun r=>(.tup [sl 8 zi r.1,.bool r.2],false):=by
 unfold tkT
 have h:∃y,A2 x=A2 y:=⟨x,rfl⟩
 rw[dif_pos h]
 have:=jjl h.choose_spec
 rw[←this]
theorem q4f {f:FT}{args:List qa}{v:qa}{o:Bool}(h:tkT f args=some (v,o)):∃x r,args=A2 x∧f x.1 x.2=some r∧v=.tup [sl 8 zi r.1,.bool r.2]∧o=false:=by
 have h0:=h
 unfold tkT at h
 split at h
 ·rename_i hh
  obtain⟨x,rfl⟩:=hh
  rw[q2v,Option.map_eq_some_iff]at h0
  obtain⟨r,h1,h2⟩:=h0
  simp only[Prod.mk.injEq]at h2
  exact⟨x,r,rfl,h1,h2.1.symm,h2.2.symm⟩
 ·cases h
def q8n:qil:=fun k=>bif Nat.beq k 138 then some (tkT f138)else bif Nat.beq k 72 then some (tkT f72)else none
def opT (k:Nat):Bool:=[68,69,115,37,84,85,120,41,87,88,3,4,5,6,7,8,9,10,11,12,13,14,15].any (Nat.beq k)
def prT:qn:=qb9 pr q8n opT
theorem okT:qu Tryz.prog prT:=qwc (okM ok0) (by
 intro k f hf
 simp only[q8n,Bool.cond_eq_ite]at hf
 split at hf
 ·next hb=>
  cases hf
  obtain rfl:=Nat.eq_of_beq_eq_true hb
  refine⟨qcw (k:=138) (by kernel_rfl),fun args v o h _ _=>?_⟩
  obtain⟨x,r,rfl,h1,rfl,rfl⟩:=q4f h
  exact jzi h1
 split at hf
 ·next hb=>
  cases hf
  obtain rfl:=Nat.eq_of_beq_eq_true hb
  refine⟨qcw (k:=72) (by kernel_rfl),fun args v o h _ _=>?_⟩
  obtain⟨x,r,rfl,h1,rfl,rfl⟩:=q4f h
  exact T72 h1
 ·cases hf)
theorem atT {k:Nat}(ho:opT k=false)(hm:q8n k=none){args:List qa}{v:qa}{o:Bool}(h:j7 pr (X pr) k args=some (v,o))(hv:Abs.below 0 v=true):j7 prT (X prT) k args=some (v,o):=qw1 ho hm h hv
theorem qzq {a0:Option (List qb)}{a1:Option (List Int)}{r}(h:f138 a0 a1=some r):j7 prT (X prT) 138 [sl 8 zi a0,sl 1 zh a1]=some (.tup [sl 8 zi r.1,.bool r.2],false):=by
 have hb:Abs.below 0 (sl 8 zi r.1)=true:=by simp only[go_sem,seval]
 exact qrg (f:=tkT f138) rfl rfl (by have:=q2v f138 (a0,a1);rw[h]at this;exact this) (by
  show(Abs.below 0 (sl 8 zi r.1)&&(true&&true))=true
  rw[hb];rfl)
theorem W72 {a0:Option (List qb)}{a1:Option (List Int)}{r}(h:f72 a0 a1=some r):j7 prT (X prT) 72 [sl 8 zi a0,sl 1 zh a1]=some (.tup [sl 8 zi r.1,.bool r.2],false):=by
 have hb:Abs.below 0 (sl 8 zi r.1)=true:=by simp only[go_sem,seval]
 exact qrg (f:=tkT f72) rfl rfl (by have:=q2v f72 (a0,a1);rw[h]at this;exact this) (by
  show(Abs.below 0 (sl 8 zi r.1)&&(true&&true))=true
  rw[hb];rfl)
end Go.Z
end
