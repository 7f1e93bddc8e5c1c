/- Chapter 4. -/
import Derived.Test.YtnjngdcbkkonnaaGreatDoorA8
import Derived.Test.YtnjngdcbkkonnaaGreatDoorZL
import Derived.Test.YtnjngdcbkkonnaaGreatDoorZP
import Derived.Test.YtnjngdcbkkonnaaGreatDoorPB
set_option linter.unusedVariables false
set_option linter.unusedSimpArgs false
set_option maxRecDepth 100000
set_option maxHeartbeats 4000000
namespace Go.Z
open Go Go.Abs Go.Proofs
def pc8 (p:ql):List (AVal × Bool):=[(.str p.name,false),(.str p.kd,false),(.int .i64 p.pa,false),(.int .i64 p.pb,false),(.int .i64 p.sa,false),(.int .i64 p.sb,false),(.int .i64 p.cost,false),(.int .i64 p.stock,false)]
def pcl (l:List ql):List (AVal × Bool):=l.flatMap pc8
theorem qa6 {p:ql} {l:List ql}:pcl (p::l)=pc8 p++pcl l:=by simp [pcl]
theorem qlw:∀ {l:List ql},(pcl l).length=l.length * 8
 | []=>rfl
 | p::l=>by rw [qa6,List.length_append,qlw,List.length_cons]; show 8 + _=_; omega
def qi5 (p:ql) (x:Int):ql:={ p with stock:=x }
theorem jin {c:List (AVal × Bool)} {cs:List (AVal × Bool)} {o n:Nat}:yf (c++cs) (c.length + o) n=yf cs o n:=by
 simp only [q0u,List.length_append]
 by_cases h:o + n≤cs.length
 ·simp only [h,show c.length + o + n≤c.length + cs.length by omega,decide_true,q89]
  rw [List.drop_append,List.drop_eq_nil_of_le (by omega)]
  simp
 ·simp only [h,show ¬ c.length + o + n≤c.length + cs.length by omega,decide_false,ldC]
theorem jig {c:List (AVal × Bool)} {cs:List (AVal × Bool)} {o:Nat} {vs:List AVal}:zz (c++cs) (c.length + o) vs=(zz cs o vs).map (c++·):=by
 simp only [qok,List.length_append]
 by_cases h:o + vs.length≤cs.length
 ·simp only [h,show c.length + o + vs.length≤c.length + cs.length by omega,decide_true,Bool.true_and]
  cases vs.all qo with
  | false=>rfl
  | true=>
   simp only [qz5,Option.map_some]
   congr 1
   rw [List.take_append,List.take_of_length_le (by omega),List.drop_append,List.drop_eq_nil_of_le (by omega)]
   simp [Nat.add_assoc]
 ·simp only [h,show ¬ c.length + o + vs.length≤c.length + cs.length by omega,decide_false,Bool.false_and,stC]
  rfl
theorem q75:∀ {l:List ql} {i:Nat} {p:ql},l[i]?=some p→yf (pcl l) (i * 8 + 7) 1=some [.int .i64 p.stock]
 | [],i,p,h=>by simp at h
 | q::l,0,p,h=>by
  simp only [List.getElem?_cons_zero,Option.some.injEq] at h
  subst h
  rw [qa6]
  rfl
 | q::l,i + 1,p,h=>by
  simp only [List.getElem?_cons_succ] at h
  rw [qa6,show (i + 1) * 8 + 7=(pc8 q).length + (i * 8 + 7) by show _=8 + _; omega,jin,q75 h]
theorem q6n:∀ {l:List ql} {i:Nat} {p:ql} {x:Int},l[i]?=some p→zz (pcl l) (i * 8 + 7) [.int .i64 x]=some (pcl (l.set i (qi5 p x)))
 | [],i,p,x,h=>by simp at h
 | q::l,0,p,x,h=>by
  simp only [List.getElem?_cons_zero,Option.some.injEq] at h
  subst h
  rw [List.set_cons_zero,qa6,qa6]
  rfl
 | q::l,i + 1,p,x,h=>by
  simp only [List.getElem?_cons_succ] at h
  rw [List.set_cons_succ,qa6,qa6,show (i + 1) * 8 + 7=(pc8 q).length + (i * 8 + 7) by show _=8 + _; omega,jig,q6n h]
  rfl
def qhh (n:Nat) (l:List ql) (i:Int):Option ql:=if 0≤i∧i < n then l[i.toNat]? else none
theorem qpz {n:Nat} {l:List ql} {i:Int} {v:ql} (hv:qhh n l i=some v):0≤i∧i < n∧l[i.toNat]?=some v:=by
 unfold qhh at hv
 split at hv
 ·next hi=>exact ⟨hi.1,hi.2,hv⟩
 ·cases hv
section
variable {p:jl} {xc:XC} {h0:Nat} {al:Option (List Nat)} {e:Env} {h:qk}
theorem ql6 {n b:Nat} {k:IntKind} {l:List ql} {i:Int} {v:ql} (hv:qhh n l i=some v):qnx 8 h (some (.ms b 0 n)) (some (.int k i))=some ⟨.ptr b (i.toNat * 8),false,none,h⟩:=by
 obtain ⟨h1,h2,_⟩:=qpz hv
 simp only [qnx,qcp,q2v h1 h2,val,Nat.zero_add]
theorem qpx {n:Nat} {l:List ql} {i:Int} {v:ql} (hv:qhh n l i=some v):yf (pcl l) (i.toNat * 8 + 7) 1=some [.int .i64 v.stock]:=q75 (qpz hv).2.2
theorem q5u {n:Nat} {l:List ql} {i x:Int} {v:ql} (hv:qhh n l i=some v):zz (pcl l) (i.toNat * 8 + 7) [.int .i64 x]=some (pcl (l.set i.toNat (qi5 v x))):=q6n (qpz hv).2.2
def qnm:ql:=⟨[],[],0,0,0,0,0,0⟩
theorem q05 {n:Nat}:cellsOf (List.replicate n [AVal.str [],.str [],.int .i64 0,.int .i64 0,.int .i64 0,.int .i64 0,.int .i64 0,.int .i64 0]).flatten=pcl (List.replicate n qnm):=by
 induction n with
 | zero=>rfl
 | succ n ih=>
  simp only [List.replicate_succ,List.flatten_cons,qa6]
  simp only [cellsOf] at ih ⊢
  simp only [List.map_append,ih]; rfl
theorem jmx {r b n:Nat} (hn:n≤1073741824):q3m h0 r 8 b [.str [],.str [],.int .i64 0,.int .i64 0,.int .i64 0,.int .i64 0,.int .i64 0,.int .i64 0] h (some (.int .i64 (n:Int))) (some (.int .i64 (n:Int)))=ifR (decide (b≤4096)) (qaa (newBox h0 h r (.cells (pcl (List.replicate n qnm)))) (.ms (h0 + r) 0 n)):=by
 show (bif Nat.beq n n && Nat.ble n 1073741824 && Nat.ble b 4096 && Nat.beq 8 8 && Nat.blt 0 8 && true then _ else _)=_
 simp only [qic,qae,qbm,hn,decide_true,Bool.true_and,Bool.and_true,show (0:Nat) < 8 from by decide]
 rw [q05]
 by_cases hb:b≤4096
 ·simp only [hb,decide_true,cond_true,ifR,qaa]
  cases newBox h0 h r (.cells (pcl (List.replicate n qnm))) <;> rfl
 ·simp only [hb,decide_false,cond_false,ifR]
def qx4 (sz len o b:Nat) (vy:AVal) (h:qk) (cs:Option (List (AVal × Bool))):Option ORes:=match cs with
 | some cs=>(match qis sz len vy with
  | some (n,vs)=>(match zz cs o vs with
   | some cs'=>bif Nat.beq vs.length (n * sz) then (match jw h b (.cells cs') with
    | some h'=>val h' (.int .i64 n)
    | none=>none) else none
   | none=>none)
  | none=>none)
 | none=>none
@[go_sem] theorem jtt {sz b o len:Nat} {vy:AVal}:q5h h0 al sz h (some (.ms b o len)) (some vy)=ifR (j6 h0 al b) (qx4 sz len o b vy h (jk h b)):=by
 unfold q5h qx4
 simp only [ifR]
 cases j6 h0 al b <;> rfl
theorem qte {l:List ql}:(l.map qq).flatMap AVal.flat=(pcl l).map (·.1):=by
 induction l with
 | nil=>rfl
 | cons q l ih=>rw [List.map_cons,List.flatMap_cons,ih,qa6,List.map_append]; rfl
theorem jeh {l:List ql}:((pcl l).map (·.1)).all qo=true:=by
 induction l with
 | nil=>rfl
 | cons q l ih=>rw [qa6,List.map_append,List.all_append,ih]; rfl
theorem qz2 {l:List ql}:((pcl l).map (·.1)).map (·,false)=pcl l:=by
 induction l with
 | nil=>rfl
 | cons q l ih=>rw [qa6,List.map_append,List.map_append,ih]; rfl
def jhn (r:Option qk) (n:Nat):Option ORes:=match r with
 | some h'=>some ⟨.int .i64 n,false,none,h'⟩
 | none=>none
@[go_sem] theorem js4 {n:Nat}:jhn (some h) n=some ⟨.int .i64 n,false,none,h⟩:=rfl
theorem jm4 {b:Nat} {o:Option (List ql)}:qx4 8 (o.getD []).length 0 b (sl 8 qq o) h (some (pcl (List.replicate (o.getD []).length qnm)))=jhn (jw h b (.cells (pcl (o.getD [])))) (o.getD []).length:=by
 have hs:qis 8 (o.getD []).length (sl 8 qq o)=some ((o.getD []).length,(pcl (o.getD [])).map (·.1)):=by
  cases o with
  | none=>rfl
  | some l=>
   show (bif Nat.beq 8 8 || (l.map qq).isEmpty then some (min (l.map qq).length l.length,((l.map qq).take l.length).flatMap AVal.flat) else none)=_
   rw [show Nat.beq 8 8=true from rfl,Bool.true_or,cond_true,List.length_map,Nat.min_self,List.take_of_length_le (by rw [List.length_map]; exact Nat.le_refl _),qte]
   rfl
 unfold qx4
 simp only [hs]
 have hl:((pcl (o.getD [])).map (·.1)).length=(o.getD []).length * 8:=by rw [List.length_map,qlw]
 have hst:zz (pcl (List.replicate (o.getD []).length qnm)) 0 ((pcl (o.getD [])).map (·.1))=some (pcl (o.getD [])):=by
  simp only [qok,hl,qlw,List.length_replicate,Nat.zero_add,Nat.le_refl,decide_true,jeh,Bool.and_self,qz5]
  rw [List.take_zero,List.nil_append,qz2,List.drop_eq_nil_of_le (by rw [qlw,List.length_replicate]; exact Nat.le_refl _),List.append_nil]
 simp only [hst,hl,Nat.beq_refl,cond_true]
 cases jw h b (.cells (pcl (o.getD []))) <;> rfl
theorem jlq {r b t:Nat} {o:Option (List ql)} (hn:(o.getD []).length≤1073741824):qx9 h0 r 8 b h (some t) (some (.list false 8 [])) (some (sl 8 qq o))=ifR (decide (b≤4096)) (qzu (some t) (.ms (h0 + r) 0 (o.getD []).length) (newBox h0 h r (.cells (pcl (o.getD []))))):=by
 have hc:cellsOf (((o.getD []).map qq).flatMap AVal.flat)=pcl (o.getD []):=by
  rw [qte]; exact qz2
 simp only [qx9,Option.isSome_some,qic,decide_true,Bool.and_self,cond_true,q60,List.length_map,qae,qbm,hn,Bool.true_and,hc]
 by_cases hb:b≤4096
 ·simp only [hb,decide_true,Bool.and_self,cond_true,ifR,qzu,show (0:Nat) < 8 from by decide]
 ·simp only [hb,decide_false,Bool.false_and,cond_false,ifR]
theorem q0q:∀ {l:List ql},qg7 8 l.length ((pcl l).map (·.1))=l.map qq
 | []=>rfl
 | q::l=>by
  rw [qa6,List.map_append,List.length_cons,List.map_cons,← q0q]
  rfl
theorem qtj {s:Nat} {env:Env} {l:List ql} {o:Bool} (hs:Abs.look s env=some (.ms 0 0 l.length,o)) (he:(env.all fun y=>Nat.beq y.1 s || Abs.below 0 y.2.1)=true):
  qo3 s 8 ⟨env,[.cells (pcl l)]⟩=some ⟨(s,sl 8 qq (some l),false)::env,[]⟩:=by
 unfold qo3
 simp only [hs]
 have h1:((pcl l).all fun c=>Abs.below 0 c.1 && !c.1.isAgg)=true:=by
  rw [List.all_eq_true]; intro x hx
  obtain ⟨q,_,hq⟩:=List.mem_flatMap.1 hx
  simp only [pc8,List.mem_cons,List.not_mem_nil,or_false] at hq
  rcases hq with rfl | rfl | rfl | rfl | rfl | rfl | rfl | rfl <;> rfl
 have h2:Nat.beq (l.length * 8) (pcl l).length=true:=by rw [qlw]; exact Nat.beq_refl _
 simp only [h1,h2,he,show Nat.blt 0 8=true from rfl,Bool.and_self,cond_true]
 rw [q0q]; rfl
end
noncomputable def qe5 (n:Nat) (ch:Option (List Int)) (s:Int × List ql):Option ((Int × List ql) ⊕ (List ql ⊕ (Int × List ql))):=
 cond (decide (s.1 < ((ch.getD []).length:Int))) (qc (js (ch.getD []) s.1) fun c=>qc (qhh n s.2 c) fun p=>
  cond (decide (p.stock=0)) (some (.inr (.inl s.2))) (some (.inl (qg .i64 (s.1 + 1),s.2.set c.toNat (qi5 p (qg .i64 (p.stock - 1))))))) (some (.inr (.inr s)))
def qns (n:Nat) (ch:Option (List Int)) (s:Int × List ql):ASt:=⟨[(6,.ms 0 0 n,false),(15,sl 1 qm ch,false),(16,.int .i64 ((ch.getD []).length:Int),false),(17,.int .i64 s.1,false)],[.cells (pcl s.2)]⟩
def qq2 (n:Nat) (ch:Option (List Int)):List ql ⊕ (Int × List ql)→jb × ASt
 | .inl l=>(.ret,⟨[(4,.list true 0 [],false),(5,.bool false,false)],[.cells (pcl l)]⟩)
 | .inr s=>(.exit 0,⟨[(6,.ms 0 0 n,false),(15,sl 1 qm ch,false),(16,.int .i64 ((ch.getD []).length:Int),false),(17,.int .i64 s.1,false),(18,.bool false,false)],[.cells (pcl s.2)]⟩)
theorem jvl (n:Nat) (ch:Option (List Int)) (s r) (h:qe5 n ch s=some r):jt pr ql0 (qns n ch) (qq2 n ch) s r:=by
 unfold qe5 at h
 rcases qb h with ⟨h1,k⟩ | ⟨h1,k⟩
 ·obtain ⟨c,h2,k⟩:=qa k
  obtain ⟨p,h3,k⟩:=qa k
  rcases qb k with ⟨h4,k⟩ | ⟨h4,k⟩
  ·cases k
   have h4':p.stock=0:=by simpa using h4
   exact qh (by simp only [go_sem,seval,ql0,qns,qq2,h1,qu h2,ql6 h3,qpx h3,h4,h4'] <;> rfl)
  ·cases k
   have h4':¬ p.stock=0:=by simpa using h4
   exact qdi (st':=⟨[(6,.ms 0 0 n,false),(15,sl 1 qm ch,false),(16,.int .i64 ((ch.getD []).length:Int),false),(17,.int .i64 (qg .i64 (s.1 + 1)),false)],[.cells (pcl (s.2.set c.toNat (qi5 p (qg .i64 (p.stock - 1)))))]⟩) (by simp only [go_sem,seval,ql0,qns,h1,qu h2,ql6 h3,qpx h3,q5u h3,h4,h4'] <;> rfl) (qib (Nat.le_refl _))
 ·cases k
  exact qh (by simp only [go_sem,seval,ql0,qns,h1,qq2] <;> rfl)
theorem jxi (n:Nat) (ch:Option (List Int)) {s d} (h:itO (qe5 n ch) s=some d):X pr (.loop ql0) (qns n ch s)=some (qq2 n ch d):=j9 (jvl n ch) (fun d=>by rcases d with d | d <;> (intro hh; cases hh)) h
noncomputable def f138 (ps:Option (List ql)) (ch:Option (List Int)):Option (Option (List ql) × Bool):=
 cond (decide ((ps.getD []).length≤1073741824)) (qc (itO (qe5 (ps.getD []).length ch) (0,ps.getD [])) fun d=>match d with
  | .inl _=>some (none,false)
  | .inr s=>cond (decide (s.2.length=(ps.getD []).length)) (some (some s.2,true)) none) none
def sqL:ACode→ACode
 | .seq a _=>a
 | x=>x
def sqR:ACode→ACode
 | .seq _ b=>b
 | x=>x
def g138:GCode:=.seq (.code (sqL c138.body)) (.seq (.code (sqL (sqR c138.body))) (.seq (.code (sqL (sqR (sqR c138.body)))) (.seq (.code (sqL (sqR (sqR (sqR c138.body))))) (.shut 6 8 (.code (sqR (sqR (sqR (sqR c138.body)))))))))
theorem ju8 {ps:Option (List ql)} {ch:Option (List Int)} {r} (h:f138 ps ch=some r):yx Tryz.prog 138 [sl 8 qq ps,sl 1 qm ch] (.tup [sl 8 qq r.1,.bool r.2]) false:=by
 unfold f138 at h
 rcases qb h with ⟨h1,k⟩ | ⟨h1,k⟩
 ·have hn:(ps.getD []).length≤1073741824:=of_decide_eq_true h1
  obtain ⟨d,h2,k⟩:=qa k
  have wl:=jxi (ps.getD []).length ch h2
  have e1:X pr (sqL c138.body) ⟨qad 0 [sl 8 qq ps,sl 1 qm ch],[]⟩=some (.normal,⟨[(0,sl 8 qq ps,false),(1,sl 1 qm ch,false)],[]⟩):=by simp only [go_sem,seval,c138,sqL] <;> rfl
  have e2:X pr (sqL (sqR c138.body)) ⟨[(0,sl 8 qq ps,false),(1,sl 1 qm ch,false)],[]⟩=some (.normal,⟨[(0,sl 8 qq ps,false),(1,sl 1 qm ch,false),(6,.ms 0 0 (ps.getD []).length,false)],[.cells (pcl (List.replicate (ps.getD []).length qnm))]⟩):=by simp only [go_sem,seval,c138,sqL,sqR,jmx hn] <;> rfl
  have e3:X pr (sqL (sqR (sqR c138.body))) ⟨[(0,sl 8 qq ps,false),(1,sl 1 qm ch,false),(6,.ms 0 0 (ps.getD []).length,false)],[.cells (pcl (List.replicate (ps.getD []).length qnm))]⟩=some (.normal,⟨[(1,sl 1 qm ch,false),(6,.ms 0 0 (ps.getD []).length,false)],[.cells (pcl (ps.getD []))]⟩):=by simp only [go_sem,seval,c138,sqL,sqR,jm4] <;> rfl
  cases d with
  | inl l=>
   cases k
   simp only [qns,qq2] at wl
   have e4:X pr (sqL (sqR (sqR (sqR c138.body)))) ⟨[(1,sl 1 qm ch,false),(6,.ms 0 0 (ps.getD []).length,false)],[.cells (pcl (ps.getD []))]⟩=some (.ret,⟨[(4,.list true 0 [],false),(5,.bool false,false)],[.cells (pcl l)]⟩):=by simp only [go_sem,seval,c138,sqL,sqR,wl] <;> rfl
   have hg:qaj pr g138 ⟨qad 0 [sl 8 qq ps,sl 1 qm ch],[]⟩ .ret ⟨[(4,.list true 0 [],false),(5,.bool false,false)],[.cells (pcl l)]⟩:=.seqN rfl (.code e1) (.seqN rfl (.code e2) (.seqN rfl (.code e3) (.seqX rfl (.code e4) (by intro hh; cases hh))))
   exact qnc (okM ok0) (show pr.fns 138=some c138 from rfl) (show c138.body=g138.erase from rfl) (by simp [c138]) hg (.inr rfl) (show ya _ c138.results=some [(.list true 0 [],false),(.bool false,false)] from rfl) rfl rfl
  | inr s=>
   dsimp only at k
   rcases qb k with ⟨h3,k⟩ | ⟨h3,k⟩
   ·cases k
    have h3':s.2.length=(ps.getD []).length:=of_decide_eq_true h3
    simp only [qns,qq2] at wl
    have e4:X pr (sqL (sqR (sqR (sqR c138.body)))) ⟨[(1,sl 1 qm ch,false),(6,.ms 0 0 (ps.getD []).length,false)],[.cells (pcl (ps.getD []))]⟩=some (.normal,⟨[(6,.ms 0 0 (ps.getD []).length,false),(15,sl 1 qm ch,false),(16,.int .i64 ((ch.getD []).length:Int),false),(17,.int .i64 s.1,false),(18,.bool false,false)],[.cells (pcl s.2)]⟩):=by simp only [go_sem,seval,c138,sqL,sqR,wl] <;> rfl
    have hsh:=qtj (s:=6) (env:=[(6,.ms 0 0 (ps.getD []).length,false),(15,sl 1 qm ch,false),(16,.int .i64 ((ch.getD []).length:Int),false),(17,.int .i64 s.1,false),(18,.bool false,false)]) (l:=s.2) (o:=false) (by rw [h3']; rfl) (by
     have hb:Abs.below 0 (sl 1 qm ch)=true:=by simp only [go_sem,seval]
     show (true && (Abs.below 0 (sl 1 qm ch) && (true && (true && (true && true)))))=true
     rw [hb]; rfl)
    have e5:X pr (sqR (sqR (sqR (sqR c138.body)))) ⟨(6,sl 8 qq (some s.2),false)::[(6,.ms 0 0 (ps.getD []).length,false),(15,sl 1 qm ch,false),(16,.int .i64 ((ch.getD []).length:Int),false),(17,.int .i64 s.1,false),(18,.bool false,false)],[]⟩=some (.ret,⟨[(4,sl 8 qq (some s.2),false),(5,.bool true,false)],[]⟩):=by simp only [go_sem,seval,c138,sqL,sqR] <;> rfl
    have hg:qaj pr g138 ⟨qad 0 [sl 8 qq ps,sl 1 qm ch],[]⟩ .ret ⟨[(4,sl 8 qq (some s.2),false),(5,.bool true,false)],[]⟩:=.seqN rfl (.code e1) (.seqN rfl (.code e2) (.seqN rfl (.code e3) (.seqN rfl (.code e4) (.shut hsh (.code e5)))))
    exact qnc (okM ok0) (show pr.fns 138=some c138 from rfl) (show c138.body=g138.erase from rfl) (by simp [c138]) hg (.inr rfl) (show ya _ c138.results=some [(sl 8 qq (some s.2),false),(.bool true,false)] from rfl) rfl (by
     have hb:Abs.below 0 (sl 8 qq (some s.2))=true:=by simp only [go_sem,seval]
     show (Abs.below 0 (sl 8 qq (some s.2)) && (true && true))=true
     rw [hb]; rfl)
   ·cases k
 ·cases k
noncomputable def qh8 (n:Nat) (ch:Option (List Int)) (s:Int × List ql):Option ((Int × List ql) ⊕ (Int × List ql)):=
 cond (decide (s.1 < ((ch.getD []).length:Int))) (qc (js (ch.getD []) s.1) fun c=>qc (qhh n s.2 c) fun p=>
  some (.inl (qg .i64 (s.1 + 1),s.2.set c.toNat (qi5 p (qg .i64 (p.stock - 1)))))) (some (.inr s))
def qzz (n:Nat) (ch:Option (List Int)) (s:Int × List ql):ASt:=⟨[(1,sl 1 qm ch,false),(6,.ms 0 0 n,false),(7,.int .i64 s.1,false)],[.cells (pcl s.2)]⟩
def q3p (n:Nat) (ch:Option (List Int)) (s:Int × List ql):jb × ASt:=(.exit 0,⟨[(1,sl 1 qm ch,false),(6,.ms 0 0 n,false),(7,.int .i64 s.1,false),(15,.bool false,false)],[.cells (pcl s.2)]⟩)
theorem b72 (n:Nat) (ch:Option (List Int)) (s r) (h:qh8 n ch s=some r):jt pr quq (qzz n ch) (q3p n ch) s r:=by
 unfold qh8 at h
 rcases qb h with ⟨h1,k⟩ | ⟨h1,k⟩
 ·obtain ⟨c,h2,k⟩:=qa k
  obtain ⟨p,h3,k⟩:=qa k
  cases k
  exact qdi (st':=⟨[(1,sl 1 qm ch,false),(6,.ms 0 0 n,false),(7,.int .i64 (qg .i64 (s.1 + 1)),false)],[.cells (pcl (s.2.set c.toNat (qi5 p (qg .i64 (p.stock - 1)))))]⟩) (by simp only [go_sem,seval,quq,qzz,h1,qu h2,ql6 h3,qpx h3,q5u h3] <;> rfl) (qib (Nat.le_refl _))
 ·cases k
  exact qh (by simp only [go_sem,seval,quq,qzz,h1,q3p] <;> rfl)
theorem l72 (n:Nat) (ch:Option (List Int)) {s d} (h:itO (qh8 n ch) s=some d):X pr (.loop quq) (qzz n ch s)=some (q3p n ch d):=j9 (b72 n ch) (fun d hh=>by cases hh) h
noncomputable def qnn (n:Nat) (l:List ql) (i:Int):Option (Int ⊕ (Unit ⊕ Int)):=
 cond (decide (i < (n:Int))) (qc (qhh n l i) fun p=>cond (decide (p.stock < 0)) (some (.inr (.inl ()))) (some (.inl (qg .i64 (i + 1))))) (some (.inr (.inr i)))
def qnf (n:Nat) (l:List ql) (i:Int):ASt:=⟨[(6,.ms 0 0 n,false),(8,.int .i64 i,false)],[.cells (pcl l)]⟩
def qqj (n:Nat) (l:List ql):Unit ⊕ Int→jb × ASt
 | .inl _=>(.ret,⟨[(4,.list true 0 [],false),(5,.bool false,false)],[.cells (pcl l)]⟩)
 | .inr i=>(.exit 2,⟨[(6,.ms 0 0 n,false),(8,.int .i64 i,false),(32,.bool false,false)],[.cells (pcl l)]⟩)
theorem jvw (n:Nat) (l:List ql) (i r) (h:qnn n l i=some r):jt pr qrp (qnf n l) (qqj n l) i r:=by
 unfold qnn at h
 rcases qb h with ⟨h1,k⟩ | ⟨h1,k⟩
 ·obtain ⟨p,h3,k⟩:=qa k
  rcases qb k with ⟨h4,k⟩ | ⟨h4,k⟩
  ·cases k
   exact qh (by simp only [go_sem,seval,qrp,qnf,qqj,h1,ql6 h3,qpx h3,h4] <;> rfl)
  ·cases k
   exact qdi (st':=⟨[(6,.ms 0 0 n,false),(8,.int .i64 (qg .i64 (i + 1)),false)],[.cells (pcl l)]⟩) (by simp only [go_sem,seval,qrp,qnf,h1,ql6 h3,qpx h3,h4] <;> rfl) (qib (Nat.le_refl _))
 ·cases k
  exact qh (by simp only [go_sem,seval,qrp,qnf,h1,qqj] <;> rfl)
theorem jxb (n:Nat) (l:List ql) {i d} (h:itO (qnn n l) i=some d):X pr (.loop qrp) (qnf n l i)=some (qqj n l d):=j9 (jvw n l) (fun d=>by rcases d with d | d <;> (intro hh; cases hh)) h
noncomputable def f72 (ps:Option (List ql)) (ch:Option (List Int)):Option (Option (List ql) × Bool):=
 cond (decide ((ps.getD []).length≤1073741824)) (qc (itO (qh8 (ps.getD []).length ch) (0,ps.getD [])) fun s=>qc (itO (qnn (ps.getD []).length s.2) 0) fun d=>match d with
  | .inl _=>some (none,false)
  | .inr _=>cond (decide (s.2.length=(ps.getD []).length)) (some (some s.2,true)) none) none
def g72:GCode:=.seq (.code (sqL c72.body)) (.seq (.code (sqL (sqR c72.body))) (.seq (.code (sqL (sqR (sqR c72.body)))) (.seq (.code (sqL (sqR (sqR (sqR c72.body))))) (.shut 6 8 (.code (sqR (sqR (sqR (sqR c72.body)))))))))
theorem T72 {ps:Option (List ql)} {ch:Option (List Int)} {r} (h:f72 ps ch=some r):yx Tryz.prog 72 [sl 8 qq ps,sl 1 qm ch] (.tup [sl 8 qq r.1,.bool r.2]) false:=by
 unfold f72 at h
 rcases qb h with ⟨h1,k⟩ | ⟨h1,k⟩
 ·have hn:(ps.getD []).length≤1073741824:=of_decide_eq_true h1
  obtain ⟨s,h2,k⟩:=qa k
  obtain ⟨d,h3,k⟩:=qa k
  have wl:=l72 (ps.getD []).length ch h2
  have wk:=jxb (ps.getD []).length s.2 h3
  simp only [qzz,q3p] at wl
  have e1:X pr (sqL c72.body) ⟨qad 0 [sl 8 qq ps,sl 1 qm ch],[]⟩=some (.normal,⟨[(0,sl 8 qq ps,false),(1,sl 1 qm ch,false)],[]⟩):=by simp only [go_sem,seval,c72,sqL] <;> rfl
  have e2:X pr (sqL (sqR c72.body)) ⟨[(0,sl 8 qq ps,false),(1,sl 1 qm ch,false)],[]⟩=some (.normal,⟨[(1,sl 1 qm ch,false),(6,.ms 0 0 (ps.getD []).length,false)],[.cells (pcl (ps.getD []))]⟩):=by simp only [go_sem,seval,c72,sqL,sqR,jlq hn] <;> rfl
  have e3:X pr (sqL (sqR (sqR c72.body))) ⟨[(1,sl 1 qm ch,false),(6,.ms 0 0 (ps.getD []).length,false)],[.cells (pcl (ps.getD []))]⟩=some (.normal,⟨[(1,sl 1 qm ch,false),(6,.ms 0 0 (ps.getD []).length,false),(7,.int .i64 s.1,false),(15,.bool false,false)],[.cells (pcl s.2)]⟩):=by simp only [go_sem,seval,c72,sqL,sqR,wl] <;> rfl
  cases d with
  | inl u=>
   cases k
   simp only [qnf,qqj] at wk
   have e4:X pr (sqL (sqR (sqR (sqR c72.body)))) ⟨[(1,sl 1 qm ch,false),(6,.ms 0 0 (ps.getD []).length,false),(7,.int .i64 s.1,false),(15,.bool false,false)],[.cells (pcl s.2)]⟩=some (.ret,⟨[(4,.list true 0 [],false),(5,.bool false,false)],[.cells (pcl s.2)]⟩):=by simp only [go_sem,seval,c72,sqL,sqR,wk] <;> rfl
   have hg:qaj pr g72 ⟨qad 0 [sl 8 qq ps,sl 1 qm ch],[]⟩ .ret ⟨[(4,.list true 0 [],false),(5,.bool false,false)],[.cells (pcl s.2)]⟩:=.seqN rfl (.code e1) (.seqN rfl (.code e2) (.seqN rfl (.code e3) (.seqX rfl (.code e4) (by intro hh; cases hh))))
   exact qnc (okM ok0) (show pr.fns 72=some c72 from rfl) (show c72.body=g72.erase from rfl) (by simp [c72]) hg (.inr rfl) (show ya _ c72.results=some [(.list true 0 [],false),(.bool false,false)] from rfl) rfl rfl
  | inr i=>
   dsimp only at k
   rcases qb k with ⟨h4,k⟩ | ⟨h4,k⟩
   ·cases k
    have h4':s.2.length=(ps.getD []).length:=of_decide_eq_true h4
    simp only [qnf,qqj] at wk
    have e4:X pr (sqL (sqR (sqR (sqR c72.body)))) ⟨[(1,sl 1 qm ch,false),(6,.ms 0 0 (ps.getD []).length,false),(7,.int .i64 s.1,false),(15,.bool false,false)],[.cells (pcl s.2)]⟩=some (.normal,⟨[(6,.ms 0 0 (ps.getD []).length,false),(8,.int .i64 i,false),(32,.bool false,false)],[.cells (pcl s.2)]⟩):=by simp only [go_sem,seval,c72,sqL,sqR,wk] <;> rfl
    have hsh:=qtj (s:=6) (env:=[(6,.ms 0 0 (ps.getD []).length,false),(8,.int .i64 i,false),(32,.bool false,false)]) (l:=s.2) (o:=false) (by rw [h4']; rfl) rfl
    have e5:X pr (sqR (sqR (sqR (sqR c72.body)))) ⟨(6,sl 8 qq (some s.2),false)::[(6,.ms 0 0 (ps.getD []).length,false),(8,.int .i64 i,false),(32,.bool false,false)],[]⟩=some (.ret,⟨[(4,sl 8 qq (some s.2),false),(5,.bool true,false)],[]⟩):=by simp only [go_sem,seval,c72,sqL,sqR] <;> rfl
    have hg:qaj pr g72 ⟨qad 0 [sl 8 qq ps,sl 1 qm ch],[]⟩ .ret ⟨[(4,sl 8 qq (some s.2),false),(5,.bool true,false)],[]⟩:=.seqN rfl (.code e1) (.seqN rfl (.code e2) (.seqN rfl (.code e3) (.seqN rfl (.code e4) (.shut hsh (.code e5)))))
    exact qnc (okM ok0) (show pr.fns 72=some c72 from rfl) (show c72.body=g72.erase from rfl) (by simp [c72]) hg (.inr rfl) (show ya _ c72.results=some [(sl 8 qq (some s.2),false),(.bool true,false)] from rfl) rfl (by
     have hb:Abs.below 0 (sl 8 qq (some s.2))=true:=by simp only [go_sem,seval]
     show (Abs.below 0 (sl 8 qq (some s.2)) && (true && true))=true
     rw [hb]; rfl)
   ·cases k
 ·cases k
end Go.Z
namespace Go.Z
open Go Go.Abs Go.Proofs
theorem q2h {α:Type} {z:Nat} {f:α→AVal} (hf:∀ a b,f a=f b→a=b):∀ {x y:Option (List α)},sl z f x=sl z f y→x=y:=by
 intro x y h
 cases x with
 | none=>
  cases y with
  | none=>rfl
  | some l=>simp [sl] at h
 | some l=>
  cases y with
  | none=>simp [sl] at h
  | some l'=>
   simp only [sl,AVal.list.injEq,true_and] at h
   have:∀ l l':List α,l.map f=l'.map f→l=l':=by
    intro l
    induction l with
    | nil=>intro l' h; cases l' with
     | nil=>rfl
     | cons b l'=>simp at h
    | cons a l ih=>intro l' h; cases l' with
     | nil=>simp at h
     | cons b l'=>
      simp only [List.map_cons,List.cons.injEq] at h
      rw [hf a b h.1,ih l' h.2]
   rw [this l l' h]
theorem q8o (a b:Int) (h:qm a=qm b):a=b:=by simp only [qm,AVal.int.injEq,true_and] at h; exact h
theorem q3e (a b:ql) (h:qq a=qq b):a=b:=by
 simp only [qq,AVal.agg.injEq,List.cons.injEq,AVal.str.injEq,AVal.int.injEq,true_and,and_true] at h
 cases a; cases b; simp_all
def A2 (x:Option (List ql) × Option (List Int)):List AVal:=[sl 8 qq x.1,sl 1 qm x.2]
theorem jg2 {x y} (h:A2 x=A2 y):x=y:=by
 simp only [A2,List.cons.injEq,and_true] at h
 obtain ⟨a,b⟩:=x
 obtain ⟨a',b'⟩:=y
 have e1:=q2h q3e h.1
 have e2:=q2h q8o h.2
 simp only at e1 e2
 rw [e1,e2]
abbrev FT:=Option (List ql)→Option (List Int)→Option (Option (List ql) × Bool)
noncomputable def tkT (f:FT):List AVal→Option (AVal × Bool):=fun args=>open Classical in
 if h:∃ x,args=A2 x then (f h.choose.1 h.choose.2).map fun r=>(.tup [sl 8 qq r.1,.bool r.2],false) else none
theorem qz3 (f:FT) (x):tkT f (A2 x)=(f x.1 x.2).map fun r=>(.tup [sl 8 qq r.1,.bool r.2],false):=by
 unfold tkT
 have h:∃ y,A2 x=A2 y:=⟨x,rfl⟩
 rw [dif_pos h]
 have:=jg2 h.choose_spec
 rw [← this]
theorem qym {f:FT} {args:List AVal} {v:AVal} {o:Bool} (h:tkT f args=some (v,o)):∃ x r,args=A2 x∧f x.1 x.2=some r∧v=.tup [sl 8 qq r.1,.bool r.2]∧o=false:=by
 have h0:=h
 unfold tkT at h
 split at h
 ·rename_i hh
  obtain ⟨x,rfl⟩:=hh
  rw [qz3,Option.map_eq_some_iff] at h0
  obtain ⟨r,h1,h2⟩:=h0
  simp only [Prod.mk.injEq] at h2
  exact ⟨x,r,rfl,h1,h2.1.symm,h2.2.symm⟩
 ·cases h
noncomputable def q46:qgj:=fun k=>bif Nat.beq k 138 then some (tkT f138) else bif Nat.beq k 72 then some (tkT f72) else none
def opT (k:Nat):Bool:=[68,69,115,37,84,85,120,41,87,88,3,4,5,6,7,8,9,10,11,12,13,14,15].any (Nat.beq k)
noncomputable def prT:jl:=qao pr q46 opT
theorem okT:ProgOk Tryz.prog prT:=qs6 (okM ok0) (by
 intro k f hf
 simp only [q46,Bool.cond_eq_ite] at hf
 split at hf
 ·next hb=>
  cases hf
  obtain rfl:=Nat.eq_of_beq_eq_true hb
  refine ⟨qbb (k:=138) (by kernel_rfl),fun args v o h _ _=>?_⟩
  obtain ⟨x,r,rfl,h1,rfl,rfl⟩:=qym h
  exact ju8 h1
 split at hf
 ·next hb=>
  cases hf
  obtain rfl:=Nat.eq_of_beq_eq_true hb
  refine ⟨qbb (k:=72) (by kernel_rfl),fun args v o h _ _=>?_⟩
  obtain ⟨x,r,rfl,h1,rfl,rfl⟩:=qym h
  exact T72 h1
 ·cases hf)
theorem atT {k:Nat} (ho:opT k=false) (hm:q46 k=none) {args:List AVal} {v:AVal} {o:Bool} (h:qf pr (X pr) k args=some (v,o)) (hv:Abs.below 0 v=true):qf prT (X prT) k args=some (v,o):=qtl ho hm h hv
theorem qwe {a0:Option (List ql)} {a1:Option (List Int)} {r} (h:f138 a0 a1=some r):qf prT (X prT) 138 [sl 8 qq a0,sl 1 qm a1]=some (.tup [sl 8 qq r.1,.bool r.2],false):=by
 have hb:Abs.below 0 (sl 8 qq r.1)=true:=by simp only [go_sem,seval]
 exact qnj (f:=tkT f138) rfl rfl (by have:=qz3 f138 (a0,a1); rw [h] at this; exact this) (by
  show (Abs.below 0 (sl 8 qq r.1) && (true && true))=true
  rw [hb]; rfl)
theorem W72 {a0:Option (List ql)} {a1:Option (List Int)} {r} (h:f72 a0 a1=some r):qf prT (X prT) 72 [sl 8 qq a0,sl 1 qm a1]=some (.tup [sl 8 qq r.1,.bool r.2],false):=by
 have hb:Abs.below 0 (sl 8 qq r.1)=true:=by simp only [go_sem,seval]
 exact qnj (f:=tkT f72) rfl rfl (by have:=qz3 f72 (a0,a1); rw [h] at this; exact this) (by
  show (Abs.below 0 (sl 8 qq r.1) && (true && true))=true
  rw [hb]; rfl)
end Go.Z
