/-
  Chapter 4: taking parts out of a stock, in the program and in the reference: a list of parts that is written, then handed out.
-/
import Derived.Test.YtnjngdcbkkonnaaGreatDoorA8
import Derived.Test.YtnjngdcbkkonnaaGreatDoorZL
import Derived.Test.YtnjngdcbkkonnaaGreatDoorZP
import Derived.Test.YtnjngdcbkkonnaaGreatDoorPB
set_option linter.unusedVariables false
set_option linter.unusedSimpArgs false
set_option maxRecDepth 100000
set_option maxHeartbeats 4000000
namespace Go.Z
open Go Go.Abs Go.Proofs
def pc8 (p:qc):List (AVal × Bool):=[(.str p.name,false),(.str p.kd,false),(.int .i64 p.pa,false),(.int .i64 p.pb,false),(.int .i64 p.sa,false),(.int .i64 p.sb,false),(.int .i64 p.cost,false),(.int .i64 p.stock,false)]
def pcl (l:List qc):List (AVal × Bool):=l.flatMap pc8
theorem qak {p:qc} {l:List qc}:pcl (p::l)=pc8 p++pcl l:=by simp [pcl]
theorem qim:∀ {l:List qc},(pcl l).length=l.length * 8
 | []=>rfl
 | p::l=>by rw [qak,List.length_append,qim,List.length_cons]; show 8 + _=_; omega
def qf3 (p:qc) (x:Int):qc:={ p with stock:=x }
theorem q70 {c:List (AVal × Bool)} {cs:List (AVal × Bool)} {o n:Nat}:zq (c++cs) (c.length + o) n=zq cs o n:=by
 simp only [qtu,List.length_append]
 by_cases h:o + n≤cs.length
 ·simp only [h,show c.length + o + n≤c.length + cs.length by omega,decide_true,q11]
  rw [List.drop_append,List.drop_eq_nil_of_le (by omega)]
  simp
 ·simp only [h,show ¬ c.length + o + n≤c.length + cs.length by omega,decide_false,ldC]
theorem q6g {c:List (AVal × Bool)} {cs:List (AVal × Bool)} {o:Nat} {vs:List AVal}:zj (c++cs) (c.length + o) vs=(zj cs o vs).map (c++·):=by
 simp only [qkq,List.length_append]
 by_cases h:o + vs.length≤cs.length
 ·simp only [h,show c.length + o + vs.length≤c.length + cs.length by omega,decide_true,Bool.true_and]
  cases vs.all qo with
  | false=>rfl
  | true=>
   simp only [qur,Option.map_some]
   congr 1
   rw [List.take_append,List.take_of_length_le (by omega),List.drop_append,List.drop_eq_nil_of_le (by omega)]
   simp [Nat.add_assoc]
 ·simp only [h,show ¬ c.length + o + vs.length≤c.length + cs.length by omega,decide_false,Bool.false_and,stC]
  rfl
theorem q0g:∀ {l:List qc} {i:Nat} {p:qc},l[i]?=some p→zq (pcl l) (i * 8 + 7) 1=some [.int .i64 p.stock]
 | [],i,p,h=>by simp at h
 | q::l,0,p,h=>by
  simp only [List.getElem?_cons_zero,Option.some.injEq] at h
  subst h
  rw [qak]
  rfl
 | q::l,i + 1,p,h=>by
  simp only [List.getElem?_cons_succ] at h
  rw [qak,show (i + 1) * 8 + 7=(pc8 q).length + (i * 8 + 7) by show _=8 + _; omega,q70,q0g h]
theorem q0a:∀ {l:List qc} {i:Nat} {p:qc} {x:Int},l[i]?=some p→zj (pcl l) (i * 8 + 7) [.int .i64 x]=some (pcl (l.set i (qf3 p x)))
 | [],i,p,x,h=>by simp at h
 | q::l,0,p,x,h=>by
  simp only [List.getElem?_cons_zero,Option.some.injEq] at h
  subst h
  rw [List.set_cons_zero,qak,qak]
  rfl
 | q::l,i + 1,p,x,h=>by
  simp only [List.getElem?_cons_succ] at h
  rw [List.set_cons_succ,qak,qak,show (i + 1) * 8 + 7=(pc8 q).length + (i * 8 + 7) by show _=8 + _; omega,q6g,q0a h]
  rfl
def qe5 (n:Nat) (l:List qc) (i:Int):Option qc:=if 0≤i∧i < n then l[i.toNat]? else none
theorem qlu {n:Nat} {l:List qc} {i:Int} {v:qc} (hv:qe5 n l i=some v):0≤i∧i < n∧l[i.toNat]?=some v:=by
 unfold qe5 at hv
 split at hv
 ·next hi=>exact ⟨hi.1,hi.2,hv⟩
 ·cases hv
section
variable {p:jj} {xc:XC} {h0:Nat} {al:Option (List Nat)} {e:Env} {h:qn}
theorem qif {n b:Nat} {k:IntKind} {l:List qc} {i:Int} {v:qc} (hv:qe5 n l i=some v):qj4 8 h (some (.ms b 0 n)) (some (.int k i))=some ⟨.ptr b (i.toNat * 8),false,none,h⟩:=by
 obtain ⟨h1,h2,_⟩:=qlu hv
 simp only [qj4,qfy,qwb h1 h2,val,Nat.zero_add]
theorem qld {n:Nat} {l:List qc} {i:Int} {v:qc} (hv:qe5 n l i=some v):zq (pcl l) (i.toNat * 8 + 7) 1=some [.int .i64 v.stock]:=q0g (qlu hv).2.2
theorem qy6 {n:Nat} {l:List qc} {i x:Int} {v:qc} (hv:qe5 n l i=some v):zj (pcl l) (i.toNat * 8 + 7) [.int .i64 x]=some (pcl (l.set i.toNat (qf3 v x))):=q0a (qlu hv).2.2
def qj6:qc:=⟨[],[],0,0,0,0,0,0⟩
theorem qvo {n:Nat}:cellsOf (List.replicate n [AVal.str [],.str [],.int .i64 0,.int .i64 0,.int .i64 0,.int .i64 0,.int .i64 0,.int .i64 0]).flatten=pcl (List.replicate n qj6):=by
 induction n with
 | zero=>rfl
 | succ n ih=>
  simp only [List.replicate_succ,List.flatten_cons,qak]
  simp only [cellsOf] at ih ⊢
  simp only [List.map_append,ih]; rfl
theorem jcw {r b n:Nat} (hn:n≤1073741824):qyk h0 r 8 b [.str [],.str [],.int .i64 0,.int .i64 0,.int .i64 0,.int .i64 0,.int .i64 0,.int .i64 0] h (some (.int .i64 (n:Int))) (some (.int .i64 (n:Int)))=ifR (decide (b≤4096)) (kc (newBox h0 h r (.cells (pcl (List.replicate n qj6)))) (.ms (h0 + r) 0 n)):=by
 show (bif Nat.beq n n && Nat.ble n 1073741824 && Nat.ble b 4096 && Nat.beq 8 8 && Nat.blt 0 8 && true then _ else _)=_
 simp only [qfv,ke,qav,hn,decide_true,Bool.true_and,Bool.and_true,show (0:Nat) < 8 from by decide]
 rw [qvo]
 by_cases hb:b≤4096
 ·simp only [hb,decide_true,cond_true,ifR,kc]
  cases newBox h0 h r (.cells (pcl (List.replicate n qj6))) <;> rfl
 ·simp only [hb,decide_false,cond_false,ifR]
def qr1 (sz len o b:Nat) (vy:AVal) (h:qn) (cs:Option (List (AVal × Bool))):Option ORes:=match cs with
 | some cs=>(match qfs sz len vy with
  | some (n,vs)=>(match zj cs o vs with
   | some cs'=>bif Nat.beq vs.length (n * sz) then (match jn h b (.cells cs') with
    | some h'=>val h' (.int .i64 n)
    | none=>none) else none
   | none=>none)
  | none=>none)
 | none=>none
@[go_sem] theorem jg8 {sz b o len:Nat} {vy:AVal}:qwt h0 al sz h (some (.ms b o len)) (some vy)=ifR (ju h0 al b) (qr1 sz len o b vy h (jq h b)):=by
 unfold qwt qr1
 simp only [ifR]
 cases ju h0 al b <;> rfl
theorem qpa {l:List qc}:(l.map qg).flatMap AVal.flat=(pcl l).map (·.1):=by
 induction l with
 | nil=>rfl
 | cons q l ih=>rw [List.map_cons,List.flatMap_cons,ih,qak,List.map_append]; rfl
theorem q5a {l:List qc}:((pcl l).map (·.1)).all qo=true:=by
 induction l with
 | nil=>rfl
 | cons q l ih=>rw [qak,List.map_append,List.all_append,ih]; rfl
theorem qsz {l:List qc}:((pcl l).map (·.1)).map (·,false)=pcl l:=by
 induction l with
 | nil=>rfl
 | cons q l ih=>rw [qak,List.map_append,List.map_append,ih]; rfl
def q83 (r:Option qn) (n:Nat):Option ORes:=match r with
 | some h'=>some ⟨.int .i64 n,false,none,h'⟩
 | none=>none
@[go_sem] theorem jh4 {n:Nat}:q83 (some h) n=some ⟨.int .i64 n,false,none,h⟩:=rfl
theorem jbh {b:Nat} {o:Option (List qc)}:qr1 8 (o.getD []).length 0 b (sl 8 qg o) h (some (pcl (List.replicate (o.getD []).length qj6)))=q83 (jn h b (.cells (pcl (o.getD [])))) (o.getD []).length:=by
 have hs:qfs 8 (o.getD []).length (sl 8 qg o)=some ((o.getD []).length,(pcl (o.getD [])).map (·.1)):=by
  cases o with
  | none=>rfl
  | some l=>
   show (bif Nat.beq 8 8 || (l.map qg).isEmpty then some (min (l.map qg).length l.length,((l.map qg).take l.length).flatMap AVal.flat) else none)=_
   rw [show Nat.beq 8 8=true from rfl,Bool.true_or,cond_true,List.length_map,Nat.min_self,List.take_of_length_le (by rw [List.length_map]; exact Nat.le_refl _),qpa]
   rfl
 unfold qr1
 simp only [hs]
 have hl:((pcl (o.getD [])).map (·.1)).length=(o.getD []).length * 8:=by rw [List.length_map,qim]
 have hst:zj (pcl (List.replicate (o.getD []).length qj6)) 0 ((pcl (o.getD [])).map (·.1))=some (pcl (o.getD [])):=by
  simp only [qkq,hl,qim,List.length_replicate,Nat.zero_add,Nat.le_refl,decide_true,q5a,Bool.and_self,qur]
  rw [List.take_zero,List.nil_append,qsz,List.drop_eq_nil_of_le (by rw [qim,List.length_replicate]; exact Nat.le_refl _),List.append_nil]
 simp only [hst,hl,Nat.beq_refl,cond_true]
 cases jn h b (.cells (pcl (o.getD []))) <;> rfl
theorem jeg {r b t:Nat} {o:Option (List qc)} (hn:(o.getD []).length≤1073741824):qr4 h0 r 8 b h (some t) (some (.list false 8 [])) (some (sl 8 qg o))=ifR (decide (b≤4096)) (qth (some t) (.ms (h0 + r) 0 (o.getD []).length) (newBox h0 h r (.cells (pcl (o.getD []))))):=by
 have hc:cellsOf (((o.getD []).map qg).flatMap AVal.flat)=pcl (o.getD []):=by
  rw [qpa]; exact qsz
 simp only [qr4,Option.isSome_some,qfv,decide_true,Bool.and_self,cond_true,q0v,List.length_map,ke,qav,hn,Bool.true_and,hc]
 by_cases hb:b≤4096
 ·simp only [hb,decide_true,Bool.and_self,cond_true,ifR,qth,show (0:Nat) < 8 from by decide]
 ·simp only [hb,decide_false,Bool.false_and,cond_false,ifR]
theorem qsc:∀ {l:List qc},qer 8 l.length ((pcl l).map (·.1))=l.map qg
 | []=>rfl
 | q::l=>by
  rw [qak,List.map_append,List.length_cons,List.map_cons,← qsc]
  rfl
theorem qo9 {s:Nat} {env:Env} {l:List qc} {o:Bool} (hs:Abs.look s env=some (.ms 0 0 l.length,o)) (he:(env.all fun y=>Nat.beq y.1 s || Abs.below 0 y.2.1)=true):
  qkv s 8 ⟨env,[.cells (pcl l)]⟩=some ⟨(s,sl 8 qg (some l),false)::env,[]⟩:=by
 unfold qkv
 simp only [hs]
 have h1:((pcl l).all fun c=>Abs.below 0 c.1 && !c.1.isAgg)=true:=by
  rw [List.all_eq_true]; intro x hx
  obtain ⟨q,_,hq⟩:=List.mem_flatMap.1 hx
  simp only [pc8,List.mem_cons,List.not_mem_nil,or_false] at hq
  rcases hq with rfl | rfl | rfl | rfl | rfl | rfl | rfl | rfl <;> rfl
 have h2:Nat.beq (l.length * 8) (pcl l).length=true:=by rw [qim]; exact Nat.beq_refl _
 simp only [h1,h2,he,show Nat.blt 0 8=true from rfl,Bool.and_self,cond_true]
 rw [qsc]; rfl
end
noncomputable def qdd (n:Nat) (ch:Option (List Int)) (s:Int × List qc):Option ((Int × List qc) ⊕ (List qc ⊕ (Int × List qc))):=
 cond (decide (s.1 < ((ch.getD []).length:Int))) (qh (zm (ch.getD []) s.1) fun c=>qh (qe5 n s.2 c) fun p=>
  cond (decide (p.stock=0)) (some (.inr (.inl s.2))) (some (.inl (qm .i64 (s.1 + 1),s.2.set c.toNat (qf3 p (qm .i64 (p.stock - 1))))))) (some (.inr (.inr s)))
def qjt (n:Nat) (ch:Option (List Int)) (s:Int × List qc):ASt:=⟨[(6,.ms 0 0 n,false),(15,sl 1 qp ch,false),(16,.int .i64 ((ch.getD []).length:Int),false),(17,.int .i64 s.1,false)],[.cells (pcl s.2)]⟩
def qmk (n:Nat) (ch:Option (List Int)):List qc ⊕ (Int × List qc)→je × ASt
 | .inl l=>(.ret,⟨[(4,.list true 0 [],false),(5,.bool false,false)],[.cells (pcl l)]⟩)
 | .inr s=>(.exit 0,⟨[(6,.ms 0 0 n,false),(15,sl 1 qp ch,false),(16,.int .i64 ((ch.getD []).length:Int),false),(17,.int .i64 s.1,false),(18,.bool false,false)],[.cells (pcl s.2)]⟩)
theorem jlg (n:Nat) (ch:Option (List Int)) (s r) (h:qdd n ch s=some r):j9 pr qiq (qjt n ch) (qmk n ch) s r:=by
 unfold qdd at h
 rcases qa h with ⟨h1,k⟩ | ⟨h1,k⟩
 ·obtain ⟨c,h2,k⟩:=qb k
  obtain ⟨p,h3,k⟩:=qb k
  rcases qa k with ⟨h4,k⟩ | ⟨h4,k⟩
  ·cases k
   have h4':p.stock=0:=by simpa using h4
   exact ql (by simp only [go_sem,seval,qiq,qjt,qmk,h1,jb h2,qif h3,qld h3,h4,h4'] <;> rfl)
  ·cases k
   have h4':¬ p.stock=0:=by simpa using h4
   exact qq (st':=⟨[(6,.ms 0 0 n,false),(15,sl 1 qp ch,false),(16,.int .i64 ((ch.getD []).length:Int),false),(17,.int .i64 (qm .i64 (s.1 + 1)),false)],[.cells (pcl (s.2.set c.toNat (qf3 p (qm .i64 (p.stock - 1)))))]⟩) (by simp only [go_sem,seval,qiq,qjt,h1,jb h2,qif h3,qld h3,qy6 h3,h4,h4'] <;> rfl) (qy (Nat.le_refl _))
 ·cases k
  exact ql (by simp only [go_sem,seval,qiq,qjt,h1,qmk] <;> rfl)
theorem jju (n:Nat) (ch:Option (List Int)) {s d} (h:itO (qdd n ch) s=some d):X pr (.loop qiq) (qjt n ch s)=some (qmk n ch d):=zi (jlg n ch) (fun d=>by rcases d with d | d <;> (intro hh; cases hh)) h
noncomputable def f138 (ps:Option (List qc)) (ch:Option (List Int)):Option (Option (List qc) × Bool):=
 cond (decide ((ps.getD []).length≤1073741824)) (qh (itO (qdd (ps.getD []).length ch) (0,ps.getD [])) fun d=>match d with
  | .inl _=>some (none,false)
  | .inr s=>cond (decide (s.2.length=(ps.getD []).length)) (some (some s.2,true)) none) none
def sqL:ACode→ACode
 | .seq a _=>a
 | x=>x
def sqR:ACode→ACode
 | .seq _ b=>b
 | x=>x
def g138:GCode:=.seq (.code (sqL c138.body)) (.seq (.code (sqL (sqR c138.body))) (.seq (.code (sqL (sqR (sqR c138.body)))) (.seq (.code (sqL (sqR (sqR (sqR c138.body))))) (.shut 6 8 (.code (sqR (sqR (sqR (sqR c138.body)))))))))
theorem jly {ps:Option (List qc)} {ch:Option (List Int)} {r} (h:f138 ps ch=some r):yg Tryz.prog 138 [sl 8 qg ps,sl 1 qp ch] (.tup [sl 8 qg r.1,.bool r.2]) false:=by
 unfold f138 at h
 rcases qa h with ⟨h1,k⟩ | ⟨h1,k⟩
 ·have hn:(ps.getD []).length≤1073741824:=of_decide_eq_true h1
  obtain ⟨d,h2,k⟩:=qb k
  have wl:=jju (ps.getD []).length ch h2
  have e1:X pr (sqL c138.body) ⟨kl 0 [sl 8 qg ps,sl 1 qp ch],[]⟩=some (.normal,⟨[(0,sl 8 qg ps,false),(1,sl 1 qp ch,false)],[]⟩):=by simp only [go_sem,seval,c138,sqL] <;> rfl
  have e2:X pr (sqL (sqR c138.body)) ⟨[(0,sl 8 qg ps,false),(1,sl 1 qp ch,false)],[]⟩=some (.normal,⟨[(0,sl 8 qg ps,false),(1,sl 1 qp ch,false),(6,.ms 0 0 (ps.getD []).length,false)],[.cells (pcl (List.replicate (ps.getD []).length qj6))]⟩):=by simp only [go_sem,seval,c138,sqL,sqR,jcw hn] <;> rfl
  have e3:X pr (sqL (sqR (sqR c138.body))) ⟨[(0,sl 8 qg ps,false),(1,sl 1 qp ch,false),(6,.ms 0 0 (ps.getD []).length,false)],[.cells (pcl (List.replicate (ps.getD []).length qj6))]⟩=some (.normal,⟨[(1,sl 1 qp ch,false),(6,.ms 0 0 (ps.getD []).length,false)],[.cells (pcl (ps.getD []))]⟩):=by simp only [go_sem,seval,c138,sqL,sqR,jbh] <;> rfl
  cases d with
  | inl l=>
   cases k
   simp only [qjt,qmk] at wl
   have e4:X pr (sqL (sqR (sqR (sqR c138.body)))) ⟨[(1,sl 1 qp ch,false),(6,.ms 0 0 (ps.getD []).length,false)],[.cells (pcl (ps.getD []))]⟩=some (.ret,⟨[(4,.list true 0 [],false),(5,.bool false,false)],[.cells (pcl l)]⟩):=by simp only [go_sem,seval,c138,sqL,sqR,wl] <;> rfl
   have hg:ki pr g138 ⟨kl 0 [sl 8 qg ps,sl 1 qp ch],[]⟩ .ret ⟨[(4,.list true 0 [],false),(5,.bool false,false)],[.cells (pcl l)]⟩:=.seqN rfl (.code e1) (.seqN rfl (.code e2) (.seqN rfl (.code e3) (.seqX rfl (.code e4) (by intro hh; cases hh))))
   exact qj8 (okM ok0) (show pr.fns 138=some c138 from rfl) (show c138.body=g138.erase from rfl) (by simp [c138]) hg (.inr rfl) (show zn _ c138.results=some [(.list true 0 [],false),(.bool false,false)] from rfl) rfl rfl
  | inr s=>
   dsimp only at k
   rcases qa k with ⟨h3,k⟩ | ⟨h3,k⟩
   ·cases k
    have h3':s.2.length=(ps.getD []).length:=of_decide_eq_true h3
    simp only [qjt,qmk] at wl
    have e4:X pr (sqL (sqR (sqR (sqR c138.body)))) ⟨[(1,sl 1 qp ch,false),(6,.ms 0 0 (ps.getD []).length,false)],[.cells (pcl (ps.getD []))]⟩=some (.normal,⟨[(6,.ms 0 0 (ps.getD []).length,false),(15,sl 1 qp ch,false),(16,.int .i64 ((ch.getD []).length:Int),false),(17,.int .i64 s.1,false),(18,.bool false,false)],[.cells (pcl s.2)]⟩):=by simp only [go_sem,seval,c138,sqL,sqR,wl] <;> rfl
    have hsh:=qo9 (s:=6) (env:=[(6,.ms 0 0 (ps.getD []).length,false),(15,sl 1 qp ch,false),(16,.int .i64 ((ch.getD []).length:Int),false),(17,.int .i64 s.1,false),(18,.bool false,false)]) (l:=s.2) (o:=false) (by rw [h3']; rfl) (by
     have hb:Abs.below 0 (sl 1 qp ch)=true:=by simp only [go_sem,seval]
     show (true && (Abs.below 0 (sl 1 qp ch) && (true && (true && (true && true)))))=true
     rw [hb]; rfl)
    have e5:X pr (sqR (sqR (sqR (sqR c138.body)))) ⟨(6,sl 8 qg (some s.2),false)::[(6,.ms 0 0 (ps.getD []).length,false),(15,sl 1 qp ch,false),(16,.int .i64 ((ch.getD []).length:Int),false),(17,.int .i64 s.1,false),(18,.bool false,false)],[]⟩=some (.ret,⟨[(4,sl 8 qg (some s.2),false),(5,.bool true,false)],[]⟩):=by simp only [go_sem,seval,c138,sqL,sqR] <;> rfl
    have hg:ki pr g138 ⟨kl 0 [sl 8 qg ps,sl 1 qp ch],[]⟩ .ret ⟨[(4,sl 8 qg (some s.2),false),(5,.bool true,false)],[]⟩:=.seqN rfl (.code e1) (.seqN rfl (.code e2) (.seqN rfl (.code e3) (.seqN rfl (.code e4) (.shut hsh (.code e5)))))
    exact qj8 (okM ok0) (show pr.fns 138=some c138 from rfl) (show c138.body=g138.erase from rfl) (by simp [c138]) hg (.inr rfl) (show zn _ c138.results=some [(sl 8 qg (some s.2),false),(.bool true,false)] from rfl) rfl (by
     have hb:Abs.below 0 (sl 8 qg (some s.2))=true:=by simp only [go_sem,seval]
     show (Abs.below 0 (sl 8 qg (some s.2)) && (true && true))=true
     rw [hb]; rfl)
   ·cases k
 ·cases k
noncomputable def qfh (n:Nat) (ch:Option (List Int)) (s:Int × List qc):Option ((Int × List qc) ⊕ (Int × List qc)):=
 cond (decide (s.1 < ((ch.getD []).length:Int))) (qh (zm (ch.getD []) s.1) fun c=>qh (qe5 n s.2 c) fun p=>
  some (.inl (qm .i64 (s.1 + 1),s.2.set c.toNat (qf3 p (qm .i64 (p.stock - 1)))))) (some (.inr s))
def qtj (n:Nat) (ch:Option (List Int)) (s:Int × List qc):ASt:=⟨[(1,sl 1 qp ch,false),(6,.ms 0 0 n,false),(7,.int .i64 s.1,false)],[.cells (pcl s.2)]⟩
def qyj (n:Nat) (ch:Option (List Int)) (s:Int × List qc):je × ASt:=(.exit 0,⟨[(1,sl 1 qp ch,false),(6,.ms 0 0 n,false),(7,.int .i64 s.1,false),(15,.bool false,false)],[.cells (pcl s.2)]⟩)
theorem b72 (n:Nat) (ch:Option (List Int)) (s r) (h:qfh n ch s=some r):j9 pr qo7 (qtj n ch) (qyj n ch) s r:=by
 unfold qfh at h
 rcases qa h with ⟨h1,k⟩ | ⟨h1,k⟩
 ·obtain ⟨c,h2,k⟩:=qb k
  obtain ⟨p,h3,k⟩:=qb k
  cases k
  exact qq (st':=⟨[(1,sl 1 qp ch,false),(6,.ms 0 0 n,false),(7,.int .i64 (qm .i64 (s.1 + 1)),false)],[.cells (pcl (s.2.set c.toNat (qf3 p (qm .i64 (p.stock - 1)))))]⟩) (by simp only [go_sem,seval,qo7,qtj,h1,jb h2,qif h3,qld h3,qy6 h3] <;> rfl) (qy (Nat.le_refl _))
 ·cases k
  exact ql (by simp only [go_sem,seval,qo7,qtj,h1,qyj] <;> rfl)
theorem l72 (n:Nat) (ch:Option (List Int)) {s d} (h:itO (qfh n ch) s=some d):X pr (.loop qo7) (qtj n ch s)=some (qyj n ch d):=zi (b72 n ch) (fun d hh=>by cases hh) h
noncomputable def qjd (n:Nat) (l:List qc) (i:Int):Option (Int ⊕ (Unit ⊕ Int)):=
 cond (decide (i < (n:Int))) (qh (qe5 n l i) fun p=>cond (decide (p.stock < 0)) (some (.inr (.inl ()))) (some (.inl (qm .i64 (i + 1))))) (some (.inr (.inr i)))
def qj2 (n:Nat) (l:List qc) (i:Int):ASt:=⟨[(6,.ms 0 0 n,false),(8,.int .i64 i,false)],[.cells (pcl l)]⟩
def qma (n:Nat) (l:List qc):Unit ⊕ Int→je × ASt
 | .inl _=>(.ret,⟨[(4,.list true 0 [],false),(5,.bool false,false)],[.cells (pcl l)]⟩)
 | .inr i=>(.exit 2,⟨[(6,.ms 0 0 n,false),(8,.int .i64 i,false),(32,.bool false,false)],[.cells (pcl l)]⟩)
theorem jih (n:Nat) (l:List qc) (i r) (h:qjd n l i=some r):j9 pr qmw (qj2 n l) (qma n l) i r:=by
 unfold qjd at h
 rcases qa h with ⟨h1,k⟩ | ⟨h1,k⟩
 ·obtain ⟨p,h3,k⟩:=qb k
  rcases qa k with ⟨h4,k⟩ | ⟨h4,k⟩
  ·cases k
   exact ql (by simp only [go_sem,seval,qmw,qj2,qma,h1,qif h3,qld h3,h4] <;> rfl)
  ·cases k
   exact qq (st':=⟨[(6,.ms 0 0 n,false),(8,.int .i64 (qm .i64 (i + 1)),false)],[.cells (pcl l)]⟩) (by simp only [go_sem,seval,qmw,qj2,h1,qif h3,qld h3,h4] <;> rfl) (qy (Nat.le_refl _))
 ·cases k
  exact ql (by simp only [go_sem,seval,qmw,qj2,h1,qma] <;> rfl)
theorem jjm (n:Nat) (l:List qc) {i d} (h:itO (qjd n l) i=some d):X pr (.loop qmw) (qj2 n l i)=some (qma n l d):=zi (jih n l) (fun d=>by rcases d with d | d <;> (intro hh; cases hh)) h
noncomputable def f72 (ps:Option (List qc)) (ch:Option (List Int)):Option (Option (List qc) × Bool):=
 cond (decide ((ps.getD []).length≤1073741824)) (qh (itO (qfh (ps.getD []).length ch) (0,ps.getD [])) fun s=>qh (itO (qjd (ps.getD []).length s.2) 0) fun d=>match d with
  | .inl _=>some (none,false)
  | .inr _=>cond (decide (s.2.length=(ps.getD []).length)) (some (some s.2,true)) none) none
def g72:GCode:=.seq (.code (sqL c72.body)) (.seq (.code (sqL (sqR c72.body))) (.seq (.code (sqL (sqR (sqR c72.body)))) (.seq (.code (sqL (sqR (sqR (sqR c72.body))))) (.shut 6 8 (.code (sqR (sqR (sqR (sqR c72.body)))))))))
theorem T72 {ps:Option (List qc)} {ch:Option (List Int)} {r} (h:f72 ps ch=some r):yg Tryz.prog 72 [sl 8 qg ps,sl 1 qp ch] (.tup [sl 8 qg r.1,.bool r.2]) false:=by
 unfold f72 at h
 rcases qa h with ⟨h1,k⟩ | ⟨h1,k⟩
 ·have hn:(ps.getD []).length≤1073741824:=of_decide_eq_true h1
  obtain ⟨s,h2,k⟩:=qb k
  obtain ⟨d,h3,k⟩:=qb k
  have wl:=l72 (ps.getD []).length ch h2
  have wk:=jjm (ps.getD []).length s.2 h3
  simp only [qtj,qyj] at wl
  have e1:X pr (sqL c72.body) ⟨kl 0 [sl 8 qg ps,sl 1 qp ch],[]⟩=some (.normal,⟨[(0,sl 8 qg ps,false),(1,sl 1 qp ch,false)],[]⟩):=by simp only [go_sem,seval,c72,sqL] <;> rfl
  have e2:X pr (sqL (sqR c72.body)) ⟨[(0,sl 8 qg ps,false),(1,sl 1 qp ch,false)],[]⟩=some (.normal,⟨[(1,sl 1 qp ch,false),(6,.ms 0 0 (ps.getD []).length,false)],[.cells (pcl (ps.getD []))]⟩):=by simp only [go_sem,seval,c72,sqL,sqR,jeg hn] <;> rfl
  have e3:X pr (sqL (sqR (sqR c72.body))) ⟨[(1,sl 1 qp ch,false),(6,.ms 0 0 (ps.getD []).length,false)],[.cells (pcl (ps.getD []))]⟩=some (.normal,⟨[(1,sl 1 qp ch,false),(6,.ms 0 0 (ps.getD []).length,false),(7,.int .i64 s.1,false),(15,.bool false,false)],[.cells (pcl s.2)]⟩):=by simp only [go_sem,seval,c72,sqL,sqR,wl] <;> rfl
  cases d with
  | inl u=>
   cases k
   simp only [qj2,qma] at wk
   have e4:X pr (sqL (sqR (sqR (sqR c72.body)))) ⟨[(1,sl 1 qp ch,false),(6,.ms 0 0 (ps.getD []).length,false),(7,.int .i64 s.1,false),(15,.bool false,false)],[.cells (pcl s.2)]⟩=some (.ret,⟨[(4,.list true 0 [],false),(5,.bool false,false)],[.cells (pcl s.2)]⟩):=by simp only [go_sem,seval,c72,sqL,sqR,wk] <;> rfl
   have hg:ki pr g72 ⟨kl 0 [sl 8 qg ps,sl 1 qp ch],[]⟩ .ret ⟨[(4,.list true 0 [],false),(5,.bool false,false)],[.cells (pcl s.2)]⟩:=.seqN rfl (.code e1) (.seqN rfl (.code e2) (.seqN rfl (.code e3) (.seqX rfl (.code e4) (by intro hh; cases hh))))
   exact qj8 (okM ok0) (show pr.fns 72=some c72 from rfl) (show c72.body=g72.erase from rfl) (by simp [c72]) hg (.inr rfl) (show zn _ c72.results=some [(.list true 0 [],false),(.bool false,false)] from rfl) rfl rfl
  | inr i=>
   dsimp only at k
   rcases qa k with ⟨h4,k⟩ | ⟨h4,k⟩
   ·cases k
    have h4':s.2.length=(ps.getD []).length:=of_decide_eq_true h4
    simp only [qj2,qma] at wk
    have e4:X pr (sqL (sqR (sqR (sqR c72.body)))) ⟨[(1,sl 1 qp ch,false),(6,.ms 0 0 (ps.getD []).length,false),(7,.int .i64 s.1,false),(15,.bool false,false)],[.cells (pcl s.2)]⟩=some (.normal,⟨[(6,.ms 0 0 (ps.getD []).length,false),(8,.int .i64 i,false),(32,.bool false,false)],[.cells (pcl s.2)]⟩):=by simp only [go_sem,seval,c72,sqL,sqR,wk] <;> rfl
    have hsh:=qo9 (s:=6) (env:=[(6,.ms 0 0 (ps.getD []).length,false),(8,.int .i64 i,false),(32,.bool false,false)]) (l:=s.2) (o:=false) (by rw [h4']; rfl) rfl
    have e5:X pr (sqR (sqR (sqR (sqR c72.body)))) ⟨(6,sl 8 qg (some s.2),false)::[(6,.ms 0 0 (ps.getD []).length,false),(8,.int .i64 i,false),(32,.bool false,false)],[]⟩=some (.ret,⟨[(4,sl 8 qg (some s.2),false),(5,.bool true,false)],[]⟩):=by simp only [go_sem,seval,c72,sqL,sqR] <;> rfl
    have hg:ki pr g72 ⟨kl 0 [sl 8 qg ps,sl 1 qp ch],[]⟩ .ret ⟨[(4,sl 8 qg (some s.2),false),(5,.bool true,false)],[]⟩:=.seqN rfl (.code e1) (.seqN rfl (.code e2) (.seqN rfl (.code e3) (.seqN rfl (.code e4) (.shut hsh (.code e5)))))
    exact qj8 (okM ok0) (show pr.fns 72=some c72 from rfl) (show c72.body=g72.erase from rfl) (by simp [c72]) hg (.inr rfl) (show zn _ c72.results=some [(sl 8 qg (some s.2),false),(.bool true,false)] from rfl) rfl (by
     have hb:Abs.below 0 (sl 8 qg (some s.2))=true:=by simp only [go_sem,seval]
     show (Abs.below 0 (sl 8 qg (some s.2)) && (true && true))=true
     rw [hb]; rfl)
   ·cases k
 ·cases k
end Go.Z
/-
 The program in which both takes are known by their contracts,and the functions that call them are open.
-/
namespace Go.Z
open Go Go.Abs Go.Proofs
theorem qv2 {α:Type} {z:Nat} {f:α→AVal} (hf:∀ a b,f a=f b→a=b):∀ {x y:Option (List α)},sl z f x=sl z f y→x=y:=by
 intro x y h
 cases x with
 | none=>
  cases y with
  | none=>rfl
  | some l=>simp [sl] at h
 | some l=>
  cases y with
  | none=>simp [sl] at h
  | some l'=>
   simp only [sl,AVal.list.injEq,true_and] at h
   have:∀ l l':List α,l.map f=l'.map f→l=l':=by
    intro l
    induction l with
    | nil=>intro l' h; cases l' with
     | nil=>rfl
     | cons b l'=>simp at h
    | cons a l ih=>intro l' h; cases l' with
     | nil=>simp at h
     | cons b l'=>
      simp only [List.map_cons,List.cons.injEq] at h
      rw [hf a b h.1,ih l' h.2]
   rw [this l l' h]
theorem qy0 (a b:Int) (h:qp a=qp b):a=b:=by simp only [qp,AVal.int.injEq,true_and] at h; exact h
theorem qxj (a b:qc) (h:qg a=qg b):a=b:=by
 simp only [qg,AVal.agg.injEq,List.cons.injEq,AVal.str.injEq,AVal.int.injEq,true_and,and_true] at h
 cases a; cases b; simp_all
def A2 (x:Option (List qc) × Option (List Int)):List AVal:=[sl 8 qg x.1,sl 1 qp x.2]
theorem q8i {x y} (h:A2 x=A2 y):x=y:=by
 simp only [A2,List.cons.injEq,and_true] at h
 obtain ⟨a,b⟩:=x
 obtain ⟨a',b'⟩:=y
 have e1:=qv2 qxj h.1
 have e2:=qv2 qy0 h.2
 simp only at e1 e2
 rw [e1,e2]
abbrev FT:=Option (List qc)→Option (List Int)→Option (Option (List qc) × Bool)
noncomputable def tkT (f:FT):List AVal→Option (AVal × Bool):=fun args=>open Classical in
 if h:∃ x,args=A2 x then (f h.choose.1 h.choose.2).map fun r=>(.tup [sl 8 qg r.1,.bool r.2],false) else none
theorem qsb (f:FT) (x):tkT f (A2 x)=(f x.1 x.2).map fun r=>(.tup [sl 8 qg r.1,.bool r.2],false):=by
 unfold tkT
 have h:∃ y,A2 x=A2 y:=⟨x,rfl⟩
 rw [dif_pos h]
 have:=q8i h.choose_spec
 rw [← this]
theorem qta {f:FT} {args:List AVal} {v:AVal} {o:Bool} (h:tkT f args=some (v,o)):∃ x r,args=A2 x∧f x.1 x.2=some r∧v=.tup [sl 8 qg r.1,.bool r.2]∧o=false:=by
 have h0:=h
 unfold tkT at h
 split at h
 ·rename_i hh
  obtain ⟨x,rfl⟩:=hh
  rw [qsb,Option.map_eq_some_iff] at h0
  obtain ⟨r,h1,h2⟩:=h0
  simp only [Prod.mk.injEq] at h2
  exact ⟨x,r,rfl,h1,h2.1.symm,h2.2.symm⟩
 ·cases h
noncomputable def qxv:qd2:=fun k=>bif Nat.beq k 138 then some (tkT f138) else bif Nat.beq k 72 then some (tkT f72) else none
def opT (k:Nat):Bool:=[68,69,115,37,84,85,120,41,87,88,3,4,5,6,7,8,9,10,11,12,13,14,15].any (Nat.beq k)
noncomputable def prT:jj:=kr pr qxv opT
theorem okT:ProgOk Tryz.prog prT:=qnl (okM ok0) (by
 intro k f hf
 simp only [qxv,Bool.cond_eq_ite] at hf
 split at hf
 ·next hb=>
  cases hf
  obtain rfl:=Nat.eq_of_beq_eq_true hb
  refine ⟨qap (k:=138) (by kernel_rfl),fun args v o h _ _=>?_⟩
  obtain ⟨x,r,rfl,h1,rfl,rfl⟩:=qta h
  exact jly h1
 split at hf
 ·next hb=>
  cases hf
  obtain rfl:=Nat.eq_of_beq_eq_true hb
  refine ⟨qap (k:=72) (by kernel_rfl),fun args v o h _ _=>?_⟩
  obtain ⟨x,r,rfl,h1,rfl,rfl⟩:=qta h
  exact T72 h1
 ·cases hf)
theorem atT {k:Nat} (ho:opT k=false) (hm:qxv k=none) {args:List AVal} {v:AVal} {o:Bool} (h:qd pr (X pr) k args=some (v,o)) (hv:Abs.below 0 v=true):qd prT (X prT) k args=some (v,o):=qog ho hm h hv
theorem q7w {a0:Option (List qc)} {a1:Option (List Int)} {r} (h:f138 a0 a1=some r):qd prT (X prT) 138 [sl 8 qg a0,sl 1 qp a1]=some (.tup [sl 8 qg r.1,.bool r.2],false):=by
 have hb:Abs.below 0 (sl 8 qg r.1)=true:=by simp only [go_sem,seval]
 exact qjb (f:=tkT f138) rfl rfl (by have:=qsb f138 (a0,a1); rw [h] at this; exact this) (by
  show (Abs.below 0 (sl 8 qg r.1) && (true && true))=true
  rw [hb]; rfl)
theorem W72 {a0:Option (List qc)} {a1:Option (List Int)} {r} (h:f72 a0 a1=some r):qd prT (X prT) 72 [sl 8 qg a0,sl 1 qp a1]=some (.tup [sl 8 qg r.1,.bool r.2],false):=by
 have hb:Abs.below 0 (sl 8 qg r.1)=true:=by simp only [go_sem,seval]
 exact qjb (f:=tkT f72) rfl rfl (by have:=qsb f72 (a0,a1); rw [h] at this; exact this) (by
  show (Abs.below 0 (sl 8 qg r.1) && (true && true))=true
  rw [hb]; rfl)
end Go.Z
