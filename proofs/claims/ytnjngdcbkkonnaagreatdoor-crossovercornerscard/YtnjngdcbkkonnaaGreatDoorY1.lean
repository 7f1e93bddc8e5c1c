/- CrossoverCorners. -/
import Derived.Test.YtnjngdcbkkonnaaGreatDoorPQ
import Derived.Test.YtnjngdcbkkonnaaGreatDoorA30
import Derived.Test.YtnjngdcbkkonnaaGreatDoorQA
import Derived.Test.YtnjngdcbkkonnaaGreatDoorQC
import Derived.Test.YtnjngdcbkkonnaaGreatDoorA31
set_option linter.unusedVariables false
set_option linter.unusedSimpArgs false
set_option maxRecDepth 100000
set_option maxHeartbeats 1000000
namespace Go.Z
open Go Go.Abs
section
variable {ps:Option (List qi)} {ch:Option (List Int)} {s0 s1 s2:(Option (List (Option (List GEl)))) × Int × Bool} {p:qi} {x:List GEl} {A:List (Option (List GEl))}
theorem jln {a:List (Option (List GEl))} {v:GEl} (hx:x.length≤1000) (hl:a.length < 1073741824) {γ:Type} {q:Option (List (Option (List GEl)))→Option γ}:(qe (apO (some []) ((qt x).getD [])) fun v1=>qe (apO v1 [v]) fun v2=>cond (yw a) (qe (apO (qt a) [v2]) q) (cond (qt a).isNone (qe (apO (qt a) [v2]) q) none))=q (qt (a++[qt (x++[v])])):=by
 have e:=q19 (v:=v) hx
 cases h1:apO (some []) ((qt x).getD []) with
 | none=>rw [h1] at e; cases e
 | some y=>
  rw [h1,qd] at e
  rw [qd,e,qd,qch hl]
theorem je0 (h:okP p) (hx:x.length≤1000) {d:Int} (hd:-10≤d∧d≤10) (hs:s2.2.1=d) (hA:A.length≤100000):
  itO (qiz ps ch s0 p s1 (qt x) s2) (qt A,qf .i64 (0 - p.sb),yw A)=some (qt (A++(zn p.pb p.sb false).flatMap fun b=>[qt (x++[⟨p.kd,p.pa + d,b⟩])]),yw (A++(zn p.pb p.sb false).flatMap fun b=>[qt (x++[⟨p.kd,p.pa + d,b⟩])]),p.sb + 1):=by
 obtain ⟨⟨a1,a2,a3,a4⟩,b1,b2,b3,b4⟩:=h
 have hn:=qdc (a:=p.pb) (s:=p.sb) ⟨b1,b2,b3,b4⟩
 have key:=qci (zn p.pb p.sb false) (fun j=>-p.sb + (j:Int)) (qiz ps ch s0 p s1 (qt x) s2) (fun b=>[qt (x++[⟨p.kd,p.pa + d,b⟩])]) A (fun j a=>a.length≤100000 + j) (by omega) (fun a=>by
  unfold qiz
  dsimp only
  rw [decide_eq_false (show ¬ (-p.sb + ((zn p.pb p.sb false).length:Int)≤p.sb) by omega),cond_false]) (fun j y a hy hj ha=>by
  have hya:=qkp (a:=p.pb) (s:=p.sb) ⟨b1,b2,b3,b4⟩ hy
  refine ⟨by simp; omega,?_⟩
  unfold qiz
  dsimp only
  rw [decide_eq_true (show -p.sb + (j:Int)≤p.sb by omega),cond_true,hs,yi (x:=p.pa + d) (by omega),yi (x:=p.pb + (-p.sb + (j:Int))) (by omega),yi (x:=-p.sb + (j:Int) + 1) (by omega)]
  rw [jln hx (by omega),show p.pb + (-p.sb + (j:Int))=y by omega,qgh]
  congr 3
  ·congr 1
   omega)
 rw [show qf .i64 (0 - p.sb)=-p.sb + ((0:Nat):Int) by rw [yi (by omega)]; omega]
 rw [key,hn]
 congr 3
 omega
theorem jea (h:okP p) (hx:x.length≤1000) (hA:A.length≤50000):
  itO (qjh ps ch s0 p s1 (qt x)) (qt A,qf .i64 (0 - p.sa),yw A)=some (qt (A++(yj p false).map fun v=>qt (x++[v])),yw (A++(yj p false).map fun v=>qt (x++[v])),p.sa + 1):=by
 obtain ⟨⟨a1,a2,a3,a4⟩,b1,b2,b3,b4⟩:=id h
 have hn:=qdc (a:=p.pa) (s:=p.sa) ⟨a1,a2,a3,a4⟩
 have key:=qci (zn p.pa p.sa false) (fun j=>-p.sa + (j:Int)) (qjh ps ch s0 p s1 (qt x)) (fun a=>(zn p.pb p.sb false).flatMap fun b=>[qt (x++[⟨p.kd,a,b⟩])]) A (fun j a=>a.length≤50000 + 3 * j) (by omega) (fun a=>by
  unfold qjh
  dsimp only
  rw [decide_eq_false (show ¬ (-p.sa + ((zn p.pa p.sa false).length:Int)≤p.sa) by omega),cond_false]) (fun j y a hy hj ha=>by
  have hya:=qkp (a:=p.pa) (s:=p.sa) ⟨a1,a2,a3,a4⟩ hy
  have h3:=qd9 (a:=p.pb) (s:=p.sb) (c:=false)
  have h3':=qd9 (a:=p.pa) (s:=p.sa) (c:=false)
  have hin:=je0 (ps:=ps) (ch:=ch) (s0:=s0) (s1:=s1) (s2:=(qt a,-p.sa + (j:Int),yw a)) (A:=a) (d:=-p.sa + (j:Int)) h hx (by omega) rfl (by omega)
  refine ⟨?_,?_⟩
  ·rw [qbk,List.length_append,List.length_map]; omega
  ·unfold qjh
   dsimp only
   rw [decide_eq_true (show -p.sa + (j:Int)≤p.sa by omega),cond_true,hin,qd,yi (x:=-p.sa + (j:Int) + 1) (by omega),show p.pa + (-p.sa + (j:Int))=y by omega]
   congr 3
   ·congr 1
    omega)
 rw [show qf .i64 (0 - p.sa)=-p.sa + ((0:Nat):Int) by rw [yi (by omega)]; omega]
 have e:((zn p.pa p.sa false).flatMap fun a=>(zn p.pb p.sb false).flatMap fun b=>[qt (x++[(⟨p.kd,a,b⟩:GEl)])])=(yj p false).map fun v=>qt (x++[v]):=by
  unfold yj
  rw [List.map_flatMap]
  congr 1
  funext a
  rw [qbk,List.map_map]
  rfl
 rw [key,e,hn]
 congr 3
 omega
end
theorem q7b {ps:Option (List qi)} {ch:Option (List Int)} {L:List (List GEl)} {i:Nat} {k:Int} {p:qi} (hi:(ch.getD [])[i]?=some k) (hn:(ch.getD []).length≤1000) (hp:zw (ps.getD []) k=some p) (h:okP p) (hL:L.length≤5000) (hx:∀ x∈L,x.length≤1000):
  qi0 ps ch (qt (L.map qt),(i:Int),yw (L.map qt))=some (.inl (qt ((qd1 false L p).map qt),((i + 1:Nat):Int),yw ((qd1 false L p).map qt))):=by
 have hil:i < (ch.getD []).length:=(List.getElem?_eq_some_iff.1 hi).1
 unfold qi0
 dsimp only
 rw [yu hil,cond_true,yk hi,qd,hp,qd,ze hil (by omega)]
 have key:=qci L (fun j=>(j:Int)) (ql3 ps ch (qt (L.map qt),(i:Int),yw (L.map qt)) p) (fun x=>(yj p false).map fun v=>qt (x++[v])) [] (fun j a=>a.length≤9 * j) (by simp) (fun a=>by
   unfold ql3
   dsimp only
   rw [zi,List.length_map,yg]; rfl) (fun j x a hj hjl ha=>by
   have hv9:=qfe (p:=p) (c:=false)
   have hin:=jea (ps:=ps) (ch:=ch) (s0:=(qt (L.map qt),(i:Int),yw (L.map qt))) (s1:=(qt a,(j:Int),yw a)) (x:=x) (A:=a) h (hx x (List.mem_of_getElem? hj)) (by omega)
   have hidx:zw ((qt (L.map qt)).getD []) (j:Int)=some (qt x):=by
    rw [zi,qfm,List.getElem?_map,hj]; rfl
   refine ⟨by rw [List.length_append,List.length_map]; omega,?_⟩
   unfold ql3
   dsimp only
   rw [hidx,zi,List.length_map,yu hjl,cond_true,qd,hin,qd,ze hjl (by omega)])
 have e1:(L.flatMap fun x=>(yj p false).map fun v=>qt (x++[v]))=(qd1 false L p).map qt:=by
  unfold qd1
  rw [List.map_flatMap]
  congr 1
  funext x
  rw [List.map_map]
  rfl
 rw [List.nil_append,e1] at key
 rw [show ((none:Option (List (Option (List GEl)))),(0:Int),false)=(qt [],((0:Nat):Int),yw ([]:List (Option (List GEl)))) from rfl,key,qd]
theorem jdv {ps:Option (List qi)} {ch:Option (List Int)} {qs:List qi} (hp:qbj (ps.getD []) (ch.getD []) qs) (ho:∀ q∈qs,okP q) (hn:(ch.getD []).length≤3):∀ {k i:Nat} {L:List (List GEl)},(ch.getD []).length=i + k→L.length≤9 ^ i→(∀ x∈L,x.length=i) →
  itO (qi0 ps ch) (qt (L.map qt),(i:Int),yw (L.map qt))=some (qt (((qs.drop i).foldl (qd1 false) L).map qt),yw (((qs.drop i).foldl (qd1 false) L).map qt),((ch.getD []).length:Int))
 | 0,i,L,hk,hL,hx=>by
  rw [List.drop_eq_nil_of_le (by rw [hp.len]; omega)]
  refine qal ?_
  unfold qi0
  dsimp only
  rw [decide_eq_false (show ¬ (i:Int) < ((ch.getD []).length:Int) by omega),cond_false]
  have:(i:Int)=((ch.getD []).length:Int):=by omega
  rw [this]; rfl
 | k + 1,i,L,hk,hL,hx=>by
  have hil:i < (ch.getD []).length:=by omega
  obtain ⟨q,g1,g2⟩:=hp.at_ i _ (List.getElem?_eq_getElem hil)
  have hpow:9 ^ i≤729:=by
   match i,(show i≤3 by omega) with
   | 0,_=>decide
   | 1,_=>decide
   | 2,_=>decide
   | 3,_=>decide
  have hs:=q7b (L:=L) (List.getElem?_eq_getElem hil) (by omega) g2 (ho q (List.mem_of_getElem? g1)) (by omega) (fun x hm=>by rw [hx x hm]; omega)
  rw [qcp hs,qab g1,List.foldl_cons]
  refine jdv (k:=k) (i:=i + 1) hp ho hn (by omega) ?_ ?_
  ·have:=q6b (c:=false) (L:=L) (p:=q)
   rw [Nat.pow_succ]
   omega
  ·intro y hy
   obtain ⟨x,hm,hy⟩:=List.mem_flatMap.1 hy
   obtain ⟨v,_,rfl⟩:=List.mem_map.1 hy
   rw [List.length_append,hx x hm]; rfl
theorem q49 {ps:Option (List qi)} {ch:Option (List Int)} {qs:List qi} (hp:qbj (ps.getD []) (ch.getD []) qs) (ho:∀ q∈qs,okP q) (hn:(ch.getD []).length≤3):f56 ps ch=some (qt ((j9 false qs []).map qt),yw ((j9 false qs []).map qt)):=by
 unfold f56
 have:=jdv hp ho hn (k:=(ch.getD []).length) (i:=0) (L:=[[]]) (by omega) (by decide) (by simp)
 have e:(qt (([[]]:List (List GEl)).map qt),((0:Nat):Int),yw (([[]]:List (List GEl)).map qt))=(some [none],0,true):=rfl
 rw [e,List.drop_zero,q67] at this
 rw [this,qd]
def tz (p:qi):qi:={ p with sa:=0,sb:=0 }
theorem jcm (p:qi):qxp (qtk p 0) 0=tz p:=rfl
theorem qz6 (p:qi):yj (tz p) false=[⟨p.kd,p.pa,p.pb⟩]:=by
 simp [yj,tz,zn]
theorem ja5 {p:qi} (h:qa2 p=0):qa2 (tz p)=0:=by
 have ha:qdz p=0:=by
  unfold qa2 at h
  split at h
  ·assumption
  ·exact h
 have hz:=zr.1 ha
 have h2:=hz (kc ⟨p.kd,p.pa,p.pb⟩) (by simp)
 have hA:qdz (tz p)=0:=zr.2 fun x hx=>by
  simp only [List.mem_cons,List.not_mem_nil,or_false] at hx
  rcases hx with rfl | rfl | rfl | rfl | rfl | rfl
  ·exact hz _ (by simp [tz])
  ·exact h2
  ·rfl
  ·rfl
  ·exact hz _ (by simp [tz])
  ·exact hz _ (by simp [tz])
 unfold qa2
 rw [if_pos hA,qz6]
 simp only [List.map_cons,List.map_nil]
 rw [decide_eq_true (zr.2 fun x hx=>by
  simp only [List.mem_cons,List.not_mem_nil,or_false] at hx
  rw [hx]; exact h2)]
 rfl
theorem q0c:∀ {l:List qi} {ks:List (List UInt8)},qgx ks l=0→qgx ks (l.map tz)=0
 | [],_,_=>rfl
 | p::l,ks,h=>by
  unfold qgx at h
  split at h
  ·next h1=>
   have hz:=zr.1 h1
   have e1:=ja5 (hz (qa2 p) (by simp))
   have e2:kg (decide (p.name∈ks)) 9=0:=hz _ (by simp)
   rw [List.map_cons]
   unfold qgx
   have h3:js [qa2 (tz p),kg (decide ((tz p).name∈ks)) 9]=0:=zr.2 fun x hx=>by
    simp only [List.mem_cons,List.not_mem_nil,or_false] at hx
    rcases hx with rfl | rfl
    ·exact e1
    ·exact e2
   rw [if_pos h3]
   exact q0c h
  ·next h1=>exact absurd h h1
theorem jdg {l:List qi} (h:qbm l=0):qbm (l.map tz)=0:=by
 unfold qbm at h ⊢
 rw [List.length_map]
 split at h
 ·cases h
 ·next h1=>rw [if_neg h1]; exact q0c h
theorem q4e {l:List qi} {ch:List Int}:km (l.map tz) ch=km l ch:=by
 unfold km
 rw [List.length_map]
theorem q3j {ps qs:List qi} {ch:List Int} (h:qbj ps ch qs):qbj (ps.map tz) ch (qs.map tz) where
 len:=by rw [List.length_map]; exact h.len
 at_:=fun k i hk=>by
  obtain ⟨q,g1,g2⟩:=h.at_ k i hk
  refine ⟨tz q,by rw [List.getElem?_map,g1]; rfl,?_⟩
  unfold zw at g2 ⊢
  split at g2
  ·next hc=>rw [if_pos hc,List.getElem?_map,g2]; rfl
  ·cases g2
 mem:=fun q hq=>by
  obtain ⟨p,hp,rfl⟩:=List.mem_map.1 hq
  exact List.mem_map.2 ⟨p,h.mem p hp,rfl⟩
theorem qpw {ps:List qi} {ch:List Int} {qs qs':List qi} (h:qbj ps ch qs) (h':qbj ps ch qs'):qs=qs':=by
 apply List.ext_getElem?
 intro k
 cases hc:ch[k]? with
 | none=>
  have:=List.getElem?_eq_none_iff.1 hc
  rw [List.getElem?_eq_none (by rw [h.len]; omega),List.getElem?_eq_none (by rw [h'.len]; omega)]
 | some i=>
  obtain ⟨q,g1,g2⟩:=h.at_ k i hc
  obtain ⟨q',g1',g2'⟩:=h'.at_ k i hc
  rw [g2] at g2'
  cases g2'
  rw [g1,g1']
def ctr (qs:List qi):List GEl:=qs.map fun q=>⟨q.kd,q.pa,q.pb⟩
theorem q5b:∀ {qs:List qi} {x:List GEl},j9 false (qs.map tz) x=[x++ctr qs]
 | [],x=>by simp [j9,ctr]
 | q::qs,x=>by
  rw [List.map_cons]
  unfold j9
  rw [qz6,List.flatMap_cons,List.flatMap_nil,List.append_nil,q5b]
  simp [ctr]
theorem qv2 {a s:Int}:a∈zn a s false:=by
 unfold zn
 split <;> simp
theorem q0x:∀ {qs:List qi} {x:List GEl},x++ctr qs∈j9 false qs x
 | [],x=>by simp [j9,ctr]
 | q::qs,x=>by
  unfold j9
  refine List.mem_flatMap.2 ⟨⟨q.kd,q.pa,q.pb⟩,?_,?_⟩
  ·unfold yj
   exact List.mem_flatMap.2 ⟨q.pa,qv2,List.mem_map.2 ⟨q.pb,qv2,rfl⟩⟩
  ·have:=q0x (qs:=qs) (x:=x++[⟨q.kd,q.pa,q.pb⟩])
   simpa [ctr] using this
theorem q82 {l:List qi} (hn:l.length≤1000):∀ (k i:Nat),i + k=l.length→itO (qmg l.length) ((i:Int),(l.take i).map tz++l.drop i)=some ((l.length:Int),l.map tz)
 | 0,i,hi=>by
  have:i=l.length:=by omega
  subst this
  rw [List.take_of_length_le (Nat.le_refl _),List.drop_eq_nil_of_le (Nat.le_refl _),List.append_nil]
  refine qal ?_
  unfold qmg
  dsimp only
  rw [yg,cond_false]
 | k + 1,i,hi=>by
  have hlt:i < l.length:=by omega
  have hd:=List.drop_eq_getElem_cons hlt
  have ht:l.take (i + 1)=l.take i++[l[i]]:=List.take_succ_eq_append_getElem hlt
  have hlen:((l.take i).map tz).length=i:=by rw [List.length_map,List.length_take]; omega
  have hset:∀ (x y:qi) (r:List qi),((l.take i).map tz++x::r).set i y=(l.take i).map tz++y::r:=fun x y r=>by
   rw [List.set_append_right _ _ (by omega),hlen,Nat.sub_self,List.set_cons_zero]
  have hget:∀ (x:qi) (r:List qi),qmr l.length ((l.take i).map tz++x::r) (i:Int)=some x:=fun x r=>by
   unfold qmr
   rw [if_pos ⟨by omega,by omega⟩,Int.toNat_natCast,List.getElem?_append_right (by omega),hlen,Nat.sub_self,List.getElem?_cons_zero]
  rw [qcp (s':=(((i + 1:Nat):Int),(l.take (i + 1)).map tz++l.drop (i + 1)))]
  ·exact q82 hn k (i + 1) (by omega)
  ·unfold qmg
   dsimp only
   rw [yu hlt,cond_true,hd,hget,qd,Int.toNat_natCast,hset,hget,qd,hset,jcm,ze hlt (by omega),ht,List.map_append,List.map_cons,List.map_nil,List.append_assoc]
   rfl
section
variable {a0:yl} {v10:Int} {v16:jy × Int} {v18:GRat × Int} {qs:List qi}
theorem q1f (hp:qbj (a0.parts.getD []) (a0.choice.getD []) qs) (hn:(a0.choice.getD []).length≤3):∀ (k i:Nat) (b:Bool),i + k=(a0.choice.getD []).length →
  itO (qlz a0 v10 v16 v18) (b,(i:Int))=some (b && (qs.drop i).all (fun q=>!k8 q.kd),((a0.choice.getD []).length:Int))
 | 0,i,b,hi=>by
  have:i=(a0.choice.getD []).length:=by omega
  subst this
  rw [List.drop_eq_nil_of_le (by rw [hp.len]; omega)]
  refine qal ?_
  unfold qlz
  dsimp only
  rw [yg,cond_false]
  simp
 | k + 1,i,b,hi=>by
  have hlt:i < (a0.choice.getD []).length:=by omega
  obtain ⟨q,g1,g2⟩:=hp.at_ i _ (List.getElem?_eq_getElem hlt)
  have ih:=q1f hp hn k (i + 1) (b && !k8 q.kd) (by omega)
  rw [qcp (s':=(b && !k8 q.kd,((i + 1:Nat):Int))),ih,qab g1,List.all_cons,Bool.and_assoc]
  unfold qlz
  dsimp only
  rw [yu hlt,cond_true,yk (List.getElem?_eq_getElem hlt),qd,ze hlt (by omega)]
  cases b with
  | true=>rw [cond_true,g2,qd,jdu,qd,Bool.true_and]
  | false=>rfl
variable {d43:Bool × Int} {fl:Bool} {L:List (List GEl)} {w:Int}
theorem jft {i:Nat} (hlt:i < L.length):zw ((qt (L.map qt)).getD []) (i:Int)=some (qt L[i]):=by
 rw [zi,qfm,List.getElem?_map,List.getElem?_eq_getElem hlt]; rfl
theorem q5f {x:List GEl} (hx:zy x=0):∃ o,f46 (qt x)=some (qt x,o):=by
 have hl:=(qg4 hx).1
 exact ⟨_,by rw [jdi (by rw [zi]; omega),zi]⟩
theorem q5v {x:List GEl} (hx:zy x=0) (hw:jd w 1 8=0):f57 (qt x) w=some (lev w x):=by
 rw [qyr (by rw [zi]; exact hx) hw,zi]
theorem qw8 (hv:v16.2=17) (hL:∀ x∈L,zy x=0) (hw:jd w 1 8=0) (hw':qf .i64 (1 + v10)=w) (hn:L.length≤100000):∀ (k i:Nat) (pl f0 f1:Bool),i + k=L.length →
  itO (qgv a0 v10 v16 v18 d43 (qt (L.map qt),fl)) (pl,(i:Int),f0,f1)=some (.inr (pl || (L.drop i).any (fun x=>!decide ((lev w x).2=0)),(L.length:Int),f0,f1))
 | 0,i,pl,f0,f1,hi=>by
  have:i=L.length:=by omega
  subst this
  rw [List.drop_eq_nil_of_le (Nat.le_refl _)]
  refine qal ?_
  unfold qgv
  dsimp only
  rw [zi,List.length_map,yg,cond_false]
  simp
 | k + 1,i,pl,f0,f1,hi=>by
  have hlt:i < L.length:=by omega
  have hx:=hL _ (List.getElem_mem hlt)
  obtain ⟨o,h46⟩:=q5f hx
  have h57:=q5v hx hw
  have h0:¬ v16.2=0:=by rw [hv]; decide
  have ih:=qw8 hv hL hw hw' hn k (i + 1) (pl || !decide ((lev w L[i]).2=0)) f0 f1 (by omega)
  rw [qcp (s':=(pl || !decide ((lev w L[i]).2=0),((i + 1:Nat):Int),f0,f1)),ih,List.drop_eq_getElem_cons hlt,List.any_cons,Bool.or_assoc]
  unfold qgv
  dsimp only
  rw [jft hlt,zi,List.length_map,yu hlt,cond_true,qd,h46,qd,hw',h57,qd,ze hlt (by omega)]
  rcases qoi hx hw with k | ⟨k1,k2⟩
  ·rw [k,show decide ((17:Int)=0)=false from rfl,cond_false]
   cases pl <;> rfl
  ·rw [decide_eq_true k1,cond_true,decide_eq_false h0,cond_false,Bool.not_true,Bool.or_false]
def eqR (a b:GRat):Bool:=decide (a.num=b.num) && decide (a.den=b.den)
theorem q0f (s:jy) (hs1:okR (qlo s)) (hs2:okR (qhi s)) (hL:∀ x∈L,zy x=0) (hz:∀ x∈L,(lev w x).2=0∧leR (qlo s) (lev w x).1∧leR (lev w x).1 (qhi s)) (hw:jd w 1 8=0) (hw':qf .i64 (1 + v10)=w) (hn:L.length≤100000):∀ (k i:Nat) (f0 f1:Bool),i + k=L.length →
  itO (qgv a0 v10 (s,0) v18 d43 (qt (L.map qt),fl)) (false,(i:Int),f0,f1)=some (.inr (false,(L.length:Int),f0 || (L.drop i).any (fun x=>eqR (lev w x).1 (qlo s)),f1 || (L.drop i).any (fun x=>eqR (lev w x).1 (qhi s))))
 | 0,i,f0,f1,hi=>by
  have:i=L.length:=by omega
  subst this
  rw [List.drop_eq_nil_of_le (Nat.le_refl _)]
  refine qal ?_
  unfold qgv
  dsimp only
  rw [zi,List.length_map,yg,cond_false]
  simp
 | k + 1,i,f0,f1,hi=>by
  have hlt:i < L.length:=by omega
  have hm:=List.getElem_mem hlt
  have hx:=hL _ hm
  obtain ⟨z1,z2,z3⟩:=hz _ hm
  obtain ⟨o,h46⟩:=q5f hx
  have h57:=q5v hx hw
  have hk:=qef hx hw z1
  have l1:f58 200 (lev w L[i]).1 ⟨s.a,s.b⟩=some false:=by
   have:=qgc hk hs1
   rw [show ya (lev w L[i]).1 (qlo s)=false from z2] at this
   exact this
  have l2:f58 200 ⟨s.c,s.d⟩ (lev w L[i]).1=some false:=by
   have:=qgc hs2 hk
   rw [show ya (qhi s) (lev w L[i]).1=false from z3] at this
   exact this
  have ih:=q0f s hs1 hs2 hL hz hw hw' hn k (i + 1) (f0 || eqR (lev w L[i]).1 (qlo s)) (f1 || eqR (lev w L[i]).1 (qhi s)) (by omega)
  rw [qcp (s':=(false,((i + 1:Nat):Int),f0 || eqR (lev w L[i]).1 (qlo s),f1 || eqR (lev w L[i]).1 (qhi s))),ih,List.drop_eq_getElem_cons hlt,List.any_cons,List.any_cons,Bool.or_assoc,Bool.or_assoc]
  have c1:=hk.a
  have c2:=hk.c
  have c3:0≤s.a:=hs1.a
  have c4:1≤s.b:=hs1.c
  have c5:0≤s.c:=hs2.a
  have c6:1≤s.d:=hs2.c
  unfold qgv
  dsimp only
  rw [jft hlt,zi,List.length_map,yu hlt,cond_true,qd,h46,qd,hw',h57,qd,ze hlt (by omega),decide_eq_true z1,cond_true,show decide ((0:Int)=0)=true from rfl,cond_true,decide_eq_false (show ¬ (lev w L[i]).1.den < 1 by omega),cond_false,decide_eq_false (show ¬ (lev w L[i]).1.num < 0 by omega),cond_false,decide_eq_false (show ¬ s.b < 1 by omega),cond_false,decide_eq_false (show ¬ s.d < 1 by omega),cond_false,decide_eq_false (show ¬ s.a < 0 by omega),cond_false,decide_eq_false (show ¬ s.c < 0 by omega),cond_false,l1,qd,cond_false,l2,qd,cond_false]
  cases f0 <;> cases f1 <;> rfl
end
theorem ja1 {w:Int} {x:List GEl} (h:(lev w x).2=0):qg1 w [x]=(mkQ (lev w x).1 (lev w x).1,0):=by
 unfold qg1 ext
 rw [if_pos h]
 rfl
theorem q92 {w:Int} {b:jm} {l:List jm} (hc:qfo (b::l)=0) (hw:jd w 1 8=0):qfo [⟨w,b.ln,b.ld,b.mn,b.md⟩]=0∧qcf ⟨w,b.ln,b.ld,b.mn,b.md⟩=0∧okR (bLe b)∧okR (bMo b):=by
 have hb:=(quj hc).2 b (List.mem_cons_self ..)
 obtain ⟨g1,g2,g3⟩:=qma hb
 have hA:qcf ⟨w,b.ln,b.ld,b.mn,b.md⟩=0:=zr.2 fun x hx=>by
  simp only [List.mem_cons,List.not_mem_nil,or_false] at hx
  rcases hx with rfl | rfl | rfl
  ·exact hw
  ·exact g2
  ·exact g3
 refine ⟨?_,hA,qee g2,qee g3⟩
 have hr:=qb4 hw
 unfold qfo at hc ⊢
 simp only [List.length_cons,List.length_nil]
 rw [if_neg (by omega),if_neg (by omega)]
 rw [if_neg (by simp)] at hc
 split at hc
 ·cases hc
 ·unfold qju at hc ⊢
  rw [if_pos hb] at hc
  rw [if_pos hA]
  split at hc
  ·cases hc
  ·next h1=>
   simp only [Bool.or_eq_true,not_or,Bool.not_eq_true,decide_eq_true_eq] at h1
   rw [if_neg]
   ·rfl
   ·simp only [Bool.or_eq_true,not_or,Bool.not_eq_true,decide_eq_true_eq]
    exact ⟨h1.1,by omega⟩
section
variable {c:yl} {a1:Int} {qs:List qi} {w:Int}
theorem q2o (hc:qbm (c.parts.getD [])=0) (hch:km (c.parts.getD []) (c.choice.getD [])=0) (hp:qbj (c.parts.getD []) (c.choice.getD []) qs) (hw:jd w 1 8=0) {s:jy} (hz:∀ x∈j9 false qs [],(lev w x).2=0) (hk:qo8 w (j9 false qs []) s) (h1:okR (qlo s)) (h2:okR (qhi s))
  {b0 b1:Int} {f0 f1:Bool} {q0 q1 q2 q3 q4 q5:Int} {ld:Option (List GEl)}:qo7 c a1 w false s.a s.b s.c s.d b0 b1 f0 f1 q0 q1 q2 q3 q4 q5 ld=some true:=by
 obtain ⟨z4,_⟩:=qji hch
 have hcp:=qni hc
 have hl:=(qsc (c:=false) hc hp z4).2
 have hm:ctr qs∈j9 false qs []:=by simpa using q0x (qs:=qs) (x:=[])
 have hlv:=hz _ hm
 have hok:=qef (hl _ hm) hw hlv
 obtain ⟨k1,k2⟩:=hk.2.2 _ hm
 have e29:∀ P:Option (List qi),P.getD []=(c.parts.getD []).map tz→f29 P (some (c.choice.getD [])) w=some (mkQ (lev w (ctr qs)).1 (lev w (ctr qs)).1,0):=by
  intro P hP
  unfold f29
  have hq:(some (c.choice.getD []):Option (List Int)).getD []=c.choice.getD []:=rfl
  rcases q01 (ps:=P) (ch:=some (c.choice.getD [])) (w:=w) (c:=false) (by rw [hq]; omega) with ⟨g1,qs1,g2,g3⟩ | ⟨g1,_⟩
  ·rw [g3,qd]
   rw [hP,hq] at g2
   rw [qpw g2 (q3j hp),q5b,List.nil_append,ja1 hlv]
  ·refine absurd (zr.2 fun x hx=>?_) g1
   rw [hP,hq] at hx
   simp only [List.mem_cons,List.not_mem_nil,or_false] at hx
   rcases hx with rfl | rfl | rfl
   ·exact jdg hc
   ·rw [q4e]; exact hch
   ·exact hw
 have hT:T7 (mkQ (lev w (ctr qs)).1 (lev w (ctr qs)).1,0) s.a s.b s.c s.d=some true:=by
  have e1:f58 200 ⟨(lev w (ctr qs)).1.num,(lev w (ctr qs)).1.den⟩ ⟨s.a,s.b⟩=some false:=by
   have:=qgc hok h1
   rw [show ya (lev w (ctr qs)).1 (qlo s)=false from k1] at this
   exact this
  have e2:f58 200 ⟨s.c,s.d⟩ ⟨(lev w (ctr qs)).1.num,(lev w (ctr qs)).1.den⟩=some false:=by
   have:=qgc h2 hok
   rw [show ya (qhi s) (lev w (ctr qs)).1=false from k2] at this
   exact this
  have d1:=hok.c
  have d2:=hok.a
  unfold T7 mkQ
  dsimp only
  rw [decide_eq_true rfl,cond_true,decide_eq_true (show 0 < (lev w (ctr qs)).1.den by omega),cond_true,cond_true,decide_eq_true rfl,decide_eq_true rfl,Bool.and_self,cond_true,decide_eq_true d2,cond_true,e1,qd,cond_false,e2,qd,cond_false]
 unfold qo7
 rw [cond_false,qyh (by omega),qd,qyg (by omega)]
 cases hpl:c.parts.getD [] with
 | nil=>
  have:=e29 none (by rw [hpl]; rfl)
  show qe (some (some (c.choice.getD []))) _=_
  rw [qd,this,qd,hT]
 | cons p l=>
  have h72:=q82 (l:=p::l) (by rw [← hpl]; omega) (p::l).length 0 (by omega)
  rw [List.take_zero,List.map_nil,List.nil_append,List.drop_zero] at h72
  have:=e29 (some ((p::l).map tz)) (by rw [hpl]; rfl)
  show cond (decide (0 < (p::l).length)) (qe (itO (qmg (p::l).length) (0,p::l)) fun d=>cond (decide (d.2.length=(p::l).length)) (qe (some (some (c.choice.getD []))) fun c'=>qe (f29 (some d.2) c' w) fun z=>T7 z s.a s.b s.c s.d) none) none=_
  have h72:itO (qmg (p::l).length) (0,p::l)=_:=h72
  rw [decide_eq_true (by simp),cond_true,h72,qd]
  dsimp only
  rw [decide_eq_true (by simp),cond_true,qd,this,qd,hT]
theorem jk8 (hc:qbm (c.parts.getD [])=0) (hch:km (c.parts.getD []) (c.choice.getD [])=0) (hb:qfo (c.bands.getD [])=0) (hp:qbj (c.parts.getD []) (c.choice.getD []) qs) (hw:jd w 1 8=0) {s:jy} (hz:∀ x∈j9 false qs [],(lev w x).2=0) (hk:qo8 w (j9 false qs []) s) (h1:okR (qlo s)) (h2:okR (qhi s))
  {b0 b1:Int} {f0 f1:Bool}:qe6 c a1 w false s.a s.b s.c s.d b0 b1 f0 f1=some true:=by
 obtain ⟨z4,_⟩:=qji hch
 have hcp:=qni hc
 obtain ⟨ho,hl⟩:=qsc (c:=false) hc hp z4
 have hlen:=(quj hb).1
 cases hbl:c.bands.getD [] with
 | nil=>rw [hbl] at hlen; simp at hlen
 | cons b bl=>
  rw [hbl] at hb
  obtain ⟨c1,c2,c3,c4⟩:=q92 hb hw
  have hq:(some (c.choice.getD []):Option (List Int)).getD []=c.choice.getD []:=rfl
  have hq1:=zi (c.parts.getD [])
  have e38:f38 (some [⟨w,b.ln,b.ld,b.mn,b.md⟩])=some (some [⟨w,b.ln,b.ld,b.mn,b.md⟩],true):=jdt (o:=some [⟨w,b.ln,b.ld,b.mn,b.md⟩]) (by simp)
  have e117:=jai (ps:=qt (c.parts.getD [])) (ch:=some (c.choice.getD [])) (bs:=some [⟨w,b.ln,b.ld,b.mn,b.md⟩]) (by rw [hq1,hq]; exact hp) ho (by rw [hp.len]; omega) (fun x hx=>by
   have:x=⟨w,b.ln,b.ld,b.mn,b.md⟩:=by simpa using hx
   rw [this]; exact c2) (by simp) hl
  have e59:f59 (qt (c.parts.getD [])) (some (c.choice.getD [])) (some [⟨w,b.ln,b.ld,b.mn,b.md⟩])=some ((qj4 (qe8 (j9 false qs []) 0 [⟨w,b.ln,b.ld,b.mn,b.md⟩])).1,kg (!(qj4 (qe8 (j9 false qs []) 0 [⟨w,b.ln,b.ld,b.mn,b.md⟩])).2) 7):=by
   unfold f59
   rw [q0z (by rw [hq]; omega),qd,jev,qd,qda (by simp),qd,hq1,hq,qt1]
   have e0:js [qbm (c.parts.getD []),km (c.parts.getD []) (c.choice.getD []),qfo ((some [(⟨w,b.ln,b.ld,b.mn,b.md⟩:jm)]).getD [])]=0:=zr.2 fun x hx=>by
    simp only [List.mem_cons,List.not_mem_nil,or_false] at hx
    rcases hx with rfl | rfl | rfl
    ·exact hc
    ·exact hch
    ·exact c1
   rw [e0,decide_eq_true rfl,cond_true,e117,qd,qcw,qd]
   rfl
  have l1:f58 200 ⟨s.a,s.b⟩ ⟨b.ln,b.ld⟩=some (ya (qlo s) (bLe b)):=qgc h1 c3
  have l2:f58 200 ⟨b.mn,b.md⟩ ⟨s.c,s.d⟩=some (ya (bMo b) (qhi s)):=qgc c4 h2
  have key:decide (kg (!(qj4 (qe8 (j9 false qs []) 0 [⟨w,b.ln,b.ld,b.mn,b.md⟩])).2) 7=7)=(!ya (qlo s) (bLe b) && !ya (bMo b) (qhi s)):=by
   unfold qe8
   cases hf:(j9 false qs []).find? (fun x=>!qd0 ⟨w,b.ln,b.ld,b.mn,b.md⟩ x) with
   | none=>
    rw [List.find?_eq_none] at hf
    have hall:∀ x∈j9 false qs [],qd0 ⟨w,b.ln,b.ld,b.mn,b.md⟩ x=true:=fun x hx=>by simpa using hf x hx
    obtain ⟨x,hx,ex⟩:=hk.1
    obtain ⟨y,hy,ey⟩:=hk.2.1
    have kx:=hall x hx
    have ky:=hall y hy
    unfold qd0 at kx ky
    simp only [Bool.and_eq_true] at kx ky
    have g1:ya (qlo s) (bLe b)=false:=by rw [ex]; simpa using (show (!ya (lev w x).1 (bLe b))=true from kx.1.2)
    have g2:ya (bMo b) (qhi s)=false:=by rw [ey]; simpa using (show (!ya (bMo b) (lev w y).1)=true from ky.2)
    rw [g1,g2]
    rfl
   | some x=>
    have hx:=List.mem_of_find?_eq_some hf
    have hkx:qd0 ⟨w,b.ln,b.ld,b.mn,b.md⟩ x=false:=by simpa using List.find?_some hf
    unfold qd0 at hkx
    dsimp only at hkx
    rw [decide_eq_true (hz x hx),Bool.true_and] at hkx
    obtain ⟨k1,k2⟩:=hk.2.2 x hx
    have hox:=qef (hl x hx) hw (hz x hx)
    have:(!ya (qlo s) (bLe b) && !ya (bMo b) (qhi s))=false:=by
     cases g1:ya (qlo s) (bLe b) with
     | true=>rfl
     | false=>
      cases g2:ya (bMo b) (qhi s) with
      | true=>rfl
      | false=>
       have a1:ya (lev w x).1 (bLe b)=false:=qja c3 h1 hox g1 k1
       have a2:ya (bMo b) (lev w x).1=false:=qja hox h2 c4 k2 g2
       have e1:bLe ⟨w,b.ln,b.ld,b.mn,b.md⟩=bLe b:=rfl
       have e2:bMo ⟨w,b.ln,b.ld,b.mn,b.md⟩=bMo b:=rfl
       rw [e1,e2,a1,a2] at hkx
       cases hkx
    rw [this]
    rfl
  unfold qe6
  rw [cond_false,hbl,show zw (b::bl) 0=some b from rfl,qd,qyh (by omega),qd,qyg (by omega),qd,e38,qd,e59,qd]
  dsimp only
  rw [l1,qd,key]
  cases g1:ya (qlo s) (bLe b) with
  | true=>
   rw [cond_true]
   exact q2o hc hch hp hw hz hk h1 h2
  | false=>
   rw [cond_false,l2,qd]
   cases g2:ya (bMo b) (qhi s) with
   | true=>exact q2o hc hch hp hw hz hk h1 h2
   | false=>exact q2o hc hch hp hw hz hk h1 h2
end
theorem q9x (c:yl) (a1:Int) (h0:0≤a1∧a1≤255):f7 c a1=some true:=by
 unfold f7
 rw [show E16=some true from rfl,qd,cond_true]
 obtain ⟨b,h1,h2⟩:=jfs (c:=c)
 rw [h1,qd]
 cases b with
 | false=>rfl
 | true=>
  obtain ⟨hs,hc5,hb9⟩:=h2 rfl
  have hl7:=qyv hs
  rw [cond_true,jen,qd]
  by_cases hz:q89 c=0
  case neg=>rw [decide_eq_false hz,cond_false]
  rw [decide_eq_true hz,cond_true]
  have hz':=zr.1 hz
  have z1:qbm (c.parts.getD [])=0:=hz' _ (by simp)
  have z2:km (c.parts.getD []) (c.choice.getD [])=0:=hz' _ (by simp)
  have z3:qfo (c.bands.getD [])=0:=hz' _ (by simp)
  obtain ⟨z4,qs,hp⟩:=qji z2
  obtain ⟨ho,hl⟩:=qsc (c:=false) z1 hp z4
  have hlt:∀ x∈j9 true qs [],zy x=0:=fun x hx=>hl x (qce ho hx)
  have hr:qeq (qf .i64 a1) 8=some (a1 % 8):=by
   rw [yi (by omega)]
   unfold qeq
   rw [if_neg (by omega),Int.tmod_eq_emod_of_nonneg h0.1]
  obtain ⟨w,hwd⟩:∃ w,qf .i64 (1 + a1 % 8)=w:=⟨_,rfl⟩
  have hw:jd w 1 8=0:=by
   rw [← hwd,yi (by omega)]
   unfold jd
   rw [if_neg (by omega),if_neg (by omega)]
  have hq:(some (c.choice.getD []):Option (List Int)).getD []=c.choice.getD []:=rfl
  have hq1:=zi (c.parts.getD [])
  have e111:∀ cr:Bool,f111 (qt (c.parts.getD [])) (some (c.choice.getD [])) w cr=some (qg1 w (j9 cr qs [])):=by
   intro cr
   rcases q01 (ps:=qt (c.parts.getD [])) (ch:=some (c.choice.getD [])) (w:=w) (c:=cr) (by rw [hq]; omega) with ⟨g1,qs1,g2,g3⟩ | ⟨g1,_⟩
   ·rw [hq1,hq] at g2
    rw [g3,qpw g2 hp]
   ·refine absurd (zr.2 fun x hx=>?_) g1
    rw [hq1,hq] at hx
    simp only [List.mem_cons,List.not_mem_nil,or_false] at hx
    rcases hx with rfl | rfl | rfl
    ·exact z1
    ·exact z2
    ·exact hw
  have hsz:=q74 (c:=false) (qs:=qs) (by rw [hp.len]; exact z4)
  rw [hr,qd,qyh (by omega),qd,qyg (by omega),qd]
  dsimp only
  rw [hwd]
  unfold f29 f31
  rw [e111 false,e111 true,qd,qd,qd,qd]
  cases hx:ext w (j9 false qs []) none with
  | none=>
   have hex:=qih.1 hx
   have eR:qg1 w (j9 false qs [])=(⟨0,0,0,0⟩,17):=by unfold qg1; rw [hx]
   obtain ⟨tr,htr⟩:∃ r,qg1 w (j9 true qs [])=r:=⟨_,rfl⟩
   rw [eR,htr]
   dsimp only
   have i0:=q1f (a0:=c) (v10:=a1 % 8) (v16:=((⟨0,0,0,0⟩:jy),(17:Int))) (v18:=((⟨tr.1.a,tr.1.b⟩:GRat),tr.2)) hp z4 (c.choice.getD []).length 0 true (by omega)
   have i0:itO (qlz c (a1 % 8) ((⟨0,0,0,0⟩:jy),(17:Int)) ((⟨tr.1.a,tr.1.b⟩:GRat),tr.2)) (true,0)=_:=i0
   rw [i0,qd,q49 hp ho z4,qd]
   have i1:=fun d43 fl=>qw8 (a0:=c) (v10:=a1 % 8) (v16:=((⟨0,0,0,0⟩:jy),(17:Int))) (v18:=((⟨tr.1.a,tr.1.b⟩:GRat),tr.2)) (d43:=d43) (fl:=fl) rfl hl hw hwd (by omega) (j9 false qs []).length 0 false false false (by omega)
   have hany:((j9 false qs []).drop 0).any (fun x=>!decide ((lev w x).2=0))=true:=by
    obtain ⟨x,hm,hv⟩:=hex
    exact List.any_eq_true.2 ⟨x,hm,by simp [hv]⟩
   rw [hany] at i1
   have i1:∀ d43 fl,itO (qgv c (a1 % 8) ((⟨0,0,0,0⟩:jy),(17:Int)) ((⟨tr.1.a,tr.1.b⟩:GRat),tr.2) d43 (qt ((j9 false qs []).map qt),fl)) (false,0,false,false)=_:=i1
   rw [i1,qd]
   rfl
  | some so=>
   obtain ⟨s,rfl,hk⟩:=qsh hw qk5 hl hx
   have hzl:∀ x∈j9 false qs [],(lev w x).2=0:=by
    intro x hm
    by_cases h:(lev w x).2=0
    ·exact h
    ·have:=(qih (s:=none)).2 ⟨x,hm,h⟩
     rw [hx] at this; cases this
   obtain ⟨x0,m0,e0⟩:=hk.1
   obtain ⟨x1,m1,e1⟩:=hk.2.1
   have hs1:okR (qlo s):=by rw [e0]; exact qef (hl _ m0) hw (hzl _ m0)
   have hs2:okR (qhi s):=by rw [e1]; exact qef (hl _ m1) hw (hzl _ m1)
   cases hy:ext w (j9 true qs []) none with
   | none=>
    obtain ⟨y,hym,hyv⟩:=qih.1 hy
    exact absurd (hzl y (qce ho hym)) hyv
   | some ta=>
    obtain ⟨t,rfl,kt⟩:=qsh hw qk5 hlt hy
    obtain ⟨y0,n0,u0⟩:=kt.1
    have ht1:okR (qlo t):=by rw [u0]; exact qef (hlt _ n0) hw (hzl _ (qce ho n0))
    have eR:qg1 w (j9 false qs [])=(s,0):=by unfold qg1; rw [hx]; rfl
    have eT:qg1 w (j9 true qs [])=(t,0):=by unfold qg1; rw [hy]; rfl
    rw [eR,eT]
    dsimp only
    have i0:=q1f (a0:=c) (v10:=a1 % 8) (v16:=(s,0)) (v18:=(⟨t.a,t.b⟩,0)) hp z4 (c.choice.getD []).length 0 true (by omega)
    have i0:itO (qlz c (a1 % 8) (s,0) (⟨t.a,t.b⟩,0)) (true,0)=_:=i0
    rw [i0,qd,q49 hp ho z4,qd]
    have i1:=fun d43 fl=>q0f (a0:=c) (v10:=a1 % 8) (v18:=(⟨t.a,t.b⟩,0)) (d43:=d43) (fl:=fl) s hs1 hs2 hl (fun x hm=>⟨hzl x hm,(hk.2.2 x hm).1,(hk.2.2 x hm).2⟩) hw hwd (by omega) (j9 false qs []).length 0 false false (by omega)
    have hany0:((j9 false qs []).drop 0).any (fun x=>eqR (lev w x).1 (qlo s))=true:=List.any_eq_true.2 ⟨x0,m0,by unfold eqR; rw [e0]; simp⟩
    have hany1:((j9 false qs []).drop 0).any (fun x=>eqR (lev w x).1 (qhi s))=true:=List.any_eq_true.2 ⟨x1,m1,by unfold eqR; rw [e1]; simp⟩
    rw [hany0,hany1] at i1
    have i1:∀ d43 fl,itO (qgv c (a1 % 8) (s,0) (⟨t.a,t.b⟩,0) d43 (qt ((j9 false qs []).map qt),fl)) (false,0,false,false)=_:=i1
    rw [i1,qd]
    have l1:f58 200 ⟨t.a,t.b⟩ ⟨s.a,s.b⟩=some false:=by
     have:=qgc ht1 hs1
     rw [show ya (qlo t) (qlo s)=false from by rw [u0]; exact (hk.2.2 _ (qce ho n0)).1] at this
     exact this
    have l2:f58 200 ⟨s.c,s.d⟩ ⟨t.a,t.b⟩=some false:=by
     have:=qgc hs2 ht1
     rw [show ya (qhi s) (qlo t)=false from by rw [u0]; exact (hk.2.2 _ (qce ho n0)).2] at this
     exact this
    have c1:1≤t.b:=ht1.c
    have c2:0≤t.a:=ht1.a
    have fin:=fun f0 f1=>jk8 (a1:=a1) (b0:=t.a) (b1:=t.b) (f0:=f0) (f1:=f1) z1 z2 z3 hp hw hzl hk hs1 hs2
    show qjy c a1 w 0 (true && (qs.drop 0).all fun q=>!k8 q.kd) (!true) s.a s.b s.c s.d t.a t.b true true=some true
    unfold qjy
    rw [Bool.not_true,cond_false]
    unfold qvm
    rw [show (!decide ((0:Int)=0))=false from rfl,cond_false,decide_eq_false (show ¬ t.b < 1 by omega),cond_false,decide_eq_false (show ¬ t.a < 0 by omega),cond_false,l1,qd,l2,qd,cond_false,fin]
    cases hpl:(true && (qs.drop 0).all fun q=>!k8 q.kd) with
    | false=>rfl
    | true=>
     rw [Bool.true_and,List.drop_zero,List.all_eq_true] at hpl
     have hcl:=quw hw ho (fun q hq=>by simpa using hpl q hq) hl hx hy
     have g1:t.a=s.a:=congrArg GRat.num hcl
     have g2:t.b=s.b:=congrArg GRat.den hcl
     rw [decide_eq_true g1,decide_eq_true g2]
     rfl
theorem jh8 {x:Int} (h:(Lit.int .u8 x).wf=true):0≤x∧x≤255:=by
 simp only [Lit.wf,Bool.and_eq_true,decide_eq_true_eq] at h
 have e1:IntKind.min .u8=0:=by decide
 have e2:IntKind.max .u8=255:=by decide
 omega
theorem I7 (x:yl) (a1:Int) (h:0≤a1∧a1≤255):qc prZ (X prZ) 7 [.agg [sl 8 qm x.parts,sl 1 qo x.choice,sl 5 jg x.bands],.int .u8 a1]=some (.bool true,false):=W7 (q9x x a1 h)
end Go.Z
