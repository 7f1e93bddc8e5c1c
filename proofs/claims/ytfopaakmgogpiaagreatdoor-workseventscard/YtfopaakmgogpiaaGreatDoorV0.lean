/- Chapter 10. -/
import Derived.Test.YtfopaakmgogpiaaGreatDoorCA
import Derived.Test.YtfopaakmgogpiaaGreatDoorG0
import Derived.Test.YtfopaakmgogpiaaGreatDoorAbsL
import Derived.Test.YtfopaakmgogpiaaGreatDoorW6
import Derived.Test.YtfopaakmgogpiaaGreatDoorW4
set_option linter.unusedVariables false
set_option linter.unusedSimpArgs false
set_option maxRecDepth 100000
namespace Go.Z
open Go Go.Abs Go.W
section
variable {p:jw} {xc:XC} {h0:Nat} {al:Option (List Nat)} {e:Env} {h:qf} {α:Type}
structure Enc (f:α→AVal) (sz:Nat):Prop where
 len:∀ x,(f x).flat.length=sz
 sc:∀ x,(f x).flat.all ql=true
 ag:∀ x,f x=.agg (f x).flat
 ref:∀ x,(f x).flat.any q50=true
 big:1 < sz
variable {f:α→AVal} {sz:Nat}
theorem jb3 (E:Enc f sz) (l:List α):(za f l).all ql=true:=by
 induction l with
 | nil=>rfl
 | cons x l ih=>rw [qbu,List.all_append,E.sc,ih]; rfl
theorem q4y (E:Enc f sz):∀ (l:List α),qbs sz l.length (za f l)=l.map f
 | []=>rfl
 | x::l=>by
  have hb:Nat.beq sz 1=false:=by
   have:=E.big
   cases h:Nat.beq sz 1 with
   | false=>rfl
   | true=>have:=Nat.eq_of_beq_eq_true h; omega
  have hl:=E.len x
  show (bif Nat.beq sz 1 then (za f (x::l)).headD .undef else .agg ((za f (x::l)).take sz))::qbs sz l.length ((za f (x::l)).drop sz)=_
  rw [hb,cond_false,qbu,List.take_append_of_le_length (by omega),List.drop_append_of_le_length (by omega),List.take_of_length_le (by omega),List.drop_eq_nil_of_le (by omega),List.nil_append,q4y E l,← E.ag]
  rfl
theorem qcv (E:Enc f sz) {l:List α} (hl:0 < l.length) {cs:List (AVal × Bool)} (hc:cs.map (·.1)=za f l):q6f (some cs) 0 l.length=some (.list false sz (l.map f)):=by
 have hcl:cs.length=l.length * sz:=by rw [← List.length_map (f:=(·.1)),hc,qeo E.len]
 have hdiv:cs.length / l.length=sz:=by rw [hcl]; exact Nat.mul_div_cancel_left _ hl
 have hany:cs.any (fun c=>q50 c.1)=true:=by
  cases l with
  | nil=>cases hl
  | cons x l=>
   have:(cs.map (·.1)).any q50=true:=by rw [hc,qbu,List.any_append,E.ref]; rfl
   rw [List.any_map] at this
   exact this
 have hr:qw8 0 l.length cs=true:=by
  have hb:Nat.blt 1 sz=true:=Nat.blt_eq.mpr E.big
  rw [qw8,hdiv,hb,hany,hcl,Nat.beq_refl,Nat.beq_refl]; rfl
 unfold q6f
 simp only [hr,cond_true,hdiv]
 rw [hc,q4y E]
theorem qgu {r n by_:Nat} {zero:List AVal} (hz:zero.length=sz) (hs:zero.all ql=true) (h1:0 < sz) (hn:n≤1073741824) (hb:by_≤4096) {h':qf} (hh:newBox h0 h r (.cells (cellsOf (List.replicate n zero).flatten))=some h'):
  qg6 h0 r sz by_ zero h (some (Iv (n:Int))) (some (Iv (n:Int)))=some ⟨.ms (h0 + r) 0 n,false,none,h'⟩:=by
 show (bif Nat.beq n n && Nat.ble n 1073741824 && Nat.ble by_ 4096 && Nat.beq zero.length sz && Nat.blt 0 sz && zero.all ql then _ else _)=_
 rw [Nat.beq_refl,Nat.ble_eq_true_of_le hn,Nat.ble_eq_true_of_le hb,hz,Nat.beq_refl,Nat.blt_eq.mpr h1,hs]
 simp only [Bool.and_self,cond_true,hh]
 rfl
theorem qek (E:Enc f sz) {b:Nat} {l:Option (List α)} {cs:List (AVal × Bool)} (hb:h[b]?=some (.cells cs)) (hc:cs.length=(l.getD []).length * sz) (hok:j9 h0 al b=true):
  qih h0 al sz h (some (.ms b 0 (l.getD []).length)) (some (sl sz f l))=some ⟨Lv l,false,none,h.set b (.cells (rcl f (l.getD [])))⟩:=by
 have hbc:ju h b=some cs:=by rw [q3s,hb]; rfl
 have hlt:=(List.getElem?_eq_some_iff.1 hb).1
 have hsrc:qg5 sz (l.getD []).length (sl sz f l)=some ((l.getD []).length,za f (l.getD [])):=by
  cases l with
  | none=>simp [sl,qg5,za]
  | some l=>
   show (bif Nat.beq sz sz || (l.map f).isEmpty then some (min (l.map f).length l.length,((l.map f).take l.length).flatMap AVal.flat) else none)=_
   rw [Nat.beq_refl,List.length_map,Nat.min_self,List.take_of_length_le (by rw [List.length_map]; exact Nat.le_refl _)]
   rfl
 have hfl:(za f (l.getD [])).length=(l.getD []).length * sz:=qeo E.len _
 have hst:jq cs 0 (za f (l.getD []))=some (rcl f (l.getD [])):=by
  unfold jq
  rw [jb3 E,hfl,hc,Nat.ble_eq_true_of_le (by omega)]
  simp only [Bool.and_self,cond_true,List.take_zero,List.nil_append]
  rw [List.drop_eq_nil_of_le (by rw [hc]; omega),List.append_nil]
  rfl
 have hset:jt h b (.cells (rcl f (l.getD [])))=some (h.set b (.cells (rcl f (l.getD [])))):=by
  simp only [jt,Nat.blt_eq.mpr hlt,cond_true]
 show (bif j9 h0 al b then (match ju h b with
   | some cs=>(match qg5 sz (l.getD []).length (sl sz f l) with
    | some (n,vs)=>(match jq cs 0 vs with
     | some cs'=>bif Nat.beq vs.length (n * sz) then (match jt h b (.cells cs') with
      | some h'=>val h' (Iv n)
      | none=>none) else none
     | none=>none)
    | none=>none)
   | none=>none) else none)=_
 rw [hok,hbc,hsrc]
 simp only [cond_true,hst,hfl,Nat.beq_refl,hset]
 rfl
theorem qcu {b n i:Nat} {k:IntKind} (hi:i < n):qbd sz h (some (.ms b 0 n)) (some (.int k (i:Int)))=some ⟨.ptr b (i * sz),false,none,h⟩:=by
 have:idx n (.int k (i:Int))=some i:=by rw [qfr]; exact qtd hi
 simp only [qbd,this,Nat.zero_add]
 rfl
end
end Go.Z
set_option maxHeartbeats 4000000
namespace Go.Z
open Go Go.Abs Go.W
theorem E_lot:Enc jg 5:=⟨fun _=>rfl,fun _=>rfl,fun _=>rfl,fun _=>rfl,by omega⟩
theorem E_si:Enc vsi 2:=⟨fun _=>rfl,fun _=>rfl,fun _=>rfl,fun _=>rfl,by omega⟩
theorem E_sii:Enc je 3:=⟨fun _=>rfl,fun _=>rfl,fun _=>rfl,fun _=>rfl,by omega⟩
theorem E_prod:Enc qz 4:=⟨fun _=>rfl,fun _=>by simp only [go_sem,seval,q76] <;> simp only [List.all,go_sem],fun _=>rfl,fun _=>rfl,by omega⟩
theorem E_un:Enc vun 8:=⟨fun _=>rfl,fun _=>by simp only [go_sem,seval,jfz] <;> simp only [List.all,go_sem],fun _=>rfl,fun _=>rfl,by omega⟩
theorem zaw {j:Nat} {caps:List AVal} {l:Option (List GProd)} {i:Nat} {cs:List (AVal × Bool)} (hlen:(l.getD []).length≤1073741824) (hi:i < (l.getD []).length) (hcl:qn pr (X pr) j (.ptr 0 (i * 4)::caps) [.cells (rcl qz (l.getD []))]=some (.tup [],false,[.cells cs])):qn pr (X pr) 178 [sl 4 qz l,Iv (i:Int),.fn (.func j) [] caps] []=some (.ms 0 0 ((l.getD []).length),false,[.cells cs]):=by
 rw [qk (show pr.fns 178=some c178 from rfl) (by simp)]
 have mkr:qg6 0 0 4 88 [(.str []),(Nl),(Nl),(Nl)] [.hole] (some (Lv l)) (some (Lv l))=some ⟨.ms 0 0 (l.getD []).length,false,none,[.cells (cellsOf (List.replicate (l.getD []).length [(.str []),(Nl),(Nl),(Nl)]).flatten)]⟩:=by jh qgu <;> first | exact hlen | rfl | decide
 have cpy:qih 1 none 4 [.cells (cellsOf (List.replicate (l.getD []).length [(.str []),(Nl),(Nl),(Nl)]).flatten)] (some (.ms 0 0 (l.getD []).length)) (some (sl 4 qz l))=some ⟨Lv l,false,none,[.cells (rcl qz (l.getD []))]⟩:=qek E_prod rfl (by simp [cellsOf]) rfl
 simp only [go_sem,seval,c178,mkr,cpy,qcu hi,hcl] <;> rfl
theorem jzf{y:GProd} {j:Nat} {caps:List AVal} {l:Option (List GProd)} {i:Nat} {cs:List (AVal × Bool)} (hlen:(l.getD []).length≤1073741824) (hi:i < (l.getD []).length) (hcl:qn pr (X pr) j (.ptr 0 (i * 4)::caps) [.cells (rcl qz (l.getD []))]=some (.tup [],false,[.cells cs])) (hcs:cs.map (·.1)=za qz ((l.getD []).set i y)):qc pr (X pr) 178 [sl 4 qz l,Iv (i:Int),.fn (.func j) [] caps]=some (sl 4 qz (some ((l.getD []).set i y)),false):=by
 have hl:((l.getD []).set i y).length=(l.getD []).length:=List.length_set
 have hz:freezeR [.cells cs] (.ms 0 0 ((l.getD []).length))=some (sl 4 qz (some ((l.getD []).set i y))):=by
  rw [qix,← hl]
  exact qcv E_prod (by rw [hl]; omega) hcs
 exact zu rfl (zaw hlen hi hcl) hz (by first | rfl | simp only [go_sem,seval])
theorem zcu {j:Nat} {caps:List AVal} {l:Option (List qt)} {i:Nat} {cs:List (AVal × Bool)} (hlen:(l.getD []).length≤1073741824) (hi:i < (l.getD []).length) (hcl:qn pr (X pr) j (.ptr 0 (i * 5)::caps) [.cells (rcl jg (l.getD []))]=some (.tup [],false,[.cells cs])):qn pr (X pr) 185 [sl 5 jg l,Iv (i:Int),.fn (.func j) [] caps] []=some (.ms 0 0 ((l.getD []).length),false,[.cells cs]):=by
 rw [qk (show pr.fns 185=some c185 from rfl) (by simp)]
 have mkr:qg6 0 0 5 56 [(.str []),(.str []),(Iv 0),(Iv 0),(.bool false)] [.hole] (some (Lv l)) (some (Lv l))=some ⟨.ms 0 0 (l.getD []).length,false,none,[.cells (cellsOf (List.replicate (l.getD []).length [(.str []),(.str []),(Iv 0),(Iv 0),(.bool false)]).flatten)]⟩:=by jh qgu <;> first | exact hlen | rfl | decide
 have cpy:qih 1 none 5 [.cells (cellsOf (List.replicate (l.getD []).length [(.str []),(.str []),(Iv 0),(Iv 0),(.bool false)]).flatten)] (some (.ms 0 0 (l.getD []).length)) (some (sl 5 jg l))=some ⟨Lv l,false,none,[.cells (rcl jg (l.getD []))]⟩:=qek E_lot rfl (by simp [cellsOf]) rfl
 simp only [go_sem,seval,c185,mkr,cpy,qcu hi,hcl] <;> rfl
theorem j1v{y:qt} {j:Nat} {caps:List AVal} {l:Option (List qt)} {i:Nat} {cs:List (AVal × Bool)} (hlen:(l.getD []).length≤1073741824) (hi:i < (l.getD []).length) (hcl:qn pr (X pr) j (.ptr 0 (i * 5)::caps) [.cells (rcl jg (l.getD []))]=some (.tup [],false,[.cells cs])) (hcs:cs.map (·.1)=za jg ((l.getD []).set i y)):qc pr (X pr) 185 [sl 5 jg l,Iv (i:Int),.fn (.func j) [] caps]=some (sl 5 jg (some ((l.getD []).set i y)),false):=by
 have hl:((l.getD []).set i y).length=(l.getD []).length:=List.length_set
 have hz:freezeR [.cells cs] (.ms 0 0 ((l.getD []).length))=some (sl 5 jg (some ((l.getD []).set i y))):=by
  rw [qix,← hl]
  exact qcv E_lot (by rw [hl]; omega) hcs
 exact zu rfl (zcu hlen hi hcl) hz (by first | rfl | simp only [go_sem,seval])
theorem zcj {j:Nat} {caps:List AVal} {l:Option (List GUn)} {i:Nat} {cs:List (AVal × Bool)} (hlen:(l.getD []).length≤1073741824) (hi:i < (l.getD []).length) (hcl:qn pr (X pr) j (.ptr 0 (i * 8)::caps) [.cells (rcl vun (l.getD []))]=some (.tup [],false,[.cells cs])):qn pr (X pr) 189 [sl 8 vun l,Iv (i:Int),.fn (.func j) [] caps] []=some (.ms 0 0 ((l.getD []).length),false,[.cells cs]):=by
 rw [qk (show pr.fns 189=some c189 from rfl) (by simp)]
 have mkr:qg6 0 0 8 120 [(.str []),(.str []),(Iv 0),(Nl),(Nl),(.str []),(.bool false),(Iv 0)] [.hole] (some (Lv l)) (some (Lv l))=some ⟨.ms 0 0 (l.getD []).length,false,none,[.cells (cellsOf (List.replicate (l.getD []).length [(.str []),(.str []),(Iv 0),(Nl),(Nl),(.str []),(.bool false),(Iv 0)]).flatten)]⟩:=by jh qgu <;> first | exact hlen | rfl | decide
 have cpy:qih 1 none 8 [.cells (cellsOf (List.replicate (l.getD []).length [(.str []),(.str []),(Iv 0),(Nl),(Nl),(.str []),(.bool false),(Iv 0)]).flatten)] (some (.ms 0 0 (l.getD []).length)) (some (sl 8 vun l))=some ⟨Lv l,false,none,[.cells (rcl vun (l.getD []))]⟩:=qek E_un rfl (by simp [cellsOf]) rfl
 simp only [go_sem,seval,c189,mkr,cpy,qcu hi,hcl] <;> rfl
theorem j09{y:GUn} {j:Nat} {caps:List AVal} {l:Option (List GUn)} {i:Nat} {cs:List (AVal × Bool)} (hlen:(l.getD []).length≤1073741824) (hi:i < (l.getD []).length) (hcl:qn pr (X pr) j (.ptr 0 (i * 8)::caps) [.cells (rcl vun (l.getD []))]=some (.tup [],false,[.cells cs])) (hcs:cs.map (·.1)=za vun ((l.getD []).set i y)):qc pr (X pr) 189 [sl 8 vun l,Iv (i:Int),.fn (.func j) [] caps]=some (sl 8 vun (some ((l.getD []).set i y)),false):=by
 have hl:((l.getD []).set i y).length=(l.getD []).length:=List.length_set
 have hz:freezeR [.cells cs] (.ms 0 0 ((l.getD []).length))=some (sl 8 vun (some ((l.getD []).set i y))):=by
  rw [qix,← hl]
  exact qcv E_un (by rw [hl]; omega) hcs
 exact zu rfl (zcj hlen hi hcl) hz (by first | rfl | simp only [go_sem,seval])
theorem jh5 {b0 b1 b2 b3 b4:ABox} {j:Nat} {caps:List AVal} {l:Option (List GUn)} {i:Nat} {cs:List (AVal × Bool)} (hlen:(l.getD []).length≤1073741824) (hi:i < (l.getD []).length) (hcl:qn pr (X pr) j (.ptr 5 (i * 8)::caps) [b0,b1,b2,b3,b4,.cells (rcl vun (l.getD []))]=some (.tup [],false,[b0,b1,b2,b3,b4,.cells cs])):qn pr (X pr) 189 [sl 8 vun l,Iv (i:Int),.fn (.func j) [] caps] [b0,b1,b2,b3,b4]=some (.ms 5 0 ((l.getD []).length),false,[b0,b1,b2,b3,b4,.cells cs]):=by
 rw [qk (show pr.fns 189=some c189 from rfl) (by simp)]
 have mkr:qg6 5 0 8 120 [(.str []),(.str []),(Iv 0),(Nl),(Nl),(.str []),(.bool false),(Iv 0)] [b0,b1,b2,b3,b4,.hole] (some (Lv l)) (some (Lv l))=some ⟨.ms 5 0 (l.getD []).length,false,none,[b0,b1,b2,b3,b4,.cells (cellsOf (List.replicate (l.getD []).length [(.str []),(.str []),(Iv 0),(Nl),(Nl),(.str []),(.bool false),(Iv 0)]).flatten)]⟩:=by jh qgu <;> first | exact hlen | rfl | decide
 have cpy:qih 6 none 8 [b0,b1,b2,b3,b4,.cells (cellsOf (List.replicate (l.getD []).length [(.str []),(.str []),(Iv 0),(Nl),(Nl),(.str []),(.bool false),(Iv 0)]).flatten)] (some (.ms 5 0 (l.getD []).length)) (some (sl 8 vun l))=some ⟨Lv l,false,none,[b0,b1,b2,b3,b4,.cells (rcl vun (l.getD []))]⟩:=qek E_un rfl (by simp [cellsOf]) rfl
 simp only [go_sem,seval,c189,mkr,cpy,qcu hi,hcl] <;> rfl
theorem j8n {j:Nat} {caps:List AVal} {l:Option (List GSI)} {i:Nat} {cs:List (AVal × Bool)} (hlen:(l.getD []).length≤1073741824) (hi:i < (l.getD []).length) (hcl:qn pr (X pr) j (.ptr 0 (i * 2)::caps) [.cells (rcl vsi (l.getD []))]=some (.tup [],false,[.cells cs])):qn pr (X pr) 237 [sl 2 vsi l,Iv (i:Int),.fn (.func j) [] caps] []=some (.ms 0 0 ((l.getD []).length),false,[.cells cs]):=by
 rw [qk (show pr.fns 237=some c237 from rfl) (by simp)]
 have mkr:qg6 0 0 2 24 [(.str []),(Iv 0)] [.hole] (some (Lv l)) (some (Lv l))=some ⟨.ms 0 0 (l.getD []).length,false,none,[.cells (cellsOf (List.replicate (l.getD []).length [(.str []),(Iv 0)]).flatten)]⟩:=by jh qgu <;> first | exact hlen | rfl | decide
 have cpy:qih 1 none 2 [.cells (cellsOf (List.replicate (l.getD []).length [(.str []),(Iv 0)]).flatten)] (some (.ms 0 0 (l.getD []).length)) (some (sl 2 vsi l))=some ⟨Lv l,false,none,[.cells (rcl vsi (l.getD []))]⟩:=qek E_si rfl (by simp [cellsOf]) rfl
 simp only [go_sem,seval,c237,mkr,cpy,qcu hi,hcl] <;> rfl
theorem jv6{y:GSI} {j:Nat} {caps:List AVal} {l:Option (List GSI)} {i:Nat} {cs:List (AVal × Bool)} (hlen:(l.getD []).length≤1073741824) (hi:i < (l.getD []).length) (hcl:qn pr (X pr) j (.ptr 0 (i * 2)::caps) [.cells (rcl vsi (l.getD []))]=some (.tup [],false,[.cells cs])) (hcs:cs.map (·.1)=za vsi ((l.getD []).set i y)):qc pr (X pr) 237 [sl 2 vsi l,Iv (i:Int),.fn (.func j) [] caps]=some (sl 2 vsi (some ((l.getD []).set i y)),false):=by
 have hl:((l.getD []).set i y).length=(l.getD []).length:=List.length_set
 have hz:freezeR [.cells cs] (.ms 0 0 ((l.getD []).length))=some (sl 2 vsi (some ((l.getD []).set i y))):=by
  rw [qix,← hl]
  exact qcv E_si (by rw [hl]; omega) hcs
 exact zu rfl (j8n hlen hi hcl) hz (by first | rfl | simp only [go_sem,seval])
theorem za0 {j:Nat} {caps:List AVal} {l:Option (List qu)} {i:Nat} {cs:List (AVal × Bool)} (hlen:(l.getD []).length≤1073741824) (hi:i < (l.getD []).length) (hcl:qn pr (X pr) j (.ptr 0 (i * 3)::caps) [.cells (rcl je (l.getD []))]=some (.tup [],false,[.cells cs])):qn pr (X pr) 241 [sl 3 je l,Iv (i:Int),.fn (.func j) [] caps] []=some (.ms 0 0 ((l.getD []).length),false,[.cells cs]):=by
 rw [qk (show pr.fns 241=some c241 from rfl) (by simp)]
 have mkr:qg6 0 0 3 32 [(.str []),(Iv 0),(Iv 0)] [.hole] (some (Lv l)) (some (Lv l))=some ⟨.ms 0 0 (l.getD []).length,false,none,[.cells (cellsOf (List.replicate (l.getD []).length [(.str []),(Iv 0),(Iv 0)]).flatten)]⟩:=by jh qgu <;> first | exact hlen | rfl | decide
 have cpy:qih 1 none 3 [.cells (cellsOf (List.replicate (l.getD []).length [(.str []),(Iv 0),(Iv 0)]).flatten)] (some (.ms 0 0 (l.getD []).length)) (some (sl 3 je l))=some ⟨Lv l,false,none,[.cells (rcl je (l.getD []))]⟩:=qek E_sii rfl (by simp [cellsOf]) rfl
 simp only [go_sem,seval,c241,mkr,cpy,qcu hi,hcl] <;> rfl
theorem jyl{y:qu} {j:Nat} {caps:List AVal} {l:Option (List qu)} {i:Nat} {cs:List (AVal × Bool)} (hlen:(l.getD []).length≤1073741824) (hi:i < (l.getD []).length) (hcl:qn pr (X pr) j (.ptr 0 (i * 3)::caps) [.cells (rcl je (l.getD []))]=some (.tup [],false,[.cells cs])) (hcs:cs.map (·.1)=za je ((l.getD []).set i y)):qc pr (X pr) 241 [sl 3 je l,Iv (i:Int),.fn (.func j) [] caps]=some (sl 3 je (some ((l.getD []).set i y)),false):=by
 have hl:((l.getD []).set i y).length=(l.getD []).length:=List.length_set
 have hz:freezeR [.cells cs] (.ms 0 0 ((l.getD []).length))=some (sl 3 je (some ((l.getD []).set i y))):=by
  rw [qix,← hl]
  exact qcv E_sii (by rw [hl]; omega) hcs
 exact zu rfl (za0 hlen hi hcl) hz (by first | rfl | simp only [go_sem,seval])
theorem zcl {j:Nat} {caps:List AVal} {l:Option (List GSI)} {i:Nat} {cs:List (AVal × Bool)} (hlen:(l.getD []).length≤1073741824) (hi:i < (l.getD []).length) (hcl:qn pr (X pr) j (.ptr 0 (i * 2)::caps) [.cells (rcl vsi (l.getD []))]=some (.tup [],false,[.cells cs])):qn pr (X pr) 248 [sl 2 vsi l,Iv (i:Int),.fn (.func j) [] caps] []=some (.ms 0 0 ((l.getD []).length),false,[.cells cs]):=by
 rw [qk (show pr.fns 248=some c248 from rfl) (by simp)]
 have mkr:qg6 0 0 2 24 [(.str []),(Iv 0)] [.hole] (some (Lv l)) (some (Lv l))=some ⟨.ms 0 0 (l.getD []).length,false,none,[.cells (cellsOf (List.replicate (l.getD []).length [(.str []),(Iv 0)]).flatten)]⟩:=by jh qgu <;> first | exact hlen | rfl | decide
 have cpy:qih 1 none 2 [.cells (cellsOf (List.replicate (l.getD []).length [(.str []),(Iv 0)]).flatten)] (some (.ms 0 0 (l.getD []).length)) (some (sl 2 vsi l))=some ⟨Lv l,false,none,[.cells (rcl vsi (l.getD []))]⟩:=qek E_si rfl (by simp [cellsOf]) rfl
 simp only [go_sem,seval,c248,mkr,cpy,qcu hi,hcl] <;> rfl
theorem j05{y:GSI} {j:Nat} {caps:List AVal} {l:Option (List GSI)} {i:Nat} {cs:List (AVal × Bool)} (hlen:(l.getD []).length≤1073741824) (hi:i < (l.getD []).length) (hcl:qn pr (X pr) j (.ptr 0 (i * 2)::caps) [.cells (rcl vsi (l.getD []))]=some (.tup [],false,[.cells cs])) (hcs:cs.map (·.1)=za vsi ((l.getD []).set i y)):qc pr (X pr) 248 [sl 2 vsi l,Iv (i:Int),.fn (.func j) [] caps]=some (sl 2 vsi (some ((l.getD []).set i y)),false):=by
 have hl:((l.getD []).set i y).length=(l.getD []).length:=List.length_set
 have hz:freezeR [.cells cs] (.ms 0 0 ((l.getD []).length))=some (sl 2 vsi (some ((l.getD []).set i y))):=by
  rw [qix,← hl]
  exact qcv E_si (by rw [hl]; omega) hcs
 exact zu rfl (zcl hlen hi hcl) hz (by first | rfl | simp only [go_sem,seval])
end Go.Z
namespace Go.Z
open Go Go.Abs Go.W
def chO {α:Type} (l:Option (List α)) (i:Int) (g:α→Option α):Option (Option (List α)):=
 if (l.getD []).length≤1073741824∧0≤i then (match (l.getD [])[i.toNat]? with
  | some x=>(match g x with
   | some y=>some (some ((l.getD []).set i.toNat y))
   | none=>none)
  | none=>none) else none
theorem qeq {α:Type} {l:Option (List α)} {i:Int} {g:α→Option α} {r} (h:chO l i g=some r):∃ (n:Nat) (x y:α),i=(n:Int)∧(l.getD []).length≤1073741824∧(l.getD [])[n]?=some x∧g x=some y∧r=some ((l.getD []).set n y):=by
 unfold chO at h
 split at h
 ·rename_i hc
  split at h
  ·rename_i x hx
   split at h
   ·rename_i y hy
    cases h
    exact ⟨i.toNat,x,y,(Int.toNat_of_nonneg hc.2).symm,hc.1,hx,hy,rfl⟩
   ·cases h
  ·cases h
 ·cases h
theorem q8p {l r:Option (List GProd)} {i:Int} {g:GProd→Option GProd} {j:Nat} {caps:List AVal} (hcl:∀ (n:Nat) (x y:GProd),(l.getD [])[n]?=some x→g x=some y→∃ cs,qn pr (X pr) j (.ptr 0 (n * 4)::caps) [.cells (rcl qz (l.getD []))]=some (.tup [],false,[.cells cs])∧cs.map (·.1)=za qz ((l.getD []).set n y)) (h:chO l i g=some r):qc pr (X pr) 178 [sl 4 qz l,Iv i,.fn (.func j) [] caps]=some (sl 4 qz r,false):=by
 obtain ⟨n,x,y,rfl,hl,hx,hy,rfl⟩:=qeq h
 obtain ⟨cs,h1,h2⟩:=hcl n x y hx hy
 exact jzf hl (List.getElem?_eq_some_iff.1 hx).1 h1 h2
theorem q73 {l r:Option (List qt)} {i:Int} {g:qt→Option qt} {j:Nat} {caps:List AVal} (hcl:∀ (n:Nat) (x y:qt),(l.getD [])[n]?=some x→g x=some y→∃ cs,qn pr (X pr) j (.ptr 0 (n * 5)::caps) [.cells (rcl jg (l.getD []))]=some (.tup [],false,[.cells cs])∧cs.map (·.1)=za jg ((l.getD []).set n y)) (h:chO l i g=some r):qc pr (X pr) 185 [sl 5 jg l,Iv i,.fn (.func j) [] caps]=some (sl 5 jg r,false):=by
 obtain ⟨n,x,y,rfl,hl,hx,hy,rfl⟩:=qeq h
 obtain ⟨cs,h1,h2⟩:=hcl n x y hx hy
 exact j1v hl (List.getElem?_eq_some_iff.1 hx).1 h1 h2
theorem qrz {l r:Option (List GUn)} {i:Int} {g:GUn→Option GUn} {j:Nat} {caps:List AVal} (hcl:∀ (n:Nat) (x y:GUn),(l.getD [])[n]?=some x→g x=some y→∃ cs,qn pr (X pr) j (.ptr 0 (n * 8)::caps) [.cells (rcl vun (l.getD []))]=some (.tup [],false,[.cells cs])∧cs.map (·.1)=za vun ((l.getD []).set n y)) (h:chO l i g=some r):qc pr (X pr) 189 [sl 8 vun l,Iv i,.fn (.func j) [] caps]=some (sl 8 vun r,false):=by
 obtain ⟨n,x,y,rfl,hl,hx,hy,rfl⟩:=qeq h
 obtain ⟨cs,h1,h2⟩:=hcl n x y hx hy
 exact j09 hl (List.getElem?_eq_some_iff.1 hx).1 h1 h2
theorem j1p {l r:Option (List GSI)} {i:Int} {g:GSI→Option GSI} {j:Nat} {caps:List AVal} (hcl:∀ (n:Nat) (x y:GSI),(l.getD [])[n]?=some x→g x=some y→∃ cs,qn pr (X pr) j (.ptr 0 (n * 2)::caps) [.cells (rcl vsi (l.getD []))]=some (.tup [],false,[.cells cs])∧cs.map (·.1)=za vsi ((l.getD []).set n y)) (h:chO l i g=some r):qc pr (X pr) 237 [sl 2 vsi l,Iv i,.fn (.func j) [] caps]=some (sl 2 vsi r,false):=by
 obtain ⟨n,x,y,rfl,hl,hx,hy,rfl⟩:=qeq h
 obtain ⟨cs,h1,h2⟩:=hcl n x y hx hy
 exact jv6 hl (List.getElem?_eq_some_iff.1 hx).1 h1 h2
theorem jv7 {l r:Option (List qu)} {i:Int} {g:qu→Option qu} {j:Nat} {caps:List AVal} (hcl:∀ (n:Nat) (x y:qu),(l.getD [])[n]?=some x→g x=some y→∃ cs,qn pr (X pr) j (.ptr 0 (n * 3)::caps) [.cells (rcl je (l.getD []))]=some (.tup [],false,[.cells cs])∧cs.map (·.1)=za je ((l.getD []).set n y)) (h:chO l i g=some r):qc pr (X pr) 241 [sl 3 je l,Iv i,.fn (.func j) [] caps]=some (sl 3 je r,false):=by
 obtain ⟨n,x,y,rfl,hl,hx,hy,rfl⟩:=qeq h
 obtain ⟨cs,h1,h2⟩:=hcl n x y hx hy
 exact jyl hl (List.getElem?_eq_some_iff.1 hx).1 h1 h2
theorem jw6 {l r:Option (List GSI)} {i:Int} {g:GSI→Option GSI} {j:Nat} {caps:List AVal} (hcl:∀ (n:Nat) (x y:GSI),(l.getD [])[n]?=some x→g x=some y→∃ cs,qn pr (X pr) j (.ptr 0 (n * 2)::caps) [.cells (rcl vsi (l.getD []))]=some (.tup [],false,[.cells cs])∧cs.map (·.1)=za vsi ((l.getD []).set n y)) (h:chO l i g=some r):qc pr (X pr) 248 [sl 2 vsi l,Iv i,.fn (.func j) [] caps]=some (sl 2 vsi r,false):=by
 obtain ⟨n,x,y,rfl,hl,hx,hy,rfl⟩:=qeq h
 obtain ⟨cs,h1,h2⟩:=hcl n x y hx hy
 exact j05 hl (List.getElem?_eq_some_iff.1 hx).1 h1 h2
theorem zf9 {l:List qt} {i:Nat} {x:qt} (hx:l[i]?=some x):qn pr (X pr) 198 [.ptr 0 (i * 5)] [.cells (rcl jg l)]=some (.tup [],false,[.cells (rcl jg (l.set i { x with held:=true }))]):=by
 rw [qk (show pr.fns 198=some c198 from rfl) (by simp)]
 have st:jq (rcl jg l) (i * 5 + 4) [.bool true]=some (rcl jg (l.set i { x with held:=true })):=qbr (o:=4) E_lot.len hx (Nat.le_of_ble_eq_true rfl) rfl rfl
 simp only [go_sem,seval,c198,st] <;> rfl
def jeu (l:Option (List qt)) (i:Int):Option (Option (List qt)):=chO l i fun x=>some { x with held:=true }
theorem jgz {l:Option (List qt)} {i:Int} {r} (h:jeu l i=some r):qc pr (X pr) 185 [sl 5 jg l,Iv i,.fn (.func 198) [] []]=some (sl 5 jg r,false):=
 q73 (fun n x y hx hy=>by cases hy; exact ⟨_,zf9 hx,zy⟩) h
theorem zd2 {l:List qt} {i:Nat} {x:qt} (hx:l[i]?=some x):qn pr (X pr) 199 [.ptr 0 (i * 5)] [.cells (rcl jg l)]=some (.tup [],false,[.cells (rcl jg (l.set i { x with held:=false }))]):=by
 rw [qk (show pr.fns 199=some c199 from rfl) (by simp)]
 have st:jq (rcl jg l) (i * 5 + 4) [.bool false]=some (rcl jg (l.set i { x with held:=false })):=qbr (o:=4) E_lot.len hx (Nat.le_of_ble_eq_true rfl) rfl rfl
 simp only [go_sem,seval,c199,st] <;> rfl
def jhv (l:Option (List qt)) (i:Int):Option (Option (List qt)):=chO l i fun x=>some { x with held:=false }
theorem jhu {l:Option (List qt)} {i:Int} {r} (h:jhv l i=some r):qc pr (X pr) 185 [sl 5 jg l,Iv i,.fn (.func 199) [] []]=some (sl 5 jg r,false):=
 q73 (fun n x y hx hy=>by cases hy; exact ⟨_,zd2 hx,zy⟩) h
theorem za3 {l:List GUn} {i:Nat} {x:GUn} (hx:l[i]?=some x):qn pr (X pr) 200 [.ptr 0 (i * 8)] [.cells (rcl vun l)]=some (.tup [],false,[.cells (rcl vun (l.set i { x with shipped:=true }))]):=by
 rw [qk (show pr.fns 200=some c200 from rfl) (by simp)]
 have st:jq (rcl vun l) (i * 8 + 6) [.bool true]=some (rcl vun (l.set i { x with shipped:=true })):=qbr (o:=6) E_un.len hx (Nat.le_of_ble_eq_true rfl) rfl rfl
 simp only [go_sem,seval,c200,st] <;> rfl
def jen (l:Option (List GUn)) (i:Int):Option (Option (List GUn)):=chO l i fun x=>some { x with shipped:=true }
theorem jca {l:Option (List GUn)} {i:Int} {r} (h:jen l i=some r):qc pr (X pr) 189 [sl 8 vun l,Iv i,.fn (.func 200) [] []]=some (sl 8 vun r,false):=
 qrz (fun n x y hx hy=>by cases hy; exact ⟨_,za3 hx,zy⟩) h
theorem zfq {l:List GUn} {i:Nat} {x:GUn} (hx:l[i]?=some x):qn pr (X pr) 201 [.ptr 0 (i * 8)] [.cells (rcl vun l)]=some (.tup [],false,[.cells (rcl vun (l.set i { x with complaints:=qe .i64 (x.complaints + 1) }))]):=by
 rw [qk (show pr.fns 201=some c201 from rfl) (by simp)]
 have st:jq (rcl vun l) (i * 8 + 7) [Iv (qe .i64 (x.complaints + 1))]=some (rcl vun (l.set i { x with complaints:=qe .i64 (x.complaints + 1) })):=qbr (o:=7) E_un.len hx (Nat.le_of_ble_eq_true rfl) rfl rfl
 have ld0:zh (rcl vun l) (i * 8 + 7) 1=some [Iv x.complaints]:=qe4 (o:=7) E_un.len hx (by decide)
 simp only [go_sem,seval,c201,st,ld0] <;> rfl
def jcy (l:Option (List GUn)) (i:Int):Option (Option (List GUn)):=chO l i fun x=>some { x with complaints:=qe .i64 (x.complaints + 1) }
theorem jea {l:Option (List GUn)} {i:Int} {r} (h:jcy l i=some r):qc pr (X pr) 189 [sl 8 vun l,Iv i,.fn (.func 201) [] []]=some (sl 8 vun r,false):=
 qrz (fun n x y hx hy=>by cases hy; exact ⟨_,zfq hx,zy⟩) h
theorem j8u {l:List GUn} {i:Nat} {x:GUn} {v:Int} (hx:l[i]?=some x):qn pr (X pr) 195 [.ptr 0 (i * 8),.vptr (Iv v)] [.cells (rcl vun l)]=some (.tup [],false,[.cells (rcl vun (l.set i { x with version:=v }))]):=by
 rw [qk (show pr.fns 195=some c195 from rfl) (by simp)]
 have st:jq (rcl vun l) (i * 8 + 2) [Iv v]=some (rcl vun (l.set i { x with version:=v })):=qbr (o:=2) E_un.len hx (Nat.le_of_ble_eq_true rfl) rfl rfl
 simp only [go_sem,seval,c195,st] <;> rfl
def jdi (l:Option (List GUn)) (i:Int) (v:Int):Option (Option (List GUn)):=chO l i fun x=>some { x with version:=v }
theorem jf1 {l:Option (List GUn)} {i:Int} {v:Int} {r} (h:jdi l i v=some r):qc pr (X pr) 189 [sl 8 vun l,Iv i,.fn (.func 195) [] [.vptr (Iv v)]]=some (sl 8 vun r,false):=
 qrz (fun n x y hx hy=>by cases hy; exact ⟨_,j8u hx,zy⟩) h
theorem zb4 {l:List GUn} {i:Nat} {x:GUn} {b:GUn} (hx:l[i]?=some x):qn pr (X pr) 196 [.ptr 0 (i * 8),.vptr (vun b)] [.cells (rcl vun l)]=some (.tup [],false,[.cells (rcl vun (l.set i { x with partner:=b.name }))]):=by
 rw [qk (show pr.fns 196=some c196 from rfl) (by simp)]
 have st:jq (rcl vun l) (i * 8 + 5) [.str b.name]=some (rcl vun (l.set i { x with partner:=b.name })):=qbr (o:=5) E_un.len hx (Nat.le_of_ble_eq_true rfl) rfl rfl
 simp only [go_sem,seval,c196,st,vun] <;> rfl
def qla (l:Option (List GUn)) (i:Int) (b:GUn):Option (Option (List GUn)):=chO l i fun x=>some { x with partner:=b.name }
theorem jgt {l:Option (List GUn)} {i:Int} {b:GUn} {r} (h:qla l i b=some r):qc pr (X pr) 189 [sl 8 vun l,Iv i,.fn (.func 196) [] [.vptr (vun b)]]=some (sl 8 vun r,false):=
 qrz (fun n x y hx hy=>by cases hy; exact ⟨_,zb4 hx,zy⟩) h
theorem zem {l:List GUn} {i:Nat} {x:GUn} {b:GUn} (hx:l[i]?=some x):qn pr (X pr) 197 [.ptr 0 (i * 8),.vptr (vun b)] [.cells (rcl vun l)]=some (.tup [],false,[.cells (rcl vun (l.set i { x with partner:=b.name }))]):=by
 rw [qk (show pr.fns 197=some c197 from rfl) (by simp)]
 have st:jq (rcl vun l) (i * 8 + 5) [.str b.name]=some (rcl vun (l.set i { x with partner:=b.name })):=qbr (o:=5) E_un.len hx (Nat.le_of_ble_eq_true rfl) rfl rfl
 simp only [go_sem,seval,c197,st,vun] <;> rfl
def qk9 (l:Option (List GUn)) (i:Int) (b:GUn):Option (Option (List GUn)):=chO l i fun x=>some { x with partner:=b.name }
theorem jd0 {l:Option (List GUn)} {i:Int} {b:GUn} {r} (h:qk9 l i b=some r):qc pr (X pr) 189 [sl 8 vun l,Iv i,.fn (.func 197) [] [.vptr (vun b)]]=some (sl 8 vun r,false):=
 qrz (fun n x y hx hy=>by cases hy; exact ⟨_,zem hx,zy⟩) h
theorem zdk {l:List qt} {i:Nat} {x:qt} {v:Int} (hx:l[i]?=some x):qn pr (X pr) 186 [.ptr 0 (i * 5),.vptr (Iv v)] [.cells (rcl jg l)]=some (.tup [],false,[.cells (rcl jg (l.set i { x with left:=qe .i64 (x.left - v) }))]):=by
 rw [qk (show pr.fns 186=some c186 from rfl) (by simp)]
 have st:jq (rcl jg l) (i * 5 + 3) [Iv (qe .i64 (x.left - v))]=some (rcl jg (l.set i { x with left:=qe .i64 (x.left - v) })):=qbr (o:=3) E_lot.len hx (Nat.le_of_ble_eq_true rfl) rfl rfl
 have ld0:zh (rcl jg l) (i * 5 + 3) 1=some [Iv x.left]:=qe4 (o:=3) E_lot.len hx (by decide)
 simp only [go_sem,seval,c186,st,ld0] <;> rfl
def jcv (l:Option (List qt)) (i:Int) (v:Int):Option (Option (List qt)):=chO l i fun x=>some { x with left:=qe .i64 (x.left - v) }
theorem jhk {l:Option (List qt)} {i:Int} {v:Int} {r} (h:jcv l i v=some r):qc pr (X pr) 185 [sl 5 jg l,Iv i,.fn (.func 186) [] [.vptr (Iv v)]]=some (sl 5 jg r,false):=
 q73 (fun n x y hx hy=>by cases hy; exact ⟨_,zdk hx,zy⟩) h
theorem j8i {l:List GSI} {i:Nat} {x:GSI} {b:GSI} (hx:l[i]?=some x):qn pr (X pr) 238 [.ptr 0 (i * 2),.vptr (vsi b)] [.cells (rcl vsi l)]=some (.tup [],false,[.cells (rcl vsi (l.set i b))]):=by
 rw [qk (show pr.fns 238=some c238 from rfl) (by simp)]
 have st:jq (rcl vsi l) (i * 2) [.str b.k,Iv b.n]=some (rcl vsi (l.set i b)):=qbr (o:=0) E_si.len hx (Nat.le_of_ble_eq_true rfl) rfl rfl
 simp only [go_sem,seval,c238,st,vsi] <;> rfl
def jo0 (l:Option (List GSI)) (i:Int) (b:GSI):Option (Option (List GSI)):=chO l i fun x=>some b
theorem jhb {l:Option (List GSI)} {i:Int} {b:GSI} {r} (h:jo0 l i b=some r):qc pr (X pr) 237 [sl 2 vsi l,Iv i,.fn (.func 238) [] [.vptr (vsi b)]]=some (sl 2 vsi r,false):=
 j1p (fun n x y hx hy=>by cases hy; exact ⟨_,j8i hx,zy⟩) h
theorem zbw {l:List qu} {i:Nat} {x:qu} {b:qu} (hx:l[i]?=some x):qn pr (X pr) 242 [.ptr 0 (i * 3),.vptr (je b)] [.cells (rcl je l)]=some (.tup [],false,[.cells (rcl je (l.set i b))]):=by
 rw [qk (show pr.fns 242=some c242 from rfl) (by simp)]
 have st:jq (rcl je l) (i * 3) [.str b.k,Iv b.a,Iv b.b]=some (rcl je (l.set i b)):=qbr (o:=0) E_sii.len hx (Nat.le_of_ble_eq_true rfl) rfl rfl
 simp only [go_sem,seval,c242,st,je] <;> rfl
def joc (l:Option (List qu)) (i:Int) (b:qu):Option (Option (List qu)):=chO l i fun x=>some b
theorem jdg {l:Option (List qu)} {i:Int} {b:qu} {r} (h:joc l i b=some r):qc pr (X pr) 241 [sl 3 je l,Iv i,.fn (.func 242) [] [.vptr (je b)]]=some (sl 3 je r,false):=
 jv7 (fun n x y hx hy=>by cases hy; exact ⟨_,zbw hx,zy⟩) h
theorem j8e {l:List GSI} {i:Nat} {x:GSI} {b:GSI} (hx:l[i]?=some x):qn pr (X pr) 249 [.ptr 0 (i * 2),.vptr (vsi b)] [.cells (rcl vsi l)]=some (.tup [],false,[.cells (rcl vsi (l.set i b))]):=by
 rw [qk (show pr.fns 249=some c249 from rfl) (by simp)]
 have st:jq (rcl vsi l) (i * 2) [.str b.k,Iv b.n]=some (rcl vsi (l.set i b)):=qbr (o:=0) E_si.len hx (Nat.le_of_ble_eq_true rfl) rfl rfl
 simp only [go_sem,seval,c249,st,vsi] <;> rfl
def jmn (l:Option (List GSI)) (i:Int) (b:GSI):Option (Option (List GSI)):=chO l i fun x=>some b
theorem jbx {l:Option (List GSI)} {i:Int} {b:GSI} {r} (h:jmn l i b=some r):qc pr (X pr) 248 [sl 2 vsi l,Iv i,.fn (.func 249) [] [.vptr (vsi b)]]=some (sl 2 vsi r,false):=
 jw6 (fun n x y hx hy=>by cases hy; exact ⟨_,j8e hx,zy⟩) h
end Go.Z
namespace Go.Z
open Go Go.Abs Go.W
noncomputable def f167 (a0:GSI) (a1:List UInt8):Option Bool:=
 some (decide (a0.k=a1))
theorem jgg (hp:qf) {a0:GSI} {a1:List UInt8} {r} (h:f167 a0 a1=some r):qn pr (X pr) 167 [aN a0,.vptr (.str a1)] hp=some (.bool r,false,hp):=by
 unfold f167 at h
 have hr:decide (a0.k=a1)=r:=Option.some.inj h
 subst hr
 rw [qk (show pr.fns 167=some c167 from rfl) (by simp)]
 simp only [go_sem,seval,c167] <;> rfl
noncomputable def qrq (a0:Option (List GSI)) (a1c0:List UInt8) (s0:Int):Option (Int ⊕ (Int ⊕ Int)):=
 cond (decide (s0 < ((a0.getD []).length:Int)))
  (qa (qw (a0.getD []) s0) fun v14=>
  qa (f167 v14 a1c0) fun v16=>
  cond v16
   (some (.inr (.inl s0)))
   (some (.inl (qe .i64 (s0 + 1)))))
  (some (.inr (.inr s0)))
def qi9 (a0:Option (List GSI)) (a1c0:List UInt8) (hp:qf) (s0:Int):ASt:=⟨[(0,sl 2 vsi a0,false),(1,.fn (.func 167) [] [.vptr (.str a1c0)],false),(7,Lv a0,false),(8,Iv s0,false)],hp⟩
def qjn (a0:Option (List GSI)) (a1c0:List UInt8) (hp:qf):Int ⊕ Int→jd × ASt
 | .inl d=>(.ret,⟨[(4,Iv d,false)],hp⟩)
 | .inr d=>(.exit 0,⟨[(0,sl 2 vsi a0,false),(1,.fn (.func 167) [] [.vptr (.str a1c0)],false),(7,Lv a0,false),(8,Iv d,false),(9,.bool false,false)],hp⟩)
theorem jjo (a0:Option (List GSI)) (a1c0:List UInt8) (hp:qf) (s0:Int) (r) (h:qrq a0 a1c0 s0=some r):jy pr qa9 (qi9 a0 a1c0 hp) (qjn a0 a1c0 hp) s0 r:=by
 unfold qrq at h
 repeat' first | (replace h:=qb h; obtain ⟨d,g,h⟩:=h; with_reducible first | replace g:=jgg hp g | skip) | (replace h:=qd h; rcases h with ⟨g,h⟩ | ⟨g,h⟩) | fail
 all_goals (cases h <;> (first | (refine jb ?_; simp only [go_sem,seval,qa9,qi9,qv,qjn,*] <;> rfl) | (refine js ?_; simp only [go_sem,seval,qa9,qi9,qv,qjn,*] <;> rfl)))
theorem jkk (a0:Option (List GSI)) (a1c0:List UInt8) (hp:qf) {s0:Int} {d} (h:itO (qrq a0 a1c0) s0=some d):X pr (.loop qa9) (qi9 a0 a1c0 hp s0)=some (qjn a0 a1c0 hp d):=zf (jjo a0 a1c0 hp) (fun d=>by rcases d with d|d <;> (intro hh; cases hh)) h
noncomputable def qtx (a0:Option (List GSI)) (a1c0:List UInt8):Option Int:=
 qa (itO (qrq a0 a1c0) 0) fun d19=>match d19 with
  | .inl d21=>
   some d21
  | .inr d22=>
   some (-1)
theorem j27 (hp:qf) {a0:Option (List GSI)} {a1c0:List UInt8} {r} (h:qtx a0 a1c0=some r):qn pr (X pr) 235 [sl 2 vsi a0,.fn (.func 167) [] [.vptr (.str a1c0)]] hp=some (Iv r,false,hp):=by
 unfold qtx at h
 rw [qk (show pr.fns 235=some c235 from rfl) (by simp)]
 repeat' first | (replace h:=qb h; obtain ⟨d,g,h⟩:=h; with_reducible first | (replace g:=jkk a0 a1c0 hp g; rcases d with d | d <;> dsimp only [qi9,qjn,zi] at g h) | skip) | (replace h:=qd h; rcases h with ⟨g,h⟩ | ⟨g,h⟩) | fail
 all_goals (cases h <;> (simp only [go_sem,seval,c235,*] <;> rfl))
noncomputable def qrn (a0:Option (List GSI)) (a1c0:List UInt8) (s0:Int):Option (Int ⊕ (Int ⊕ Int)):=
 cond (decide (s0 < ((a0.getD []).length:Int)))
  (qa (qw (a0.getD []) s0) fun v14=>
  qa (f167 v14 a1c0) fun v16=>
  cond v16
   (some (.inr (.inl s0)))
   (some (.inl (qe .i64 (s0 + 1)))))
  (some (.inr (.inr s0)))
def qi3 (a0:Option (List GSI)) (a1c0:List UInt8) (s0:Int):ASt:=⟨[(0,sl 2 vsi a0,false),(1,.fn (.func 167) [] [.vptr (.str a1c0)],false),(7,Lv a0,false),(8,Iv s0,false)],[]⟩
def qj0 (a0:Option (List GSI)) (a1c0:List UInt8):Int ⊕ Int→jd × ASt
 | .inl d=>(.ret,⟨[(4,Iv d,false)],[]⟩)
 | .inr d=>(.exit 0,⟨[(0,sl 2 vsi a0,false),(1,.fn (.func 167) [] [.vptr (.str a1c0)],false),(7,Lv a0,false),(8,Iv d,false),(9,.bool false,false)],[]⟩)
theorem jli (a0:Option (List GSI)) (a1c0:List UInt8) (s0:Int) (r) (h:qrn a0 a1c0 s0=some r):jy pr qa9 (qi3 a0 a1c0) (qj0 a0 a1c0) s0 r:=by
 unfold qrn at h
 repeat' first | (replace h:=qb h; obtain ⟨d,g,h⟩:=h; with_reducible first | replace g:=jgg [] g | skip) | (replace h:=qd h; rcases h with ⟨g,h⟩ | ⟨g,h⟩) | fail
 all_goals (cases h <;> (first | (refine jb ?_; simp only [go_sem,seval,qa9,qi3,qv,qj0,*] <;> rfl) | (refine js ?_; simp only [go_sem,seval,qa9,qi3,qv,qj0,*] <;> rfl)))
theorem jj0 (a0:Option (List GSI)) (a1c0:List UInt8) {s0:Int} {d} (h:itO (qrn a0 a1c0) s0=some d):X pr (.loop qa9) (qi3 a0 a1c0 s0)=some (qj0 a0 a1c0 d):=zf (jli a0 a1c0) (fun d=>by rcases d with d|d <;> (intro hh; cases hh)) h
noncomputable def qvg (a0:Option (List GSI)) (a1c0:List UInt8):Option Int:=
 qa (itO (qrn a0 a1c0) 0) fun d19=>match d19 with
  | .inl d21=>
   some d21
  | .inr d22=>
   some (-1)
theorem jy9 {a0:Option (List GSI)} {a1c0:List UInt8} {r} (h:qvg a0 a1c0=some r):qc pr (X pr) 235 [sl 2 vsi a0,.fn (.func 167) [] [.vptr (.str a1c0)]]=some (Iv r,false):=by
 unfold qvg at h
 refine zg c235 ?_
 repeat' first | (replace h:=qb h; obtain ⟨d,g,h⟩:=h; with_reducible first | (replace g:=jj0 a0 a1c0 g; rcases d with d | d <;> dsimp only [qi3,qj0,zi] at g h) | skip) | (replace h:=qd h; rcases h with ⟨g,h⟩ | ⟨g,h⟩) | fail
 all_goals (cases h <;> (simp only [go_sem,seval,c235,*]; exact ⟨_,rfl⟩))
noncomputable def qvb (a0:Option (List GSI)) (a1c0:List UInt8):Option Bool:=
 qa (qtx a0 a1c0) fun v1=>
 some (decide (0≤v1))
theorem j0n {a0:Option (List GSI)} {a1c0:List UInt8} {r} (h:qvb a0 a1c0=some r):qc pr (X pr) 168 [sl 2 vsi a0,.fn (.func 167) [] [.vptr (.str a1c0)]]=some (.bool r,false):=by
 unfold qvb at h
 refine zg c168 ?_
 repeat' first | (replace h:=qb h; obtain ⟨d,g,h⟩:=h; with_reducible first | replace g:=j27 [] g | skip) | (replace h:=qd h; rcases h with ⟨g,h⟩ | ⟨g,h⟩) | fail
 all_goals (cases h <;> (simp only [go_sem,seval,c168,*]; exact ⟨_,rfl⟩))
noncomputable def f184 (a0:GSI) (a1:qt):Option Bool:=
 some (decide (a0.k=a1.kind))
theorem j8t (hp:qf) {a0:GSI} {a1:qt} {r} (h:f184 a0 a1=some r):qn pr (X pr) 184 [aN a0,.vptr (aL a1)] hp=some (.bool r,false,hp):=by
 unfold f184 at h
 have hr:decide (a0.k=a1.kind)=r:=Option.some.inj h
 subst hr
 rw [qk (show pr.fns 184=some c184 from rfl) (by simp)]
 simp only [go_sem,seval,c184] <;> rfl
noncomputable def qrr (a0:Option (List GSI)) (a1c0:qt) (s0:Int):Option (Int ⊕ (Int ⊕ Int)):=
 cond (decide (s0 < ((a0.getD []).length:Int)))
  (qa (qw (a0.getD []) s0) fun v14=>
  qa (f184 v14 a1c0) fun v16=>
  cond v16
   (some (.inr (.inl s0)))
   (some (.inl (qe .i64 (s0 + 1)))))
  (some (.inr (.inr s0)))
def qja (a0:Option (List GSI)) (a1c0:qt) (hp:qf) (s0:Int):ASt:=⟨[(0,sl 2 vsi a0,false),(1,.fn (.func 184) [] [.vptr (aL a1c0)],false),(7,Lv a0,false),(8,Iv s0,false)],hp⟩
def qj4 (a0:Option (List GSI)) (a1c0:qt) (hp:qf):Int ⊕ Int→jd × ASt
 | .inl d=>(.ret,⟨[(4,Iv d,false)],hp⟩)
 | .inr d=>(.exit 0,⟨[(0,sl 2 vsi a0,false),(1,.fn (.func 184) [] [.vptr (aL a1c0)],false),(7,Lv a0,false),(8,Iv d,false),(9,.bool false,false)],hp⟩)
theorem jls (a0:Option (List GSI)) (a1c0:qt) (hp:qf) (s0:Int) (r) (h:qrr a0 a1c0 s0=some r):jy pr qa9 (qja a0 a1c0 hp) (qj4 a0 a1c0 hp) s0 r:=by
 unfold qrr at h
 repeat' first | (replace h:=qb h; obtain ⟨d,g,h⟩:=h; with_reducible first | replace g:=j8t hp g | skip) | (replace h:=qd h; rcases h with ⟨g,h⟩ | ⟨g,h⟩) | fail
 all_goals (cases h <;> (first | (refine jb ?_; simp only [go_sem,seval,qa9,qja,qv,qj4,*] <;> rfl) | (refine js ?_; simp only [go_sem,seval,qa9,qja,qv,qj4,*] <;> rfl)))
theorem jjx (a0:Option (List GSI)) (a1c0:qt) (hp:qf) {s0:Int} {d} (h:itO (qrr a0 a1c0) s0=some d):X pr (.loop qa9) (qja a0 a1c0 hp s0)=some (qj4 a0 a1c0 hp d):=zf (jls a0 a1c0 hp) (fun d=>by rcases d with d|d <;> (intro hh; cases hh)) h
noncomputable def quu (a0:Option (List GSI)) (a1c0:qt):Option Int:=
 qa (itO (qrr a0 a1c0) 0) fun d19=>match d19 with
  | .inl d21=>
   some d21
  | .inr d22=>
   some (-1)
theorem jvp (hp:qf) {a0:Option (List GSI)} {a1c0:qt} {r} (h:quu a0 a1c0=some r):qn pr (X pr) 235 [sl 2 vsi a0,.fn (.func 184) [] [.vptr (aL a1c0)]] hp=some (Iv r,false,hp):=by
 unfold quu at h
 rw [qk (show pr.fns 235=some c235 from rfl) (by simp)]
 repeat' first | (replace h:=qb h; obtain ⟨d,g,h⟩:=h; with_reducible first | (replace g:=jjx a0 a1c0 hp g; rcases d with d | d <;> dsimp only [qja,qj4,zi] at g h) | skip) | (replace h:=qd h; rcases h with ⟨g,h⟩ | ⟨g,h⟩) | fail
 all_goals (cases h <;> (simp only [go_sem,seval,c235,*] <;> rfl))
noncomputable def qvm (a0:Option (List GSI)) (a1c0:qt):Option Bool:=
 qa (quu a0 a1c0) fun v1=>
 some (decide (0≤v1))
theorem ju6 {a0:Option (List GSI)} {a1c0:qt} {r} (h:qvm a0 a1c0=some r):qc pr (X pr) 168 [sl 2 vsi a0,.fn (.func 184) [] [.vptr (aL a1c0)]]=some (.bool r,false):=by
 unfold qvm at h
 refine zg c168 ?_
 repeat' first | (replace h:=qb h; obtain ⟨d,g,h⟩:=h; with_reducible first | replace g:=jvp [] g | skip) | (replace h:=qd h; rcases h with ⟨g,h⟩ | ⟨g,h⟩) | fail
 all_goals (cases h <;> (simp only [go_sem,seval,c168,*]; exact ⟨_,rfl⟩))
noncomputable def f172 (a0:GSI) (a1vc0:List UInt8):Option Bool:=
 qa (f167 a0 a1vc0) fun v1=>
 some (!v1)
theorem zcs (hp:qf) {a0:GSI} {a1vc0:List UInt8} {r} (h:f172 a0 a1vc0=some r):qn pr (X pr) 172 [aN a0,.vptr (.fn (.func 167) [] [.vptr (.str a1vc0)])] hp=some (.bool r,false,hp):=by
 unfold f172 at h
 obtain ⟨v1,h2,h⟩:=qb h
 have wh2:qn pr (X pr) 167 [aN a0,.vptr (.str a1vc0)] hp=some (.bool v1,false,hp):=jgg hp h2
 have hr:(!v1)=r:=Option.some.inj h
 subst hr
 rw [qk (show pr.fns 172=some c172 from rfl) (by simp)]
 simp only [go_sem,seval,c172,wh2] <;> rfl
noncomputable def qqe (a0:Option (List GSI)) (a1c0vc0:List UInt8) (s0:(Option (List GSI)) × Int × Bool):Option (((Option (List GSI)) × Int × Bool) ⊕ (((Option (List GSI)) × Bool × Int))):=
 cond (decide (s0.2.1 < ((a0.getD []).length:Int)))
  (qa (qw (a0.getD []) s0.2.1) fun v20=>
  qa (f172 v20 a1c0vc0) fun v22=>
  cond v22
   (cond s0.2.2
    (qa (apO s0.1 [v20]) fun v26=>
    some (.inl (v26,qe .i64 (s0.2.1 + 1),true)))
    (cond s0.1.isNone
     (qa (apO s0.1 [v20]) fun v29=>
     some (.inl (v29,qe .i64 (s0.2.1 + 1),true)))
     (none)))
   (some (.inl (s0.1,qe .i64 (s0.2.1 + 1),s0.2.2))))
  (some (.inr (s0.1,s0.2.2,s0.2.1)))
def qmb (a0:Option (List GSI)) (a1c0vc0:List UInt8) (hp:qf) (s0:(Option (List GSI)) × Int × Bool):ASt:=⟨[(1,.fn (.func 172) [] [.vptr (.fn (.func 167) [] [.vptr (.str a1c0vc0)])],false),(5,sl 2 vsi s0.1,s0.2.2),(8,sl 2 vsi a0,false),(9,Lv a0,false),(10,Iv s0.2.1,false)],hp⟩
def ql4 (a0:Option (List GSI)) (a1c0vc0:List UInt8) (hp:qf) (d:((Option (List GSI)) × Bool × Int)):jd × ASt:=(.exit 0,⟨[(1,.fn (.func 172) [] [.vptr (.fn (.func 167) [] [.vptr (.str a1c0vc0)])],false),(5,sl 2 vsi d.1,d.2.1),(8,sl 2 vsi a0,false),(9,Lv a0,false),(10,Iv d.2.2,false),(11,.bool false,false)],hp⟩)
theorem jpl (a0:Option (List GSI)) (a1c0vc0:List UInt8) (hp:qf) (s0:(Option (List GSI)) × Int × Bool) (r) (h:qqe a0 a1c0vc0 s0=some r):jy pr qqy (qmb a0 a1c0vc0 hp) (ql4 a0 a1c0vc0 hp) s0 r:=by
 unfold qqe at h
 repeat' first | (replace h:=qb h; obtain ⟨d,g,h⟩:=h; with_reducible first | replace g:=zcs hp g | replace g:=qgl g | skip) | (replace h:=qd h; rcases h with ⟨g,h⟩ | ⟨g,h⟩) | fail
 all_goals (cases h <;> (first | (refine jb ?_; simp only [go_sem,seval,qqy,qmb,qv,ql4,*] <;> rfl) | (refine js ?_; simp only [go_sem,seval,qqy,qmb,qv,ql4,*] <;> rfl)))
theorem jrl (a0:Option (List GSI)) (a1c0vc0:List UInt8) (hp:qf) {s0:(Option (List GSI)) × Int × Bool} {d} (h:itO (qqe a0 a1c0vc0) s0=some d):X pr (.loop qqy) (qmb a0 a1c0vc0 hp s0)=some (ql4 a0 a1c0vc0 hp d):=zf (jpl a0 a1c0vc0 hp) (fun d hh=>by cases hh) h
noncomputable def f171 (a0:Option (List GSI)) (a1c0vc0:List UInt8):Option ((Option (List GSI)) × Bool):=
 qa (itO (qqe a0 a1c0vc0) (none,0,false)) fun d31=>
 some (d31.1,d31.2.1)
theorem j9t (hp:qf) {a0:Option (List GSI)} {a1c0vc0:List UInt8} {r} (h:f171 a0 a1c0vc0=some r):qn pr (X pr) 171 [sl 2 vsi a0,.fn (.func 172) [] [.vptr (.fn (.func 167) [] [.vptr (.str a1c0vc0)])]] hp=some (sl 2 vsi r.1,r.2,hp):=by
 unfold f171 at h
 rw [qk (show pr.fns 171=some c171 from rfl) (by simp)]
 repeat' first | (replace h:=qb h; obtain ⟨d,g,h⟩:=h; with_reducible first | (replace g:=jrl a0 a1c0vc0 hp g; dsimp only [qmb,ql4,zi] at g h) | skip) | (replace h:=qd h; rcases h with ⟨g,h⟩ | ⟨g,h⟩) | fail
 all_goals (cases h <;> (simp only [go_sem,seval,c171,*] <;> rfl))
noncomputable def f173 (a0:Option (List GSI)) (a1:GSI) (a2c0:List UInt8):Option ((Option (List GSI)) × Bool):=
 qa (qvg a0 a2c0) fun v1=>
 cond (decide (0≤v1))
  (qa (jo0 a0 v1 a1) fun v4=>
  some (v4,false))
  (qa (f239 a0 a1) fun v6=>
  some (v6,true))
theorem zfu {a0:Option (List GSI)} {a1:GSI} {a2c0:List UInt8} {r} (h:f173 a0 a1 a2c0=some r):qc pr (X pr) 173 [sl 2 vsi a0,aN a1,.fn (.func 167) [] [.vptr (.str a2c0)]]=some (sl 2 vsi r.1,r.2):=by
 unfold f173 at h
 refine kg c173 ?_
 repeat' first | (replace h:=qb h; obtain ⟨d,g,h⟩:=h; (with_reducible first | replace g:=jy9 g | replace g:=jhb g | replace g:=j9x g | skip); try dsimp only [zi,qem,List.map,zw,ye,jg,qz,vun,jj,vev,vsi,je,yb,aE,aR,aU,aL,aP,aD] at g) | (replace h:=qd h; rcases h with ⟨g,h⟩ | ⟨g,h⟩) | fail
 all_goals (cases h <;> (simp only [go_sem,seval,c173,*]; exact ⟨_,rfl⟩))
noncomputable def f174 (a0:qu) (a1:qu):Option Bool:=
 some (decide (a0.k=a1.k))
theorem zai (hp:qf) {a0:qu} {a1:qu} {r} (h:f174 a0 a1=some r):qn pr (X pr) 174 [aT a0,.vptr (aT a1)] hp=some (.bool r,false,hp):=by
 unfold f174 at h
 have hr:decide (a0.k=a1.k)=r:=Option.some.inj h
 subst hr
 rw [qk (show pr.fns 174=some c174 from rfl) (by simp)]
 simp only [go_sem,seval,c174] <;> rfl
noncomputable def qr3 (a0:Option (List qu)) (a1c0:qu) (s0:Int):Option (Int ⊕ (Int ⊕ Int)):=
 cond (decide (s0 < ((a0.getD []).length:Int)))
  (qa (qw (a0.getD []) s0) fun v14=>
  qa (f174 v14 a1c0) fun v16=>
  cond v16
   (some (.inr (.inl s0)))
   (some (.inl (qe .i64 (s0 + 1)))))
  (some (.inr (.inr s0)))
def qjp (a0:Option (List qu)) (a1c0:qu) (s0:Int):ASt:=⟨[(0,sl 3 je a0,false),(1,.fn (.func 174) [] [.vptr (aT a1c0)],false),(7,Lv a0,false),(8,Iv s0,false)],[]⟩
def qjo (a0:Option (List qu)) (a1c0:qu):Int ⊕ Int→jd × ASt
 | .inl d=>(.ret,⟨[(4,Iv d,false)],[]⟩)
 | .inr d=>(.exit 0,⟨[(0,sl 3 je a0,false),(1,.fn (.func 174) [] [.vptr (aT a1c0)],false),(7,Lv a0,false),(8,Iv d,false),(9,.bool false,false)],[]⟩)
theorem jjq (a0:Option (List qu)) (a1c0:qu) (s0:Int) (r) (h:qr3 a0 a1c0 s0=some r):jy pr qge (qjp a0 a1c0) (qjo a0 a1c0) s0 r:=by
 unfold qr3 at h
 repeat' first | (replace h:=qb h; obtain ⟨d,g,h⟩:=h; with_reducible first | replace g:=zai [] g | skip) | (replace h:=qd h; rcases h with ⟨g,h⟩ | ⟨g,h⟩) | fail
 all_goals (cases h <;> (first | (refine jb ?_; simp only [go_sem,seval,qge,qjp,qv,qjo,*] <;> rfl) | (refine js ?_; simp only [go_sem,seval,qge,qjp,qv,qjo,*] <;> rfl)))
theorem jks (a0:Option (List qu)) (a1c0:qu) {s0:Int} {d} (h:itO (qr3 a0 a1c0) s0=some d):X pr (.loop qge) (qjp a0 a1c0 s0)=some (qjo a0 a1c0 d):=zf (jjq a0 a1c0) (fun d=>by rcases d with d|d <;> (intro hh; cases hh)) h
noncomputable def qkd (a0:Option (List qu)) (a1c0:qu):Option Int:=
 qa (itO (qr3 a0 a1c0) 0) fun d19=>match d19 with
  | .inl d21=>
   some d21
  | .inr d22=>
   some (-1)
theorem jim {a0:Option (List qu)} {a1c0:qu} {r} (h:qkd a0 a1c0=some r):qc pr (X pr) 240 [sl 3 je a0,.fn (.func 174) [] [.vptr (aT a1c0)]]=some (Iv r,false):=by
 unfold qkd at h
 refine zg c240 ?_
 repeat' first | (replace h:=qb h; obtain ⟨d,g,h⟩:=h; with_reducible first | (replace g:=jks a0 a1c0 g; rcases d with d | d <;> dsimp only [qjp,qjo,zi] at g h) | skip) | (replace h:=qd h; rcases h with ⟨g,h⟩ | ⟨g,h⟩) | fail
 all_goals (cases h <;> (simp only [go_sem,seval,c240,*]; exact ⟨_,rfl⟩))
noncomputable def qt0 (a0:Option (List qu)) (a1c0:qu):Option Bool:=
 qa (qkd a0 a1c0) fun v1=>
 some (decide (0≤v1))
theorem jz3 {a0:Option (List qu)} {a1c0:qu} {r} (h:qt0 a0 a1c0=some r):qc pr (X pr) 175 [sl 3 je a0,.fn (.func 174) [] [.vptr (aT a1c0)]]=some (.bool r,false):=by
 unfold qt0 at h
 refine zg c175 ?_
 repeat' first | (replace h:=qb h; obtain ⟨d,g,h⟩:=h; with_reducible first | replace g:=jim g | skip) | (replace h:=qd h; rcases h with ⟨g,h⟩ | ⟨g,h⟩) | fail
 all_goals (cases h <;> (simp only [go_sem,seval,c175,*]; exact ⟨_,rfl⟩))
noncomputable def f177 (a0:Option (List qu)) (a1:qu) (a2c0:qu):Option ((Option (List qu)) × Bool):=
 qa (qkd a0 a2c0) fun v1=>
 cond (decide (0≤v1))
  (qa (joc a0 v1 a1) fun v4=>
  some (v4,false))
  (qa (f243 a0 a1) fun v6=>
  some (v6,true))
theorem zbl {a0:Option (List qu)} {a1:qu} {a2c0:qu} {r} (h:f177 a0 a1 a2c0=some r):qc pr (X pr) 177 [sl 3 je a0,aT a1,.fn (.func 174) [] [.vptr (aT a2c0)]]=some (sl 3 je r.1,r.2):=by
 unfold f177 at h
 refine kg c177 ?_
 repeat' first | (replace h:=qb h; obtain ⟨d,g,h⟩:=h; (with_reducible first | replace g:=jim g | replace g:=jdg g | replace g:=zf2 g | skip); try dsimp only [zi,qem,List.map,zw,ye,jg,qz,vun,jj,vev,vsi,je,yb,aE,aR,aU,aL,aP,aD] at g) | (replace h:=qd h; rcases h with ⟨g,h⟩ | ⟨g,h⟩) | fail
 all_goals (cases h <;> (simp only [go_sem,seval,c177,*]; exact ⟨_,rfl⟩))
noncomputable def f192 (a0:qu) (a1:GEv):Option Bool:=
 qa (qw (a1.names.getD []) 1) fun v1=>
 some (decide (a0.k=v1))
theorem zdb (hp:qf) {a0:qu} {a1:GEv} {r} (h:f192 a0 a1=some r):qn pr (X pr) 192 [aT a0,.vptr (aE a1)] hp=some (.bool r,false,hp):=by
 unfold f192 at h
 obtain ⟨v1,h2,h⟩:=qb h
 have hr:decide (a0.k=v1)=r:=Option.some.inj h
 subst hr
 rw [qk (show pr.fns 192=some c192 from rfl) (by simp)]
 simp only [go_sem,seval,c192,zj h2] <;> rfl
noncomputable def qlz (a0:Option (List qu)) (a1c0:GEv) (s0:Int):Option (Int ⊕ (Int ⊕ Int)):=
 cond (decide (s0 < ((a0.getD []).length:Int)))
  (qa (qw (a0.getD []) s0) fun v14=>
  qa (f192 v14 a1c0) fun v16=>
  cond v16
   (some (.inr (.inl s0)))
   (some (.inl (qe .i64 (s0 + 1)))))
  (some (.inr (.inr s0)))
def qiy (a0:Option (List qu)) (a1c0:GEv) (s0:Int):ASt:=⟨[(0,sl 3 je a0,false),(1,.fn (.func 192) [] [.vptr (aE a1c0)],false),(7,Lv a0,false),(8,Iv s0,false)],[]⟩
def qjx (a0:Option (List qu)) (a1c0:GEv):Int ⊕ Int→jd × ASt
 | .inl d=>(.ret,⟨[(4,Iv d,false)],[]⟩)
 | .inr d=>(.exit 0,⟨[(0,sl 3 je a0,false),(1,.fn (.func 192) [] [.vptr (aE a1c0)],false),(7,Lv a0,false),(8,Iv d,false),(9,.bool false,false)],[]⟩)
theorem jj1 (a0:Option (List qu)) (a1c0:GEv) (s0:Int) (r) (h:qlz a0 a1c0 s0=some r):jy pr qge (qiy a0 a1c0) (qjx a0 a1c0) s0 r:=by
 unfold qlz at h
 repeat' first | (replace h:=qb h; obtain ⟨d,g,h⟩:=h; with_reducible first | replace g:=zdb [] g | skip) | (replace h:=qd h; rcases h with ⟨g,h⟩ | ⟨g,h⟩) | fail
 all_goals (cases h <;> (first | (refine jb ?_; simp only [go_sem,seval,qge,qiy,qv,qjx,*] <;> rfl) | (refine js ?_; simp only [go_sem,seval,qge,qiy,qv,qjx,*] <;> rfl)))
theorem jlf (a0:Option (List qu)) (a1c0:GEv) {s0:Int} {d} (h:itO (qlz a0 a1c0) s0=some d):X pr (.loop qge) (qiy a0 a1c0 s0)=some (qjx a0 a1c0 d):=zf (jj1 a0 a1c0) (fun d=>by rcases d with d|d <;> (intro hh; cases hh)) h
noncomputable def quh (a0:Option (List qu)) (a1c0:GEv):Option Int:=
 qa (itO (qlz a0 a1c0) 0) fun d19=>match d19 with
  | .inl d21=>
   some d21
  | .inr d22=>
   some (-1)
theorem jwu {a0:Option (List qu)} {a1c0:GEv} {r} (h:quh a0 a1c0=some r):qc pr (X pr) 240 [sl 3 je a0,.fn (.func 192) [] [.vptr (aE a1c0)]]=some (Iv r,false):=by
 unfold quh at h
 refine zg c240 ?_
 repeat' first | (replace h:=qb h; obtain ⟨d,g,h⟩:=h; with_reducible first | (replace g:=jlf a0 a1c0 g; rcases d with d | d <;> dsimp only [qiy,qjx,zi] at g h) | skip) | (replace h:=qd h; rcases h with ⟨g,h⟩ | ⟨g,h⟩) | fail
 all_goals (cases h <;> (simp only [go_sem,seval,c240,*]; exact ⟨_,rfl⟩))
noncomputable def qwd (a0:Option (List qu)) (a1c0:GEv):Option Bool:=
 qa (quh a0 a1c0) fun v1=>
 some (decide (0≤v1))
theorem j3x {a0:Option (List qu)} {a1c0:GEv} {r} (h:qwd a0 a1c0=some r):qc pr (X pr) 175 [sl 3 je a0,.fn (.func 192) [] [.vptr (aE a1c0)]]=some (.bool r,false):=by
 unfold qwd at h
 refine zg c175 ?_
 repeat' first | (replace h:=qb h; obtain ⟨d,g,h⟩:=h; with_reducible first | replace g:=jwu g | skip) | (replace h:=qd h; rcases h with ⟨g,h⟩ | ⟨g,h⟩) | fail
 all_goals (cases h <;> (simp only [go_sem,seval,c175,*]; exact ⟨_,rfl⟩))
noncomputable def f187 (a0:GSI) (a1:qt):Option Bool:=
 some (decide (a0.k=a1.name))
theorem zfb (hp:qf) {a0:GSI} {a1:qt} {r} (h:f187 a0 a1=some r):qn pr (X pr) 187 [aN a0,.vptr (aL a1)] hp=some (.bool r,false,hp):=by
 unfold f187 at h
 have hr:decide (a0.k=a1.name)=r:=Option.some.inj h
 subst hr
 rw [qk (show pr.fns 187=some c187 from rfl) (by simp)]
 simp only [go_sem,seval,c187] <;> rfl
noncomputable def qv9 (a0:Option (List GSI)) (a1c0:qt) (s0:Int):Option (Int ⊕ (Int ⊕ Int)):=
 cond (decide (s0 < ((a0.getD []).length:Int)))
  (qa (qw (a0.getD []) s0) fun v14=>
  qa (f187 v14 a1c0) fun v16=>
  cond v16
   (some (.inr (.inl s0)))
   (some (.inl (qe .i64 (s0 + 1)))))
  (some (.inr (.inr s0)))
def qmk (a0:Option (List GSI)) (a1c0:qt) (s0:Int):ASt:=⟨[(0,sl 2 vsi a0,false),(1,.fn (.func 187) [] [.vptr (aL a1c0)],false),(7,Lv a0,false),(8,Iv s0,false)],[]⟩
def qmn (a0:Option (List GSI)) (a1c0:qt):Int ⊕ Int→jd × ASt
 | .inl d=>(.ret,⟨[(4,Iv d,false)],[]⟩)
 | .inr d=>(.exit 0,⟨[(0,sl 2 vsi a0,false),(1,.fn (.func 187) [] [.vptr (aL a1c0)],false),(7,Lv a0,false),(8,Iv d,false),(9,.bool false,false)],[]⟩)
theorem jor (a0:Option (List GSI)) (a1c0:qt) (s0:Int) (r) (h:qv9 a0 a1c0 s0=some r):jy pr qpx (qmk a0 a1c0) (qmn a0 a1c0) s0 r:=by
 unfold qv9 at h
 repeat' first | (replace h:=qb h; obtain ⟨d,g,h⟩:=h; with_reducible first | replace g:=zfb [] g | skip) | (replace h:=qd h; rcases h with ⟨g,h⟩ | ⟨g,h⟩) | fail
 all_goals (cases h <;> (first | (refine jb ?_; simp only [go_sem,seval,qpx,qmk,qv,qmn,*] <;> rfl) | (refine js ?_; simp only [go_sem,seval,qpx,qmk,qv,qmn,*] <;> rfl)))
theorem jp5 (a0:Option (List GSI)) (a1c0:qt) {s0:Int} {d} (h:itO (qv9 a0 a1c0) s0=some d):X pr (.loop qpx) (qmk a0 a1c0 s0)=some (qmn a0 a1c0 d):=zf (jor a0 a1c0) (fun d=>by rcases d with d|d <;> (intro hh; cases hh)) h
noncomputable def f188 (a0:Option (List GSI)) (a1c0:qt):Option Int:=
 qa (itO (qv9 a0 a1c0) 0) fun d19=>match d19 with
  | .inl d21=>
   some d21
  | .inr d22=>
   some (-1)
theorem jnh {a0:Option (List GSI)} {a1c0:qt} {r} (h:f188 a0 a1c0=some r):qc pr (X pr) 188 [sl 2 vsi a0,.fn (.func 187) [] [.vptr (aL a1c0)]]=some (Iv r,false):=by
 unfold f188 at h
 refine zg c188 ?_
 repeat' first | (replace h:=qb h; obtain ⟨d,g,h⟩:=h; with_reducible first | (replace g:=jp5 a0 a1c0 g; rcases d with d | d <;> dsimp only [qmk,qmn,zi] at g h) | skip) | (replace h:=qd h; rcases h with ⟨g,h⟩ | ⟨g,h⟩) | fail
 all_goals (cases h <;> (simp only [go_sem,seval,c188,*]; exact ⟨_,rfl⟩))
noncomputable def f191 (a0:Option (List GSI)) (a1:GSI) (a2c0:qt):Option ((Option (List GSI)) × Bool):=
 qa (f188 a0 a2c0) fun v1=>
 cond (decide (0≤v1))
  (qa (jmn a0 v1 a1) fun v4=>
  some (v4,false))
  (qa (f250 a0 a1) fun v6=>
  some (v6,true))
theorem zd5 {a0:Option (List GSI)} {a1:GSI} {a2c0:qt} {r} (h:f191 a0 a1 a2c0=some r):qc pr (X pr) 191 [sl 2 vsi a0,aN a1,.fn (.func 187) [] [.vptr (aL a2c0)]]=some (sl 2 vsi r.1,r.2):=by
 unfold f191 at h
 refine kg c191 ?_
 repeat' first | (replace h:=qb h; obtain ⟨d,g,h⟩:=h; (with_reducible first | replace g:=jnh g | replace g:=jbx g | replace g:=j9c g | skip); try dsimp only [zi,qem,List.map,zw,ye,jg,qz,vun,jj,vev,vsi,je,yb,aE,aR,aU,aL,aP,aD] at g) | (replace h:=qd h; rcases h with ⟨g,h⟩ | ⟨g,h⟩) | fail
 all_goals (cases h <;> (simp only [go_sem,seval,c191,*]; exact ⟨_,rfl⟩))
end Go.Z
