/- Chapter 10. -/
import Derived.Test.YtfopaakmgogpiaaGreatDoorCA
import Derived.Test.YtfopaakmgogpiaaGreatDoorG0
import Derived.Test.YtfopaakmgogpiaaGreatDoorAbsL
import Derived.Test.YtfopaakmgogpiaaGreatDoorW6
import Derived.Test.YtfopaakmgogpiaaGreatDoorW4
set_option linter.unusedVariables false
set_option linter.unusedSimpArgs false
set_option maxRecDepth 100000
noncomputable section
namespace Go.Z
open Go Go.Abs Go.W
section
variable {p:qt}{xc:XC}{h0:Nat}{al:Option (List Nat)}{e:Env}{h:j8}{α:Type}
structure Enc (f:α→qa)(sz:Nat):Prop where
 len:∀x,(f x).flat.length=sz
 sc:∀x,(f x).flat.all ze=true
 ag:∀x,f x=.agg (f x).flat
 ref:∀x,(f x).flat.any q62=true
 big:1<sz
variable {f:α→qa}{sz:Nat}
theorem jin (E:Enc f sz)(l:List α):(yw f l).all ze=true:=by
 induction l with
 |nil=>rfl
 |cons x l ih=>rw[qc5,List.all_append,E.sc,ih];rfl
theorem q55 (E:Enc f sz):∀(l:List α),qc3 sz l.length (yw f l)=l.map f
 | []=>rfl
 |x::l=>by
  have hb:Nat.beq sz 1=false:=by
   have:=E.big
   cases h:Nat.beq sz 1 with
   |false=>rfl
   |true=>have:=Nat.eq_of_beq_eq_true h;omega
  have hl:=E.len x
  show(bif Nat.beq sz 1 then(yw f (x::l)).headD .undef else .agg ((yw f (x::l)).take sz))::qc3 sz l.length ((yw f (x::l)).drop sz)=_
  rw[hb,cond_false,qc5,List.take_append_of_le_length (by omega),List.drop_append_of_le_length (by omega),List.take_of_length_le (by omega),List.drop_eq_nil_of_le (by omega),List.nil_append,q55 E l,←E.ag]
  rfl
theorem qd5 (E:Enc f sz){l:List α}(hl:0<l.length){cs:List (qa×Bool)}(hc:cs.map (·.1)=yw f l):q79 (some cs) 0 l.length=some (.list false sz (l.map f)):=by
 have hcl:cs.length=l.length*sz:=by rw[←List.length_map (f:=(·.1)),hc,qfh E.len]
 have hdiv:cs.length / l.length=sz:=by rw[hcl];exact Nat.mul_div_cancel_left _ hl
 have hany:cs.any (fun c=>q62 c.1)=true:=by
  cases l with
  |nil=>cases hl
  |cons x l=>
   have:(cs.map (·.1)).any q62=true:=by rw[hc,qc5,List.any_append,E.ref];rfl
   rw[List.any_map]at this
   exact this
 have hr:qye 0 l.length cs=true:=by
  have hb:Nat.blt 1 sz=true:=Nat.blt_eq.mpr E.big
  rw[qye,hdiv,hb,hany,hcl,Nat.beq_refl,Nat.beq_refl];rfl
 unfold q79
 simp only[hr,cT,hdiv]
 rw[hc,q55 E]
theorem qh2 {r n by_:Nat}{zero:List qa}(hz:zero.length=sz)(hs:zero.all ze=true)(h1:0<sz)(hn:n≤1073741824)(hb:by_≤4096){h':j8}(hh:newBox h0 h r (.cells (cellsOf (List.replicate n zero).flatten))=some h'):
  qis h0 r sz by_ zero h (some (Iv (n:Int))) (some (Iv (n:Int)))=some ⟨.ms (h0+r) 0 n,false,none,h'⟩:=by
 show(bif Nat.beq n n&&Nat.ble n 1073741824&&Nat.ble by_ 4096&&Nat.beq zero.length sz&&Nat.blt 0 sz&&zero.all ze then _ else _)=_
 rw[Nat.beq_refl,Nat.ble_eq_true_of_le hn,Nat.ble_eq_true_of_le hb,hz,Nat.beq_refl,Nat.blt_eq.mpr h1,hs]
 simp only[Bool.and_self,cT,hh]
 rfl
theorem qfn (E:Enc f sz){b:Nat}{l:Option (List α)}{cs:List (qa×Bool)}(hb:h[b]?=some (.cells cs))(hc:cs.length=(l.getD []).length*sz)(hok:yv h0 al b=true):
  qjs h0 al sz h (some (.ms b 0 (l.getD []).length)) (some (sl sz f l))=some ⟨Lv l,false,none,h.set b (.cells (rcl f (l.getD [])))⟩:=by
 have hbc:yn h b=some cs:=by rw[q5w,hb];rfl
 have hlt:=(List.getElem?_eq_some_iff.1 hb).1
 have hsrc:qig sz (l.getD []).length (sl sz f l)=some ((l.getD []).length,yw f (l.getD [])):=by
  cases l with
  |none=>simp[sl,qig,yw]
  |some l=>
   show(bif Nat.beq sz sz||(l.map f).isEmpty then some (min (l.map f).length l.length,((l.map f).take l.length).flatMap qa.flat)else none)=_
   rw[Nat.beq_refl,List.length_map,Nat.min_self,List.take_of_length_le (by rw[List.length_map];exact Nat.le_refl _)]
   rfl
 have hfl:(yw f (l.getD [])).length=(l.getD []).length*sz:=qfh E.len _
 have hst:yj cs 0 (yw f (l.getD []))=some (rcl f (l.getD [])):=by
  unfold yj
  rw[jin E,hfl,hc,Nat.ble_eq_true_of_le (by omega)]
  simp only[Bool.and_self,cT,List.take_zero,List.nil_append]
  rw[List.drop_eq_nil_of_le (by rw[hc];omega),List.append_nil]
  rfl
 have hset:ym h b (.cells (rcl f (l.getD [])))=some (h.set b (.cells (rcl f (l.getD [])))):=by
  simp only[ym,Nat.blt_eq.mpr hlt,cT]
 show(bif yv h0 al b then(match yn h b with
   |some cs=>(match qig sz (l.getD []).length (sl sz f l)with
    |some (n,vs)=>(match yj cs 0 vs with
     |some cs'=>bif Nat.beq vs.length (n*sz)then(match ym h b (.cells cs')with
      |some h'=>val h' (Iv n)
      |none=>none)else none
     |none=>none)
    |none=>none)
   |none=>none)else none)=_
 rw[hok,hbc,hsrc]
 simp only[cT,hst,hfl,Nat.beq_refl,hset]
 rfl
theorem qdz {b n i:Nat}{k:IntKind}(hi:i<n):qcq sz h (some (.ms b 0 n)) (some (.int k (i:Int)))=some ⟨.ptr b (i*sz),false,none,h⟩:=by
 have:idx n (.int k (i:Int))=some i:=by rw[qhb];exact qu8 hi
 simp only[qcq,this,Nat.zero_add]
 rfl
end
end Go.Z
set_option maxHeartbeats 4000000
namespace Go.Z
open Go Go.Abs Go.W
theorem E_lot:Enc z7 5:=⟨fun _=>rfl,fun _=>rfl,fun _=>rfl,fun _=>rfl,by omega⟩
theorem E_si:Enc vsi 2:=⟨fun _=>rfl,fun _=>rfl,fun _=>rfl,fun _=>rfl,by omega⟩
theorem E_sii:Enc zz 3:=⟨fun _=>rfl,fun _=>rfl,fun _=>rfl,fun _=>rfl,by omega⟩
theorem E_prod:Enc zr 4:=⟨fun _=>rfl,fun _=>by simp only[go_sem,seval,q71]<;>simp only[List.all,go_sem],fun _=>rfl,fun _=>rfl,by omega⟩
theorem E_un:Enc vun 8:=⟨fun _=>rfl,fun _=>by simp only[go_sem,seval,jdn]<;>simp only[List.all,go_sem],fun _=>rfl,fun _=>rfl,by omega⟩
theorem j92 {j:Nat}{caps:List qa}{l:Option (List qi)}{i:Nat}{cs:List (qa×Bool)}(hlen:(l.getD []).length≤1073741824)(hi:i<(l.getD []).length)(hcl:zf pr (X pr) j (.ptr 0 (i*4)::caps) [.cells (rcl zr (l.getD []))]=some (.tup [],false,[.cells cs])):zf pr (X pr) 178 [sl 4 zr l,Iv (i:Int),.fn (.func j) [] caps] []=some (.ms 0 0 ((l.getD []).length),false,[.cells cs]):=by
 rw[zd (show pr.fns 178=some c178 from rfl) (by simp)]
 have mkr:qis 0 0 4 88 [(.str []),(Nl),(Nl),(Nl)] [.hole] (some (Lv l)) (some (Lv l))=some ⟨.ms 0 0 (l.getD []).length,false,none,[.cells (cellsOf (List.replicate (l.getD []).length [(.str []),(Nl),(Nl),(Nl)]).flatten)]⟩:=by z8 qh2<;>first|exact hlen|rfl|decide
 have cpy:qjs 1 none 4 [.cells (cellsOf (List.replicate (l.getD []).length [(.str []),(Nl),(Nl),(Nl)]).flatten)] (some (.ms 0 0 (l.getD []).length)) (some (sl 4 zr l))=some ⟨Lv l,false,none,[.cells (rcl zr (l.getD []))]⟩:=qfn E_prod rfl (by simp[cellsOf]) rfl
 simp only[go_sem,seval,c178,mkr,cpy,qdz hi,hcl]<;>rfl
theorem j3i{y:qi} {j:Nat} {caps:List qa} {l:Option (List qi)} {i:Nat} {cs:List (qa×Bool)} (hlen:(l.getD []).length≤1073741824) (hi:i<(l.getD []).length) (hcl:zf pr (X pr) j (.ptr 0 (i*4)::caps) [.cells (rcl zr (l.getD []))]=some (.tup [],false,[.cells cs])) (hcs:cs.map (·.1)=yw zr ((l.getD []).set i y)):jy pr (X pr) 178 [sl 4 zr l,Iv (i:Int),.fn (.func j) [] caps]=some (sl 4 zr (some ((l.getD []).set i y)),false):=by
 have hl:((l.getD []).set i y).length=(l.getD []).length:=List.length_set
 have hz:freezeR [.cells cs] (.ms 0 0 ((l.getD []).length))=some (sl 4 zr (some ((l.getD []).set i y))):=by
  rw[qj5,←hl]
  exact qd5 E_prod (by rw[hl];omega) hcs
 exact kq rfl (j92 hlen hi hcl) hz (by first|rfl|simp only[go_sem,seval])
theorem za0 {j:Nat}{caps:List qa}{l:Option (List qj)}{i:Nat}{cs:List (qa×Bool)}(hlen:(l.getD []).length≤1073741824)(hi:i<(l.getD []).length)(hcl:zf pr (X pr) j (.ptr 0 (i*5)::caps) [.cells (rcl z7 (l.getD []))]=some (.tup [],false,[.cells cs])):zf pr (X pr) 185 [sl 5 z7 l,Iv (i:Int),.fn (.func j) [] caps] []=some (.ms 0 0 ((l.getD []).length),false,[.cells cs]):=by
 rw[zd (show pr.fns 185=some c185 from rfl) (by simp)]
 have mkr:qis 0 0 5 56 [(.str []),(.str []),(Iv 0),(Iv 0),(.bool false)] [.hole] (some (Lv l)) (some (Lv l))=some ⟨.ms 0 0 (l.getD []).length,false,none,[.cells (cellsOf (List.replicate (l.getD []).length [(.str []),(.str []),(Iv 0),(Iv 0),(.bool false)]).flatten)]⟩:=by z8 qh2<;>first|exact hlen|rfl|decide
 have cpy:qjs 1 none 5 [.cells (cellsOf (List.replicate (l.getD []).length [(.str []),(.str []),(Iv 0),(Iv 0),(.bool false)]).flatten)] (some (.ms 0 0 (l.getD []).length)) (some (sl 5 z7 l))=some ⟨Lv l,false,none,[.cells (rcl z7 (l.getD []))]⟩:=qfn E_lot rfl (by simp[cellsOf]) rfl
 simp only[go_sem,seval,c185,mkr,cpy,qdz hi,hcl]<;>rfl
theorem jw0{y:qj} {j:Nat} {caps:List qa} {l:Option (List qj)} {i:Nat} {cs:List (qa×Bool)} (hlen:(l.getD []).length≤1073741824) (hi:i<(l.getD []).length) (hcl:zf pr (X pr) j (.ptr 0 (i*5)::caps) [.cells (rcl z7 (l.getD []))]=some (.tup [],false,[.cells cs])) (hcs:cs.map (·.1)=yw z7 ((l.getD []).set i y)):jy pr (X pr) 185 [sl 5 z7 l,Iv (i:Int),.fn (.func j) [] caps]=some (sl 5 z7 (some ((l.getD []).set i y)),false):=by
 have hl:((l.getD []).set i y).length=(l.getD []).length:=List.length_set
 have hz:freezeR [.cells cs] (.ms 0 0 ((l.getD []).length))=some (sl 5 z7 (some ((l.getD []).set i y))):=by
  rw[qj5,←hl]
  exact qd5 E_lot (by rw[hl];omega) hcs
 exact kq rfl (za0 hlen hi hcl) hz (by first|rfl|simp only[go_sem,seval])
theorem zc6 {j:Nat}{caps:List qa}{l:Option (List qf)}{i:Nat}{cs:List (qa×Bool)}(hlen:(l.getD []).length≤1073741824)(hi:i<(l.getD []).length)(hcl:zf pr (X pr) j (.ptr 0 (i*8)::caps) [.cells (rcl vun (l.getD []))]=some (.tup [],false,[.cells cs])):zf pr (X pr) 189 [sl 8 vun l,Iv (i:Int),.fn (.func j) [] caps] []=some (.ms 0 0 ((l.getD []).length),false,[.cells cs]):=by
 rw[zd (show pr.fns 189=some c189 from rfl) (by simp)]
 have mkr:qis 0 0 8 120 [(.str []),(.str []),(Iv 0),(Nl),(Nl),(.str []),(.bool false),(Iv 0)] [.hole] (some (Lv l)) (some (Lv l))=some ⟨.ms 0 0 (l.getD []).length,false,none,[.cells (cellsOf (List.replicate (l.getD []).length [(.str []),(.str []),(Iv 0),(Nl),(Nl),(.str []),(.bool false),(Iv 0)]).flatten)]⟩:=by z8 qh2<;>first|exact hlen|rfl|decide
 have cpy:qjs 1 none 8 [.cells (cellsOf (List.replicate (l.getD []).length [(.str []),(.str []),(Iv 0),(Nl),(Nl),(.str []),(.bool false),(Iv 0)]).flatten)] (some (.ms 0 0 (l.getD []).length)) (some (sl 8 vun l))=some ⟨Lv l,false,none,[.cells (rcl vun (l.getD []))]⟩:=qfn E_un rfl (by simp[cellsOf]) rfl
 simp only[go_sem,seval,c189,mkr,cpy,qdz hi,hcl]<;>rfl
theorem j5j{y:qf} {j:Nat} {caps:List qa} {l:Option (List qf)} {i:Nat} {cs:List (qa×Bool)} (hlen:(l.getD []).length≤1073741824) (hi:i<(l.getD []).length) (hcl:zf pr (X pr) j (.ptr 0 (i*8)::caps) [.cells (rcl vun (l.getD []))]=some (.tup [],false,[.cells cs])) (hcs:cs.map (·.1)=yw vun ((l.getD []).set i y)):jy pr (X pr) 189 [sl 8 vun l,Iv (i:Int),.fn (.func j) [] caps]=some (sl 8 vun (some ((l.getD []).set i y)),false):=by
 have hl:((l.getD []).set i y).length=(l.getD []).length:=List.length_set
 have hz:freezeR [.cells cs] (.ms 0 0 ((l.getD []).length))=some (sl 8 vun (some ((l.getD []).set i y))):=by
  rw[qj5,←hl]
  exact qd5 E_un (by rw[hl];omega) hcs
 exact kq rfl (zc6 hlen hi hcl) hz (by first|rfl|simp only[go_sem,seval])
theorem jju {b0 b1 b2 b3 b4:qn}{j:Nat}{caps:List qa}{l:Option (List qf)}{i:Nat}{cs:List (qa×Bool)}(hlen:(l.getD []).length≤1073741824)(hi:i<(l.getD []).length)(hcl:zf pr (X pr) j (.ptr 5 (i*8)::caps) [b0,b1,b2,b3,b4,.cells (rcl vun (l.getD []))]=some (.tup [],false,[b0,b1,b2,b3,b4,.cells cs])):zf pr (X pr) 189 [sl 8 vun l,Iv (i:Int),.fn (.func j) [] caps] [b0,b1,b2,b3,b4]=some (.ms 5 0 ((l.getD []).length),false,[b0,b1,b2,b3,b4,.cells cs]):=by
 rw[zd (show pr.fns 189=some c189 from rfl) (by simp)]
 have mkr:qis 5 0 8 120 [(.str []),(.str []),(Iv 0),(Nl),(Nl),(.str []),(.bool false),(Iv 0)] [b0,b1,b2,b3,b4,.hole] (some (Lv l)) (some (Lv l))=some ⟨.ms 5 0 (l.getD []).length,false,none,[b0,b1,b2,b3,b4,.cells (cellsOf (List.replicate (l.getD []).length [(.str []),(.str []),(Iv 0),(Nl),(Nl),(.str []),(.bool false),(Iv 0)]).flatten)]⟩:=by z8 qh2<;>first|exact hlen|rfl|decide
 have cpy:qjs 6 none 8 [b0,b1,b2,b3,b4,.cells (cellsOf (List.replicate (l.getD []).length [(.str []),(.str []),(Iv 0),(Nl),(Nl),(.str []),(.bool false),(Iv 0)]).flatten)] (some (.ms 5 0 (l.getD []).length)) (some (sl 8 vun l))=some ⟨Lv l,false,none,[b0,b1,b2,b3,b4,.cells (rcl vun (l.getD []))]⟩:=qfn E_un rfl (by simp[cellsOf]) rfl
 simp only[go_sem,seval,c189,mkr,cpy,qdz hi,hcl]<;>rfl
theorem zdl {j:Nat}{caps:List qa}{l:Option (List qm)}{i:Nat}{cs:List (qa×Bool)}(hlen:(l.getD []).length≤1073741824)(hi:i<(l.getD []).length)(hcl:zf pr (X pr) j (.ptr 0 (i*2)::caps) [.cells (rcl vsi (l.getD []))]=some (.tup [],false,[.cells cs])):zf pr (X pr) 237 [sl 2 vsi l,Iv (i:Int),.fn (.func j) [] caps] []=some (.ms 0 0 ((l.getD []).length),false,[.cells cs]):=by
 rw[zd (show pr.fns 237=some c237 from rfl) (by simp)]
 have mkr:qis 0 0 2 24 [(.str []),(Iv 0)] [.hole] (some (Lv l)) (some (Lv l))=some ⟨.ms 0 0 (l.getD []).length,false,none,[.cells (cellsOf (List.replicate (l.getD []).length [(.str []),(Iv 0)]).flatten)]⟩:=by z8 qh2<;>first|exact hlen|rfl|decide
 have cpy:qjs 1 none 2 [.cells (cellsOf (List.replicate (l.getD []).length [(.str []),(Iv 0)]).flatten)] (some (.ms 0 0 (l.getD []).length)) (some (sl 2 vsi l))=some ⟨Lv l,false,none,[.cells (rcl vsi (l.getD []))]⟩:=qfn E_si rfl (by simp[cellsOf]) rfl
 simp only[go_sem,seval,c237,mkr,cpy,qdz hi,hcl]<;>rfl
theorem j0r{y:qm} {j:Nat} {caps:List qa} {l:Option (List qm)} {i:Nat} {cs:List (qa×Bool)} (hlen:(l.getD []).length≤1073741824) (hi:i<(l.getD []).length) (hcl:zf pr (X pr) j (.ptr 0 (i*2)::caps) [.cells (rcl vsi (l.getD []))]=some (.tup [],false,[.cells cs])) (hcs:cs.map (·.1)=yw vsi ((l.getD []).set i y)):jy pr (X pr) 237 [sl 2 vsi l,Iv (i:Int),.fn (.func j) [] caps]=some (sl 2 vsi (some ((l.getD []).set i y)),false):=by
 have hl:((l.getD []).set i y).length=(l.getD []).length:=List.length_set
 have hz:freezeR [.cells cs] (.ms 0 0 ((l.getD []).length))=some (sl 2 vsi (some ((l.getD []).set i y))):=by
  rw[qj5,←hl]
  exact qd5 E_si (by rw[hl];omega) hcs
 exact kq rfl (zdl hlen hi hcl) hz (by first|rfl|simp only[go_sem,seval])
theorem j99 {j:Nat}{caps:List qa}{l:Option (List qk)}{i:Nat}{cs:List (qa×Bool)}(hlen:(l.getD []).length≤1073741824)(hi:i<(l.getD []).length)(hcl:zf pr (X pr) j (.ptr 0 (i*3)::caps) [.cells (rcl zz (l.getD []))]=some (.tup [],false,[.cells cs])):zf pr (X pr) 241 [sl 3 zz l,Iv (i:Int),.fn (.func j) [] caps] []=some (.ms 0 0 ((l.getD []).length),false,[.cells cs]):=by
 rw[zd (show pr.fns 241=some c241 from rfl) (by simp)]
 have mkr:qis 0 0 3 32 [(.str []),(Iv 0),(Iv 0)] [.hole] (some (Lv l)) (some (Lv l))=some ⟨.ms 0 0 (l.getD []).length,false,none,[.cells (cellsOf (List.replicate (l.getD []).length [(.str []),(Iv 0),(Iv 0)]).flatten)]⟩:=by z8 qh2<;>first|exact hlen|rfl|decide
 have cpy:qjs 1 none 3 [.cells (cellsOf (List.replicate (l.getD []).length [(.str []),(Iv 0),(Iv 0)]).flatten)] (some (.ms 0 0 (l.getD []).length)) (some (sl 3 zz l))=some ⟨Lv l,false,none,[.cells (rcl zz (l.getD []))]⟩:=qfn E_sii rfl (by simp[cellsOf]) rfl
 simp only[go_sem,seval,c241,mkr,cpy,qdz hi,hcl]<;>rfl
theorem jy6{y:qk} {j:Nat} {caps:List qa} {l:Option (List qk)} {i:Nat} {cs:List (qa×Bool)} (hlen:(l.getD []).length≤1073741824) (hi:i<(l.getD []).length) (hcl:zf pr (X pr) j (.ptr 0 (i*3)::caps) [.cells (rcl zz (l.getD []))]=some (.tup [],false,[.cells cs])) (hcs:cs.map (·.1)=yw zz ((l.getD []).set i y)):jy pr (X pr) 241 [sl 3 zz l,Iv (i:Int),.fn (.func j) [] caps]=some (sl 3 zz (some ((l.getD []).set i y)),false):=by
 have hl:((l.getD []).set i y).length=(l.getD []).length:=List.length_set
 have hz:freezeR [.cells cs] (.ms 0 0 ((l.getD []).length))=some (sl 3 zz (some ((l.getD []).set i y))):=by
  rw[qj5,←hl]
  exact qd5 E_sii (by rw[hl];omega) hcs
 exact kq rfl (j99 hlen hi hcl) hz (by first|rfl|simp only[go_sem,seval])
theorem j9r {j:Nat}{caps:List qa}{l:Option (List qm)}{i:Nat}{cs:List (qa×Bool)}(hlen:(l.getD []).length≤1073741824)(hi:i<(l.getD []).length)(hcl:zf pr (X pr) j (.ptr 0 (i*2)::caps) [.cells (rcl vsi (l.getD []))]=some (.tup [],false,[.cells cs])):zf pr (X pr) 248 [sl 2 vsi l,Iv (i:Int),.fn (.func j) [] caps] []=some (.ms 0 0 ((l.getD []).length),false,[.cells cs]):=by
 rw[zd (show pr.fns 248=some c248 from rfl) (by simp)]
 have mkr:qis 0 0 2 24 [(.str []),(Iv 0)] [.hole] (some (Lv l)) (some (Lv l))=some ⟨.ms 0 0 (l.getD []).length,false,none,[.cells (cellsOf (List.replicate (l.getD []).length [(.str []),(Iv 0)]).flatten)]⟩:=by z8 qh2<;>first|exact hlen|rfl|decide
 have cpy:qjs 1 none 2 [.cells (cellsOf (List.replicate (l.getD []).length [(.str []),(Iv 0)]).flatten)] (some (.ms 0 0 (l.getD []).length)) (some (sl 2 vsi l))=some ⟨Lv l,false,none,[.cells (rcl vsi (l.getD []))]⟩:=qfn E_si rfl (by simp[cellsOf]) rfl
 simp only[go_sem,seval,c248,mkr,cpy,qdz hi,hcl]<;>rfl
theorem j6a{y:qm} {j:Nat} {caps:List qa} {l:Option (List qm)} {i:Nat} {cs:List (qa×Bool)} (hlen:(l.getD []).length≤1073741824) (hi:i<(l.getD []).length) (hcl:zf pr (X pr) j (.ptr 0 (i*2)::caps) [.cells (rcl vsi (l.getD []))]=some (.tup [],false,[.cells cs])) (hcs:cs.map (·.1)=yw vsi ((l.getD []).set i y)):jy pr (X pr) 248 [sl 2 vsi l,Iv (i:Int),.fn (.func j) [] caps]=some (sl 2 vsi (some ((l.getD []).set i y)),false):=by
 have hl:((l.getD []).set i y).length=(l.getD []).length:=List.length_set
 have hz:freezeR [.cells cs] (.ms 0 0 ((l.getD []).length))=some (sl 2 vsi (some ((l.getD []).set i y))):=by
  rw[qj5,←hl]
  exact qd5 E_si (by rw[hl];omega) hcs
 exact kq rfl (j9r hlen hi hcl) hz (by first|rfl|simp only[go_sem,seval])
end Go.Z
namespace Go.Z
open Go Go.Abs Go.W
def chO {α:Type}(l:Option (List α))(i:Int)(g:α→Option α):Option (Option (List α)):=
 if(l.getD []).length≤1073741824∧0≤i then(match(l.getD [])[i.toNat]? with
  |some x=>(match g x with
   |some y=>some (some ((l.getD []).set i.toNat y))
   |none=>none)
  |none=>none)else none
theorem qfy {α:Type}{l:Option (List α)}{i:Int}{g:α→Option α}{r}(h:chO l i g=some r):∃(n:Nat) (x y:α),i=(n:Int)∧(l.getD []).length≤1073741824∧(l.getD [])[n]?=some x∧g x=some y∧r=some ((l.getD []).set n y):=by
 unfold chO at h
 split at h
 ·rename_i hc
  split at h
  ·rename_i x hx
   split at h
   ·rename_i y hy
    cases h
    exact⟨i.toNat,x,y,(Int.toNat_of_nonneg hc.2).symm,hc.1,hx,hy,rfl⟩
   ·cases h
  ·cases h
 ·cases h
theorem q8y {l r:Option (List qi)}{i:Int}{g:qi→Option qi}{j:Nat}{caps:List qa}(hcl:∀(n:Nat) (x y:qi),(l.getD [])[n]?=some x→g x=some y→∃cs,zf pr (X pr) j (.ptr 0 (n*4)::caps) [.cells (rcl zr (l.getD []))]=some (.tup [],false,[.cells cs])∧cs.map (·.1)=yw zr ((l.getD []).set n y))(h:chO l i g=some r):jy pr (X pr) 178 [sl 4 zr l,Iv i,.fn (.func j) [] caps]=some (sl 4 zr r,false):=by
 obtain⟨n,x,y,rfl,hl,hx,hy,rfl⟩:=qfy h
 obtain⟨cs,h1,h2⟩:=hcl n x y hx hy
 exact j3i hl (List.getElem?_eq_some_iff.1 hx).1 h1 h2
theorem q8k {l r:Option (List qj)}{i:Int}{g:qj→Option qj}{j:Nat}{caps:List qa}(hcl:∀(n:Nat) (x y:qj),(l.getD [])[n]?=some x→g x=some y→∃cs,zf pr (X pr) j (.ptr 0 (n*5)::caps) [.cells (rcl z7 (l.getD []))]=some (.tup [],false,[.cells cs])∧cs.map (·.1)=yw z7 ((l.getD []).set n y))(h:chO l i g=some r):jy pr (X pr) 185 [sl 5 z7 l,Iv i,.fn (.func j) [] caps]=some (sl 5 z7 r,false):=by
 obtain⟨n,x,y,rfl,hl,hx,hy,rfl⟩:=qfy h
 obtain⟨cs,h1,h2⟩:=hcl n x y hx hy
 exact jw0 hl (List.getElem?_eq_some_iff.1 hx).1 h1 h2
theorem qtg {l r:Option (List qf)}{i:Int}{g:qf→Option qf}{j:Nat}{caps:List qa}(hcl:∀(n:Nat) (x y:qf),(l.getD [])[n]?=some x→g x=some y→∃cs,zf pr (X pr) j (.ptr 0 (n*8)::caps) [.cells (rcl vun (l.getD []))]=some (.tup [],false,[.cells cs])∧cs.map (·.1)=yw vun ((l.getD []).set n y))(h:chO l i g=some r):jy pr (X pr) 189 [sl 8 vun l,Iv i,.fn (.func j) [] caps]=some (sl 8 vun r,false):=by
 obtain⟨n,x,y,rfl,hl,hx,hy,rfl⟩:=qfy h
 obtain⟨cs,h1,h2⟩:=hcl n x y hx hy
 exact j5j hl (List.getElem?_eq_some_iff.1 hx).1 h1 h2
theorem j3d {l r:Option (List qm)}{i:Int}{g:qm→Option qm}{j:Nat}{caps:List qa}(hcl:∀(n:Nat) (x y:qm),(l.getD [])[n]?=some x→g x=some y→∃cs,zf pr (X pr) j (.ptr 0 (n*2)::caps) [.cells (rcl vsi (l.getD []))]=some (.tup [],false,[.cells cs])∧cs.map (·.1)=yw vsi ((l.getD []).set n y))(h:chO l i g=some r):jy pr (X pr) 237 [sl 2 vsi l,Iv i,.fn (.func j) [] caps]=some (sl 2 vsi r,false):=by
 obtain⟨n,x,y,rfl,hl,hx,hy,rfl⟩:=qfy h
 obtain⟨cs,h1,h2⟩:=hcl n x y hx hy
 exact j0r hl (List.getElem?_eq_some_iff.1 hx).1 h1 h2
theorem j2s {l r:Option (List qk)}{i:Int}{g:qk→Option qk}{j:Nat}{caps:List qa}(hcl:∀(n:Nat) (x y:qk),(l.getD [])[n]?=some x→g x=some y→∃cs,zf pr (X pr) j (.ptr 0 (n*3)::caps) [.cells (rcl zz (l.getD []))]=some (.tup [],false,[.cells cs])∧cs.map (·.1)=yw zz ((l.getD []).set n y))(h:chO l i g=some r):jy pr (X pr) 241 [sl 3 zz l,Iv i,.fn (.func j) [] caps]=some (sl 3 zz r,false):=by
 obtain⟨n,x,y,rfl,hl,hx,hy,rfl⟩:=qfy h
 obtain⟨cs,h1,h2⟩:=hcl n x y hx hy
 exact jy6 hl (List.getElem?_eq_some_iff.1 hx).1 h1 h2
theorem jvz {l r:Option (List qm)}{i:Int}{g:qm→Option qm}{j:Nat}{caps:List qa}(hcl:∀(n:Nat) (x y:qm),(l.getD [])[n]?=some x→g x=some y→∃cs,zf pr (X pr) j (.ptr 0 (n*2)::caps) [.cells (rcl vsi (l.getD []))]=some (.tup [],false,[.cells cs])∧cs.map (·.1)=yw vsi ((l.getD []).set n y))(h:chO l i g=some r):jy pr (X pr) 248 [sl 2 vsi l,Iv i,.fn (.func j) [] caps]=some (sl 2 vsi r,false):=by
 obtain⟨n,x,y,rfl,hl,hx,hy,rfl⟩:=qfy h
 obtain⟨cs,h1,h2⟩:=hcl n x y hx hy
 exact j6a hl (List.getElem?_eq_some_iff.1 hx).1 h1 h2
theorem j90 {l:List qj}{i:Nat}{x:qj}(hx:l[i]?=some x):zf pr (X pr) 198 [.ptr 0 (i*5)] [.cells (rcl z7 l)]=some (.tup [],false,[.cells (rcl z7 (l.set i { x with held:=true }))]):=by
 rw[zd (show pr.fns 198=some c198 from rfl) (by simp)]
 have st:yj (rcl z7 l) (i*5+4) [.bool true]=some (rcl z7 (l.set i { x with held:=true })):=qc1 (o:=4) E_lot.len hx (Nat.le_of_ble_eq_true rfl) rfl rfl
 simp only[go_sem,seval,c198,st]<;>rfl
def ji6 (l:Option (List qj))(i:Int):Option (Option (List qj)):=chO l i fun x=>some { x with held:=true }
theorem jeq {l:Option (List qj)}{i:Int}{r}(h:ji6 l i=some r):jy pr (X pr) 185 [sl 5 z7 l,Iv i,.fn (.func 198) [] []]=some (sl 5 z7 r,false):=
 q8k (fun n x y hx hy=>by cases hy;exact⟨_,j90 hx,kw⟩) h
theorem zd2 {l:List qj}{i:Nat}{x:qj}(hx:l[i]?=some x):zf pr (X pr) 199 [.ptr 0 (i*5)] [.cells (rcl z7 l)]=some (.tup [],false,[.cells (rcl z7 (l.set i { x with held:=false }))]):=by
 rw[zd (show pr.fns 199=some c199 from rfl) (by simp)]
 have st:yj (rcl z7 l) (i*5+4) [.bool false]=some (rcl z7 (l.set i { x with held:=false })):=qc1 (o:=4) E_lot.len hx (Nat.le_of_ble_eq_true rfl) rfl rfl
 simp only[go_sem,seval,c199,st]<;>rfl
def jfo (l:Option (List qj))(i:Int):Option (Option (List qj)):=chO l i fun x=>some { x with held:=false }
theorem jfe {l:Option (List qj)}{i:Int}{r}(h:jfo l i=some r):jy pr (X pr) 185 [sl 5 z7 l,Iv i,.fn (.func 199) [] []]=some (sl 5 z7 r,false):=
 q8k (fun n x y hx hy=>by cases hy;exact⟨_,zd2 hx,kw⟩) h
theorem j9p {l:List qf}{i:Nat}{x:qf}(hx:l[i]?=some x):zf pr (X pr) 200 [.ptr 0 (i*8)] [.cells (rcl vun l)]=some (.tup [],false,[.cells (rcl vun (l.set i { x with shipped:=true }))]):=by
 rw[zd (show pr.fns 200=some c200 from rfl) (by simp)]
 have st:yj (rcl vun l) (i*8+6) [.bool true]=some (rcl vun (l.set i { x with shipped:=true })):=qc1 (o:=6) E_un.len hx (Nat.le_of_ble_eq_true rfl) rfl rfl
 simp only[go_sem,seval,c200,st]<;>rfl
def jhc (l:Option (List qf))(i:Int):Option (Option (List qf)):=chO l i fun x=>some { x with shipped:=true }
theorem jfd {l:Option (List qf)}{i:Int}{r}(h:jhc l i=some r):jy pr (X pr) 189 [sl 8 vun l,Iv i,.fn (.func 200) [] []]=some (sl 8 vun r,false):=
 qtg (fun n x y hx hy=>by cases hy;exact⟨_,j9p hx,kw⟩) h
theorem zhu {l:List qf}{i:Nat}{x:qf}(hx:l[i]?=some x):zf pr (X pr) 201 [.ptr 0 (i*8)] [.cells (rcl vun l)]=some (.tup [],false,[.cells (rcl vun (l.set i { x with complaints:=j6 .i64 (x.complaints+1) }))]):=by
 rw[zd (show pr.fns 201=some c201 from rfl) (by simp)]
 have st:yj (rcl vun l) (i*8+7) [Iv (j6 .i64 (x.complaints+1))]=some (rcl vun (l.set i { x with complaints:=j6 .i64 (x.complaints+1) })):=qc1 (o:=7) E_un.len hx (Nat.le_of_ble_eq_true rfl) rfl rfl
 have ld0:y9 (rcl vun l) (i*8+7) 1=some [Iv x.complaints]:=qgh (o:=7) E_un.len hx (by decide)
 simp only[go_sem,seval,c201,st,ld0]<;>rfl
def ji9 (l:Option (List qf))(i:Int):Option (Option (List qf)):=chO l i fun x=>some { x with complaints:=j6 .i64 (x.complaints+1) }
theorem jfz {l:Option (List qf)}{i:Int}{r}(h:ji9 l i=some r):jy pr (X pr) 189 [sl 8 vun l,Iv i,.fn (.func 201) [] []]=some (sl 8 vun r,false):=
 qtg (fun n x y hx hy=>by cases hy;exact⟨_,zhu hx,kw⟩) h
theorem zgq {l:List qf}{i:Nat}{x:qf}{v:Int}(hx:l[i]?=some x):zf pr (X pr) 195 [.ptr 0 (i*8),.vptr (Iv v)] [.cells (rcl vun l)]=some (.tup [],false,[.cells (rcl vun (l.set i { x with version:=v }))]):=by
 rw[zd (show pr.fns 195=some c195 from rfl) (by simp)]
 have st:yj (rcl vun l) (i*8+2) [Iv v]=some (rcl vun (l.set i { x with version:=v })):=qc1 (o:=2) E_un.len hx (Nat.le_of_ble_eq_true rfl) rfl rfl
 simp only[go_sem,seval,c195,st]<;>rfl
def ji1 (l:Option (List qf))(i:Int)(v:Int):Option (Option (List qf)):=chO l i fun x=>some { x with version:=v }
theorem jfm {l:Option (List qf)}{i:Int}{v:Int}{r}(h:ji1 l i v=some r):jy pr (X pr) 189 [sl 8 vun l,Iv i,.fn (.func 195) [] [.vptr (Iv v)]]=some (sl 8 vun r,false):=
 qtg (fun n x y hx hy=>by cases hy;exact⟨_,zgq hx,kw⟩) h
theorem zg1 {l:List qf}{i:Nat}{x:qf}{b:qf}(hx:l[i]?=some x):zf pr (X pr) 196 [.ptr 0 (i*8),.vptr (vun b)] [.cells (rcl vun l)]=some (.tup [],false,[.cells (rcl vun (l.set i { x with partner:=b.name }))]):=by
 rw[zd (show pr.fns 196=some c196 from rfl) (by simp)]
 have st:yj (rcl vun l) (i*8+5) [.str b.name]=some (rcl vun (l.set i { x with partner:=b.name })):=qc1 (o:=5) E_un.len hx (Nat.le_of_ble_eq_true rfl) rfl rfl
 simp only[go_sem,seval,c196,st,vun]<;>rfl
def qmb (l:Option (List qf))(i:Int)(b:qf):Option (Option (List qf)):=chO l i fun x=>some { x with partner:=b.name }
theorem jgq {l:Option (List qf)}{i:Int}{b:qf}{r}(h:qmb l i b=some r):jy pr (X pr) 189 [sl 8 vun l,Iv i,.fn (.func 196) [] [.vptr (vun b)]]=some (sl 8 vun r,false):=
 qtg (fun n x y hx hy=>by cases hy;exact⟨_,zg1 hx,kw⟩) h
theorem zfm {l:List qf}{i:Nat}{x:qf}{b:qf}(hx:l[i]?=some x):zf pr (X pr) 197 [.ptr 0 (i*8),.vptr (vun b)] [.cells (rcl vun l)]=some (.tup [],false,[.cells (rcl vun (l.set i { x with partner:=b.name }))]):=by
 rw[zd (show pr.fns 197=some c197 from rfl) (by simp)]
 have st:yj (rcl vun l) (i*8+5) [.str b.name]=some (rcl vun (l.set i { x with partner:=b.name })):=qc1 (o:=5) E_un.len hx (Nat.le_of_ble_eq_true rfl) rfl rfl
 simp only[go_sem,seval,c197,st,vun]<;>rfl
def qmj (l:Option (List qf))(i:Int)(b:qf):Option (Option (List qf)):=chO l i fun x=>some { x with partner:=b.name }
theorem jey {l:Option (List qf)}{i:Int}{b:qf}{r}(h:qmj l i b=some r):jy pr (X pr) 189 [sl 8 vun l,Iv i,.fn (.func 197) [] [.vptr (vun b)]]=some (sl 8 vun r,false):=
 qtg (fun n x y hx hy=>by cases hy;exact⟨_,zfm hx,kw⟩) h
theorem zf1 {l:List qj}{i:Nat}{x:qj}{v:Int}(hx:l[i]?=some x):zf pr (X pr) 186 [.ptr 0 (i*5),.vptr (Iv v)] [.cells (rcl z7 l)]=some (.tup [],false,[.cells (rcl z7 (l.set i { x with left:=j6 .i64 (x.left-v) }))]):=by
 rw[zd (show pr.fns 186=some c186 from rfl) (by simp)]
 have st:yj (rcl z7 l) (i*5+3) [Iv (j6 .i64 (x.left-v))]=some (rcl z7 (l.set i { x with left:=j6 .i64 (x.left-v) })):=qc1 (o:=3) E_lot.len hx (Nat.le_of_ble_eq_true rfl) rfl rfl
 have ld0:y9 (rcl z7 l) (i*5+3) 1=some [Iv x.left]:=qgh (o:=3) E_lot.len hx (by decide)
 simp only[go_sem,seval,c186,st,ld0]<;>rfl
def jg4 (l:Option (List qj))(i:Int)(v:Int):Option (Option (List qj)):=chO l i fun x=>some { x with left:=j6 .i64 (x.left-v) }
theorem jdj {l:Option (List qj)}{i:Int}{v:Int}{r}(h:jg4 l i v=some r):jy pr (X pr) 185 [sl 5 z7 l,Iv i,.fn (.func 186) [] [.vptr (Iv v)]]=some (sl 5 z7 r,false):=
 q8k (fun n x y hx hy=>by cases hy;exact⟨_,zf1 hx,kw⟩) h
theorem zd8 {l:List qm}{i:Nat}{x:qm}{b:qm}(hx:l[i]?=some x):zf pr (X pr) 238 [.ptr 0 (i*2),.vptr (vsi b)] [.cells (rcl vsi l)]=some (.tup [],false,[.cells (rcl vsi (l.set i b))]):=by
 rw[zd (show pr.fns 238=some c238 from rfl) (by simp)]
 have st:yj (rcl vsi l) (i*2) [.str b.k,Iv b.n]=some (rcl vsi (l.set i b)):=qc1 (o:=0) E_si.len hx (Nat.le_of_ble_eq_true rfl) rfl rfl
 simp only[go_sem,seval,c238,st,vsi]<;>rfl
def jov (l:Option (List qm))(i:Int)(b:qm):Option (Option (List qm)):=chO l i fun x=>some b
theorem jdx {l:Option (List qm)}{i:Int}{b:qm}{r}(h:jov l i b=some r):jy pr (X pr) 237 [sl 2 vsi l,Iv i,.fn (.func 238) [] [.vptr (vsi b)]]=some (sl 2 vsi r,false):=
 j3d (fun n x y hx hy=>by cases hy;exact⟨_,zd8 hx,kw⟩) h
theorem zdh {l:List qk}{i:Nat}{x:qk}{b:qk}(hx:l[i]?=some x):zf pr (X pr) 242 [.ptr 0 (i*3),.vptr (zz b)] [.cells (rcl zz l)]=some (.tup [],false,[.cells (rcl zz (l.set i b))]):=by
 rw[zd (show pr.fns 242=some c242 from rfl) (by simp)]
 have st:yj (rcl zz l) (i*3) [.str b.k,Iv b.a,Iv b.b]=some (rcl zz (l.set i b)):=qc1 (o:=0) E_sii.len hx (Nat.le_of_ble_eq_true rfl) rfl rfl
 simp only[go_sem,seval,c242,st,zz]<;>rfl
def job (l:Option (List qk))(i:Int)(b:qk):Option (Option (List qk)):=chO l i fun x=>some b
theorem jdu {l:Option (List qk)}{i:Int}{b:qk}{r}(h:job l i b=some r):jy pr (X pr) 241 [sl 3 zz l,Iv i,.fn (.func 242) [] [.vptr (zz b)]]=some (sl 3 zz r,false):=
 j2s (fun n x y hx hy=>by cases hy;exact⟨_,zdh hx,kw⟩) h
theorem zaf {l:List qm}{i:Nat}{x:qm}{b:qm}(hx:l[i]?=some x):zf pr (X pr) 249 [.ptr 0 (i*2),.vptr (vsi b)] [.cells (rcl vsi l)]=some (.tup [],false,[.cells (rcl vsi (l.set i b))]):=by
 rw[zd (show pr.fns 249=some c249 from rfl) (by simp)]
 have st:yj (rcl vsi l) (i*2) [.str b.k,Iv b.n]=some (rcl vsi (l.set i b)):=qc1 (o:=0) E_si.len hx (Nat.le_of_ble_eq_true rfl) rfl rfl
 simp only[go_sem,seval,c249,st,vsi]<;>rfl
def jri (l:Option (List qm))(i:Int)(b:qm):Option (Option (List qm)):=chO l i fun x=>some b
theorem je6 {l:Option (List qm)}{i:Int}{b:qm}{r}(h:jri l i b=some r):jy pr (X pr) 248 [sl 2 vsi l,Iv i,.fn (.func 249) [] [.vptr (vsi b)]]=some (sl 2 vsi r,false):=
 jvz (fun n x y hx hy=>by cases hy;exact⟨_,zaf hx,kw⟩) h
end Go.Z
namespace Go.Z
open Go Go.Abs Go.W
def f167 (a0:qm)(a1:List UInt8):Option Bool:=
 some (decide (a0.k=a1))
theorem jia (hp:j8){a0:qm}{a1:List UInt8}{r}(h:f167 a0 a1=some r):zf pr (X pr) 167 [aN a0,.vptr (.str a1)] hp=some (.bool r,false,hp):=by
 unfold f167 at h
 have hr:decide (a0.k=a1)=r:=Option.some.inj h
 subst hr
 rw[zd (show pr.fns 167=some c167 from rfl) (by simp)]
 simp only[go_sem,seval,c167]<;>rfl
def qti (a0:Option (List qm))(a1c0:List UInt8)(s0:Int):Option (Int⊕(Int⊕Int)):=
 cond (decide (s0<((a0.getD []).length:Int)))
  (jw (zo (a0.getD []) s0) fun v14=>
  jw (f167 v14 a1c0) fun v16=>
  cond v16
   (some (.inr (.inl s0)))
   (some (.inl (j6 .i64 (s0+1)))))
  (some (.inr (.inr s0)))
def qle (a0:Option (List qm))(a1c0:List UInt8)(hp:j8)(s0:Int):qg:=⟨[(0,sl 2 vsi a0,false),(1,.fn (.func 167) [] [.vptr (.str a1c0)],false),(7,Lv a0,false),(8,Iv s0,false)],hp⟩
def qlc (a0:Option (List qm))(a1c0:List UInt8)(hp:j8):Int⊕Int→qo×qg
 | .inl d=>(.ret,⟨[(4,Iv d,false)],hp⟩)
 | .inr d=>(.exit 0,⟨[(0,sl 2 vsi a0,false),(1,.fn (.func 167) [] [.vptr (.str a1c0)],false),(7,Lv a0,false),(8,Iv d,false),(9,.bool false,false)],hp⟩)
theorem jku (a0:Option (List qm))(a1c0:List UInt8)(hp:j8)(s0:Int)(r)(h:qti a0 a1c0 s0=some r):yq pr qck (qle a0 a1c0 hp) (qlc a0 a1c0 hp) s0 r:=by
 unfold qti at h
 repeat' first|(replace h:=jx h;obtain⟨d,g,h⟩:=h;with_reducible first|replace g:=jia hp g|skip)|(replace h:=jz h;rcases h with⟨g,h⟩|⟨g,h⟩)|fail
 all_goals (cases h<;>(first|(refine zw ?_;simp only[go_sem,seval,qck,qle,zn,qlc,*]<;>rfl)|(refine yl ?_;simp only[go_sem,seval,qck,qle,zn,qlc,*]<;>rfl)))
theorem jk0 (a0:Option (List qm))(a1c0:List UInt8)(hp:j8){s0:Int}{d}(h:itO (qti a0 a1c0) s0=some d):X pr (.loop qck) (qle a0 a1c0 hp s0)=some (qlc a0 a1c0 hp d):=y8 (jku a0 a1c0 hp) (fun d=>by rcases d with d|d<;>(intro hh;cases hh)) h
def qwq (a0:Option (List qm))(a1c0:List UInt8):Option Int:=
 jw (itO (qti a0 a1c0) 0) fun d19=>match d19 with
  | .inl d21=>
   some d21
  | .inr d22=>
   some (-1)
theorem jx7 (hp:j8){a0:Option (List qm)}{a1c0:List UInt8}{r}(h:qwq a0 a1c0=some r):zf pr (X pr) 235 [sl 2 vsi a0,.fn (.func 167) [] [.vptr (.str a1c0)]] hp=some (Iv r,false,hp):=by
 unfold qwq at h
 rw[zd (show pr.fns 235=some c235 from rfl) (by simp)]
 repeat' first|(replace h:=jx h;obtain⟨d,g,h⟩:=h;with_reducible first|(replace g:=jk0 a0 a1c0 hp g;rcases d with d|d<;>dsimp only[qle,qlc,kc]at g h)|skip)|(replace h:=jz h;rcases h with⟨g,h⟩|⟨g,h⟩)|fail
 all_goals (cases h<;>(simp only[go_sem,seval,c235,*]<;>rfl))
def qtc (a0:Option (List qm))(a1c0:List UInt8)(s0:Int):Option (Int⊕(Int⊕Int)):=
 cond (decide (s0<((a0.getD []).length:Int)))
  (jw (zo (a0.getD []) s0) fun v14=>
  jw (f167 v14 a1c0) fun v16=>
  cond v16
   (some (.inr (.inl s0)))
   (some (.inl (j6 .i64 (s0+1)))))
  (some (.inr (.inr s0)))
def qkg (a0:Option (List qm))(a1c0:List UInt8)(s0:Int):qg:=⟨[(0,sl 2 vsi a0,false),(1,.fn (.func 167) [] [.vptr (.str a1c0)],false),(7,Lv a0,false),(8,Iv s0,false)],[]⟩
def qli (a0:Option (List qm))(a1c0:List UInt8):Int⊕Int→qo×qg
 | .inl d=>(.ret,⟨[(4,Iv d,false)],[]⟩)
 | .inr d=>(.exit 0,⟨[(0,sl 2 vsi a0,false),(1,.fn (.func 167) [] [.vptr (.str a1c0)],false),(7,Lv a0,false),(8,Iv d,false),(9,.bool false,false)],[]⟩)
theorem jm3 (a0:Option (List qm))(a1c0:List UInt8)(s0:Int)(r)(h:qtc a0 a1c0 s0=some r):yq pr qck (qkg a0 a1c0) (qli a0 a1c0) s0 r:=by
 unfold qtc at h
 repeat' first|(replace h:=jx h;obtain⟨d,g,h⟩:=h;with_reducible first|replace g:=jia [] g|skip)|(replace h:=jz h;rcases h with⟨g,h⟩|⟨g,h⟩)|fail
 all_goals (cases h<;>(first|(refine zw ?_;simp only[go_sem,seval,qck,qkg,zn,qli,*]<;>rfl)|(refine yl ?_;simp only[go_sem,seval,qck,qkg,zn,qli,*]<;>rfl)))
theorem jl6 (a0:Option (List qm))(a1c0:List UInt8){s0:Int}{d}(h:itO (qtc a0 a1c0) s0=some d):X pr (.loop qck) (qkg a0 a1c0 s0)=some (qli a0 a1c0 d):=y8 (jm3 a0 a1c0) (fun d=>by rcases d with d|d<;>(intro hh;cases hh)) h
def qxr (a0:Option (List qm))(a1c0:List UInt8):Option Int:=
 jw (itO (qtc a0 a1c0) 0) fun d19=>match d19 with
  | .inl d21=>
   some d21
  | .inr d22=>
   some (-1)
theorem jy1 {a0:Option (List qm)}{a1c0:List UInt8}{r}(h:qxr a0 a1c0=some r):jy pr (X pr) 235 [sl 2 vsi a0,.fn (.func 167) [] [.vptr (.str a1c0)]]=some (Iv r,false):=by
 unfold qxr at h
 refine y7 c235 ?_
 repeat' first|(replace h:=jx h;obtain⟨d,g,h⟩:=h;with_reducible first|(replace g:=jl6 a0 a1c0 g;rcases d with d|d<;>dsimp only[qkg,qli,kc]at g h)|skip)|(replace h:=jz h;rcases h with⟨g,h⟩|⟨g,h⟩)|fail
 all_goals (cases h<;>(simp only[go_sem,seval,c235,*];exact⟨_,rfl⟩))
def qw7 (a0:Option (List qm))(a1c0:List UInt8):Option Bool:=
 jw (qwq a0 a1c0) fun v1=>
 some (decide (0≤v1))
theorem j4t {a0:Option (List qm)}{a1c0:List UInt8}{r}(h:qw7 a0 a1c0=some r):jy pr (X pr) 168 [sl 2 vsi a0,.fn (.func 167) [] [.vptr (.str a1c0)]]=some (.bool r,false):=by
 unfold qw7 at h
 refine y7 c168 ?_
 repeat' first|(replace h:=jx h;obtain⟨d,g,h⟩:=h;with_reducible first|replace g:=jx7 [] g|skip)|(replace h:=jz h;rcases h with⟨g,h⟩|⟨g,h⟩)|fail
 all_goals (cases h<;>(simp only[go_sem,seval,c168,*];exact⟨_,rfl⟩))
def f184 (a0:qm)(a1:qj):Option Bool:=
 some (decide (a0.k=a1.kind))
theorem zau (hp:j8){a0:qm}{a1:qj}{r}(h:f184 a0 a1=some r):zf pr (X pr) 184 [aN a0,.vptr (aL a1)] hp=some (.bool r,false,hp):=by
 unfold f184 at h
 have hr:decide (a0.k=a1.kind)=r:=Option.some.inj h
 subst hr
 rw[zd (show pr.fns 184=some c184 from rfl) (by simp)]
 simp only[go_sem,seval,c184]<;>rfl
def qtn (a0:Option (List qm))(a1c0:qj)(s0:Int):Option (Int⊕(Int⊕Int)):=
 cond (decide (s0<((a0.getD []).length:Int)))
  (jw (zo (a0.getD []) s0) fun v14=>
  jw (f184 v14 a1c0) fun v16=>
  cond v16
   (some (.inr (.inl s0)))
   (some (.inl (j6 .i64 (s0+1)))))
  (some (.inr (.inr s0)))
def qkm (a0:Option (List qm))(a1c0:qj)(hp:j8)(s0:Int):qg:=⟨[(0,sl 2 vsi a0,false),(1,.fn (.func 184) [] [.vptr (aL a1c0)],false),(7,Lv a0,false),(8,Iv s0,false)],hp⟩
def qkw (a0:Option (List qm))(a1c0:qj)(hp:j8):Int⊕Int→qo×qg
 | .inl d=>(.ret,⟨[(4,Iv d,false)],hp⟩)
 | .inr d=>(.exit 0,⟨[(0,sl 2 vsi a0,false),(1,.fn (.func 184) [] [.vptr (aL a1c0)],false),(7,Lv a0,false),(8,Iv d,false),(9,.bool false,false)],hp⟩)
theorem jmy (a0:Option (List qm))(a1c0:qj)(hp:j8)(s0:Int)(r)(h:qtn a0 a1c0 s0=some r):yq pr qck (qkm a0 a1c0 hp) (qkw a0 a1c0 hp) s0 r:=by
 unfold qtn at h
 repeat' first|(replace h:=jx h;obtain⟨d,g,h⟩:=h;with_reducible first|replace g:=zau hp g|skip)|(replace h:=jz h;rcases h with⟨g,h⟩|⟨g,h⟩)|fail
 all_goals (cases h<;>(first|(refine zw ?_;simp only[go_sem,seval,qck,qkm,zn,qkw,*]<;>rfl)|(refine yl ?_;simp only[go_sem,seval,qck,qkm,zn,qkw,*]<;>rfl)))
theorem jkr (a0:Option (List qm))(a1c0:qj)(hp:j8){s0:Int}{d}(h:itO (qtn a0 a1c0) s0=some d):X pr (.loop qck) (qkm a0 a1c0 hp s0)=some (qkw a0 a1c0 hp d):=y8 (jmy a0 a1c0 hp) (fun d=>by rcases d with d|d<;>(intro hh;cases hh)) h
def qx9 (a0:Option (List qm))(a1c0:qj):Option Int:=
 jw (itO (qtn a0 a1c0) 0) fun d19=>match d19 with
  | .inl d21=>
   some d21
  | .inr d22=>
   some (-1)
theorem j2k (hp:j8){a0:Option (List qm)}{a1c0:qj}{r}(h:qx9 a0 a1c0=some r):zf pr (X pr) 235 [sl 2 vsi a0,.fn (.func 184) [] [.vptr (aL a1c0)]] hp=some (Iv r,false,hp):=by
 unfold qx9 at h
 rw[zd (show pr.fns 235=some c235 from rfl) (by simp)]
 repeat' first|(replace h:=jx h;obtain⟨d,g,h⟩:=h;with_reducible first|(replace g:=jkr a0 a1c0 hp g;rcases d with d|d<;>dsimp only[qkm,qkw,kc]at g h)|skip)|(replace h:=jz h;rcases h with⟨g,h⟩|⟨g,h⟩)|fail
 all_goals (cases h<;>(simp only[go_sem,seval,c235,*]<;>rfl))
def qya (a0:Option (List qm))(a1c0:qj):Option Bool:=
 jw (qx9 a0 a1c0) fun v1=>
 some (decide (0≤v1))
theorem j3z {a0:Option (List qm)}{a1c0:qj}{r}(h:qya a0 a1c0=some r):jy pr (X pr) 168 [sl 2 vsi a0,.fn (.func 184) [] [.vptr (aL a1c0)]]=some (.bool r,false):=by
 unfold qya at h
 refine y7 c168 ?_
 repeat' first|(replace h:=jx h;obtain⟨d,g,h⟩:=h;with_reducible first|replace g:=j2k [] g|skip)|(replace h:=jz h;rcases h with⟨g,h⟩|⟨g,h⟩)|fail
 all_goals (cases h<;>(simp only[go_sem,seval,c168,*];exact⟨_,rfl⟩))
def f172 (a0:qm)(a1vc0:List UInt8):Option Bool:=
 jw (f167 a0 a1vc0) fun v1=>
 some (!v1)
theorem j94 (hp:j8){a0:qm}{a1vc0:List UInt8}{r}(h:f172 a0 a1vc0=some r):zf pr (X pr) 172 [aN a0,.vptr (.fn (.func 167) [] [.vptr (.str a1vc0)])] hp=some (.bool r,false,hp):=by
 unfold f172 at h
 obtain⟨v1,h2,h⟩:=jx h
 have wh2:zf pr (X pr) 167 [aN a0,.vptr (.str a1vc0)] hp=some (.bool v1,false,hp):=jia hp h2
 have hr:(!v1)=r:=Option.some.inj h
 subst hr
 rw[zd (show pr.fns 172=some c172 from rfl) (by simp)]
 simp only[go_sem,seval,c172,wh2]<;>rfl
def qq4 (a0:Option (List qm))(a1c0vc0:List UInt8)(s0:(Option (List qm))×Int×Bool):Option (((Option (List qm))×Int×Bool)⊕(((Option (List qm))×Bool×Int))):=
 cond (decide (s0.2.1<((a0.getD []).length:Int)))
  (jw (zo (a0.getD []) s0.2.1) fun v20=>
  jw (f172 v20 a1c0vc0) fun v22=>
  cond v22
   (cond s0.2.2
    (jw (apO s0.1 [v20]) fun v26=>
    some (.inl (v26,j6 .i64 (s0.2.1+1),true)))
    (cond s0.1.isNone
     (jw (apO s0.1 [v20]) fun v29=>
     some (.inl (v29,j6 .i64 (s0.2.1+1),true)))
     (none)))
   (some (.inl (s0.1,j6 .i64 (s0.2.1+1),s0.2.2))))
  (some (.inr (s0.1,s0.2.2,s0.2.1)))
def qnm (a0:Option (List qm))(a1c0vc0:List UInt8)(hp:j8)(s0:(Option (List qm))×Int×Bool):qg:=⟨[(1,.fn (.func 172) [] [.vptr (.fn (.func 167) [] [.vptr (.str a1c0vc0)])],false),(5,sl 2 vsi s0.1,s0.2.2),(8,sl 2 vsi a0,false),(9,Lv a0,false),(10,Iv s0.2.1,false)],hp⟩
def qnr (a0:Option (List qm))(a1c0vc0:List UInt8)(hp:j8)(d:((Option (List qm))×Bool×Int)):qo×qg:=(.exit 0,⟨[(1,.fn (.func 172) [] [.vptr (.fn (.func 167) [] [.vptr (.str a1c0vc0)])],false),(5,sl 2 vsi d.1,d.2.1),(8,sl 2 vsi a0,false),(9,Lv a0,false),(10,Iv d.2.2,false),(11,.bool false,false)],hp⟩)
theorem jpl (a0:Option (List qm))(a1c0vc0:List UInt8)(hp:j8)(s0:(Option (List qm))×Int×Bool)(r)(h:qq4 a0 a1c0vc0 s0=some r):yq pr qry (qnm a0 a1c0vc0 hp) (qnr a0 a1c0vc0 hp) s0 r:=by
 unfold qq4 at h
 repeat' first|(replace h:=jx h;obtain⟨d,g,h⟩:=h;with_reducible first|replace g:=j94 hp g|replace g:=qho g|skip)|(replace h:=jz h;rcases h with⟨g,h⟩|⟨g,h⟩)|fail
 all_goals (cases h<;>(first|(refine zw ?_;simp only[go_sem,seval,qry,qnm,zn,qnr,*]<;>rfl)|(refine yl ?_;simp only[go_sem,seval,qry,qnm,zn,qnr,*]<;>rfl)))
theorem jrt (a0:Option (List qm))(a1c0vc0:List UInt8)(hp:j8){s0:(Option (List qm))×Int×Bool}{d}(h:itO (qq4 a0 a1c0vc0) s0=some d):X pr (.loop qry) (qnm a0 a1c0vc0 hp s0)=some (qnr a0 a1c0vc0 hp d):=y8 (jpl a0 a1c0vc0 hp) (fun d hh=>by cases hh) h
def f171 (a0:Option (List qm))(a1c0vc0:List UInt8):Option ((Option (List qm))×Bool):=
 jw (itO (qq4 a0 a1c0vc0) (none,0,false)) fun d31=>
 some (d31.1,d31.2.1)
theorem zdw (hp:j8){a0:Option (List qm)}{a1c0vc0:List UInt8}{r}(h:f171 a0 a1c0vc0=some r):zf pr (X pr) 171 [sl 2 vsi a0,.fn (.func 172) [] [.vptr (.fn (.func 167) [] [.vptr (.str a1c0vc0)])]] hp=some (sl 2 vsi r.1,r.2,hp):=by
 unfold f171 at h
 rw[zd (show pr.fns 171=some c171 from rfl) (by simp)]
 repeat' first|(replace h:=jx h;obtain⟨d,g,h⟩:=h;with_reducible first|(replace g:=jrt a0 a1c0vc0 hp g;dsimp only[qnm,qnr,kc]at g h)|skip)|(replace h:=jz h;rcases h with⟨g,h⟩|⟨g,h⟩)|fail
 all_goals (cases h<;>(simp only[go_sem,seval,c171,*]<;>rfl))
def f173 (a0:Option (List qm))(a1:qm)(a2c0:List UInt8):Option ((Option (List qm))×Bool):=
 jw (qxr a0 a2c0) fun v1=>
 cond (decide (0≤v1))
  (jw (jov a0 v1 a1) fun v4=>
  some (v4,false))
  (jw (f239 a0 a1) fun v6=>
  some (v6,true))
theorem zfl {a0:Option (List qm)}{a1:qm}{a2c0:List UInt8}{r}(h:f173 a0 a1 a2c0=some r):jy pr (X pr) 173 [sl 2 vsi a0,aN a1,.fn (.func 167) [] [.vptr (.str a2c0)]]=some (sl 2 vsi r.1,r.2):=by
 unfold f173 at h
 refine qa5 c173 ?_
 repeat' first|(replace h:=jx h;obtain⟨d,g,h⟩:=h; (with_reducible first|replace g:=jy1 g|replace g:=jdx g|replace g:=j9u g|skip);try dsimp only[kc,qfs,List.map,kr,qae,z7,zr,vun,yb,vev,vsi,zz,qab,aE,aR,aU,aL,aP,aD]at g)|(replace h:=jz h;rcases h with⟨g,h⟩|⟨g,h⟩)|fail
 all_goals (cases h<;>(simp only[go_sem,seval,c173,*];exact⟨_,rfl⟩))
def f174 (a0:qk)(a1:qk):Option Bool:=
 some (decide (a0.k=a1.k))
theorem zby (hp:j8){a0:qk}{a1:qk}{r}(h:f174 a0 a1=some r):zf pr (X pr) 174 [aT a0,.vptr (aT a1)] hp=some (.bool r,false,hp):=by
 unfold f174 at h
 have hr:decide (a0.k=a1.k)=r:=Option.some.inj h
 subst hr
 rw[zd (show pr.fns 174=some c174 from rfl) (by simp)]
 simp only[go_sem,seval,c174]<;>rfl
def qtr (a0:Option (List qk))(a1c0:qk)(s0:Int):Option (Int⊕(Int⊕Int)):=
 cond (decide (s0<((a0.getD []).length:Int)))
  (jw (zo (a0.getD []) s0) fun v14=>
  jw (f174 v14 a1c0) fun v16=>
  cond v16
   (some (.inr (.inl s0)))
   (some (.inl (j6 .i64 (s0+1)))))
  (some (.inr (.inr s0)))
def qkb (a0:Option (List qk))(a1c0:qk)(s0:Int):qg:=⟨[(0,sl 3 zz a0,false),(1,.fn (.func 174) [] [.vptr (aT a1c0)],false),(7,Lv a0,false),(8,Iv s0,false)],[]⟩
def qlh (a0:Option (List qk))(a1c0:qk):Int⊕Int→qo×qg
 | .inl d=>(.ret,⟨[(4,Iv d,false)],[]⟩)
 | .inr d=>(.exit 0,⟨[(0,sl 3 zz a0,false),(1,.fn (.func 174) [] [.vptr (aT a1c0)],false),(7,Lv a0,false),(8,Iv d,false),(9,.bool false,false)],[]⟩)
theorem jli (a0:Option (List qk))(a1c0:qk)(s0:Int)(r)(h:qtr a0 a1c0 s0=some r):yq pr qhd (qkb a0 a1c0) (qlh a0 a1c0) s0 r:=by
 unfold qtr at h
 repeat' first|(replace h:=jx h;obtain⟨d,g,h⟩:=h;with_reducible first|replace g:=zby [] g|skip)|(replace h:=jz h;rcases h with⟨g,h⟩|⟨g,h⟩)|fail
 all_goals (cases h<;>(first|(refine zw ?_;simp only[go_sem,seval,qhd,qkb,zn,qlh,*]<;>rfl)|(refine yl ?_;simp only[go_sem,seval,qhd,qkb,zn,qlh,*]<;>rfl)))
theorem jlu (a0:Option (List qk))(a1c0:qk){s0:Int}{d}(h:itO (qtr a0 a1c0) s0=some d):X pr (.loop qhd) (qkb a0 a1c0 s0)=some (qlh a0 a1c0 d):=y8 (jli a0 a1c0) (fun d=>by rcases d with d|d<;>(intro hh;cases hh)) h
def qlr (a0:Option (List qk))(a1c0:qk):Option Int:=
 jw (itO (qtr a0 a1c0) 0) fun d19=>match d19 with
  | .inl d21=>
   some d21
  | .inr d22=>
   some (-1)
theorem jka {a0:Option (List qk)}{a1c0:qk}{r}(h:qlr a0 a1c0=some r):jy pr (X pr) 240 [sl 3 zz a0,.fn (.func 174) [] [.vptr (aT a1c0)]]=some (Iv r,false):=by
 unfold qlr at h
 refine y7 c240 ?_
 repeat' first|(replace h:=jx h;obtain⟨d,g,h⟩:=h;with_reducible first|(replace g:=jlu a0 a1c0 g;rcases d with d|d<;>dsimp only[qkb,qlh,kc]at g h)|skip)|(replace h:=jz h;rcases h with⟨g,h⟩|⟨g,h⟩)|fail
 all_goals (cases h<;>(simp only[go_sem,seval,c240,*];exact⟨_,rfl⟩))
def qws (a0:Option (List qk))(a1c0:qk):Option Bool:=
 jw (qlr a0 a1c0) fun v1=>
 some (decide (0≤v1))
theorem jzf {a0:Option (List qk)}{a1c0:qk}{r}(h:qws a0 a1c0=some r):jy pr (X pr) 175 [sl 3 zz a0,.fn (.func 174) [] [.vptr (aT a1c0)]]=some (.bool r,false):=by
 unfold qws at h
 refine y7 c175 ?_
 repeat' first|(replace h:=jx h;obtain⟨d,g,h⟩:=h;with_reducible first|replace g:=jka g|skip)|(replace h:=jz h;rcases h with⟨g,h⟩|⟨g,h⟩)|fail
 all_goals (cases h<;>(simp only[go_sem,seval,c175,*];exact⟨_,rfl⟩))
def f177 (a0:Option (List qk))(a1:qk)(a2c0:qk):Option ((Option (List qk))×Bool):=
 jw (qlr a0 a2c0) fun v1=>
 cond (decide (0≤v1))
  (jw (job a0 v1 a1) fun v4=>
  some (v4,false))
  (jw (f243 a0 a1) fun v6=>
  some (v6,true))
theorem zcd {a0:Option (List qk)}{a1:qk}{a2c0:qk}{r}(h:f177 a0 a1 a2c0=some r):jy pr (X pr) 177 [sl 3 zz a0,aT a1,.fn (.func 174) [] [.vptr (aT a2c0)]]=some (sl 3 zz r.1,r.2):=by
 unfold f177 at h
 refine qa5 c177 ?_
 repeat' first|(replace h:=jx h;obtain⟨d,g,h⟩:=h; (with_reducible first|replace g:=jka g|replace g:=jdu g|replace g:=zbh g|skip);try dsimp only[kc,qfs,List.map,kr,qae,z7,zr,vun,yb,vev,vsi,zz,qab,aE,aR,aU,aL,aP,aD]at g)|(replace h:=jz h;rcases h with⟨g,h⟩|⟨g,h⟩)|fail
 all_goals (cases h<;>(simp only[go_sem,seval,c177,*];exact⟨_,rfl⟩))
def f192 (a0:qk)(a1:ql):Option Bool:=
 jw (zo (a1.names.getD []) 1) fun v1=>
 some (decide (a0.k=v1))
theorem zbi (hp:j8){a0:qk}{a1:ql}{r}(h:f192 a0 a1=some r):zf pr (X pr) 192 [aT a0,.vptr (aE a1)] hp=some (.bool r,false,hp):=by
 unfold f192 at h
 obtain⟨v1,h2,h⟩:=jx h
 have hr:decide (a0.k=v1)=r:=Option.some.inj h
 subst hr
 rw[zd (show pr.fns 192=some c192 from rfl) (by simp)]
 simp only[go_sem,seval,c192,ke h2]<;>rfl
def qnb (a0:Option (List qk))(a1c0:ql)(s0:Int):Option (Int⊕(Int⊕Int)):=
 cond (decide (s0<((a0.getD []).length:Int)))
  (jw (zo (a0.getD []) s0) fun v14=>
  jw (f192 v14 a1c0) fun v16=>
  cond v16
   (some (.inr (.inl s0)))
   (some (.inl (j6 .i64 (s0+1)))))
  (some (.inr (.inr s0)))
def qkj (a0:Option (List qk))(a1c0:ql)(s0:Int):qg:=⟨[(0,sl 3 zz a0,false),(1,.fn (.func 192) [] [.vptr (aE a1c0)],false),(7,Lv a0,false),(8,Iv s0,false)],[]⟩
def qkc (a0:Option (List qk))(a1c0:ql):Int⊕Int→qo×qg
 | .inl d=>(.ret,⟨[(4,Iv d,false)],[]⟩)
 | .inr d=>(.exit 0,⟨[(0,sl 3 zz a0,false),(1,.fn (.func 192) [] [.vptr (aE a1c0)],false),(7,Lv a0,false),(8,Iv d,false),(9,.bool false,false)],[]⟩)
theorem jlk (a0:Option (List qk))(a1c0:ql)(s0:Int)(r)(h:qnb a0 a1c0 s0=some r):yq pr qhd (qkj a0 a1c0) (qkc a0 a1c0) s0 r:=by
 unfold qnb at h
 repeat' first|(replace h:=jx h;obtain⟨d,g,h⟩:=h;with_reducible first|replace g:=zbi [] g|skip)|(replace h:=jz h;rcases h with⟨g,h⟩|⟨g,h⟩)|fail
 all_goals (cases h<;>(first|(refine zw ?_;simp only[go_sem,seval,qhd,qkj,zn,qkc,*]<;>rfl)|(refine yl ?_;simp only[go_sem,seval,qhd,qkj,zn,qkc,*]<;>rfl)))
theorem jmf (a0:Option (List qk))(a1c0:ql){s0:Int}{d}(h:itO (qnb a0 a1c0) s0=some d):X pr (.loop qhd) (qkj a0 a1c0 s0)=some (qkc a0 a1c0 d):=y8 (jlk a0 a1c0) (fun d=>by rcases d with d|d<;>(intro hh;cases hh)) h
def qv8 (a0:Option (List qk))(a1c0:ql):Option Int:=
 jw (itO (qnb a0 a1c0) 0) fun d19=>match d19 with
  | .inl d21=>
   some d21
  | .inr d22=>
   some (-1)
theorem jxv {a0:Option (List qk)}{a1c0:ql}{r}(h:qv8 a0 a1c0=some r):jy pr (X pr) 240 [sl 3 zz a0,.fn (.func 192) [] [.vptr (aE a1c0)]]=some (Iv r,false):=by
 unfold qv8 at h
 refine y7 c240 ?_
 repeat' first|(replace h:=jx h;obtain⟨d,g,h⟩:=h;with_reducible first|(replace g:=jmf a0 a1c0 g;rcases d with d|d<;>dsimp only[qkj,qkc,kc]at g h)|skip)|(replace h:=jz h;rcases h with⟨g,h⟩|⟨g,h⟩)|fail
 all_goals (cases h<;>(simp only[go_sem,seval,c240,*];exact⟨_,rfl⟩))
def qwd (a0:Option (List qk))(a1c0:ql):Option Bool:=
 jw (qv8 a0 a1c0) fun v1=>
 some (decide (0≤v1))
theorem j0i {a0:Option (List qk)}{a1c0:ql}{r}(h:qwd a0 a1c0=some r):jy pr (X pr) 175 [sl 3 zz a0,.fn (.func 192) [] [.vptr (aE a1c0)]]=some (.bool r,false):=by
 unfold qwd at h
 refine y7 c175 ?_
 repeat' first|(replace h:=jx h;obtain⟨d,g,h⟩:=h;with_reducible first|replace g:=jxv g|skip)|(replace h:=jz h;rcases h with⟨g,h⟩|⟨g,h⟩)|fail
 all_goals (cases h<;>(simp only[go_sem,seval,c175,*];exact⟨_,rfl⟩))
def f187 (a0:qm)(a1:qj):Option Bool:=
 some (decide (a0.k=a1.name))
theorem za7 (hp:j8){a0:qm}{a1:qj}{r}(h:f187 a0 a1=some r):zf pr (X pr) 187 [aN a0,.vptr (aL a1)] hp=some (.bool r,false,hp):=by
 unfold f187 at h
 have hr:decide (a0.k=a1.name)=r:=Option.some.inj h
 subst hr
 rw[zd (show pr.fns 187=some c187 from rfl) (by simp)]
 simp only[go_sem,seval,c187]<;>rfl
def qve (a0:Option (List qm))(a1c0:qj)(s0:Int):Option (Int⊕(Int⊕Int)):=
 cond (decide (s0<((a0.getD []).length:Int)))
  (jw (zo (a0.getD []) s0) fun v14=>
  jw (f187 v14 a1c0) fun v16=>
  cond v16
   (some (.inr (.inl s0)))
   (some (.inl (j6 .i64 (s0+1)))))
  (some (.inr (.inr s0)))
def qm9 (a0:Option (List qm))(a1c0:qj)(s0:Int):qg:=⟨[(0,sl 2 vsi a0,false),(1,.fn (.func 187) [] [.vptr (aL a1c0)],false),(7,Lv a0,false),(8,Iv s0,false)],[]⟩
def qnq (a0:Option (List qm))(a1c0:qj):Int⊕Int→qo×qg
 | .inl d=>(.ret,⟨[(4,Iv d,false)],[]⟩)
 | .inr d=>(.exit 0,⟨[(0,sl 2 vsi a0,false),(1,.fn (.func 187) [] [.vptr (aL a1c0)],false),(7,Lv a0,false),(8,Iv d,false),(9,.bool false,false)],[]⟩)
theorem jpf (a0:Option (List qm))(a1c0:qj)(s0:Int)(r)(h:qve a0 a1c0 s0=some r):yq pr qsy (qm9 a0 a1c0) (qnq a0 a1c0) s0 r:=by
 unfold qve at h
 repeat' first|(replace h:=jx h;obtain⟨d,g,h⟩:=h;with_reducible first|replace g:=za7 [] g|skip)|(replace h:=jz h;rcases h with⟨g,h⟩|⟨g,h⟩)|fail
 all_goals (cases h<;>(first|(refine zw ?_;simp only[go_sem,seval,qsy,qm9,zn,qnq,*]<;>rfl)|(refine yl ?_;simp only[go_sem,seval,qsy,qm9,zn,qnq,*]<;>rfl)))
theorem jrl (a0:Option (List qm))(a1c0:qj){s0:Int}{d}(h:itO (qve a0 a1c0) s0=some d):X pr (.loop qsy) (qm9 a0 a1c0 s0)=some (qnq a0 a1c0 d):=y8 (jpf a0 a1c0) (fun d=>by rcases d with d|d<;>(intro hh;cases hh)) h
def f188 (a0:Option (List qm))(a1c0:qj):Option Int:=
 jw (itO (qve a0 a1c0) 0) fun d19=>match d19 with
  | .inl d21=>
   some d21
  | .inr d22=>
   some (-1)
theorem jr1 {a0:Option (List qm)}{a1c0:qj}{r}(h:f188 a0 a1c0=some r):jy pr (X pr) 188 [sl 2 vsi a0,.fn (.func 187) [] [.vptr (aL a1c0)]]=some (Iv r,false):=by
 unfold f188 at h
 refine y7 c188 ?_
 repeat' first|(replace h:=jx h;obtain⟨d,g,h⟩:=h;with_reducible first|(replace g:=jrl a0 a1c0 g;rcases d with d|d<;>dsimp only[qm9,qnq,kc]at g h)|skip)|(replace h:=jz h;rcases h with⟨g,h⟩|⟨g,h⟩)|fail
 all_goals (cases h<;>(simp only[go_sem,seval,c188,*];exact⟨_,rfl⟩))
def f191 (a0:Option (List qm))(a1:qm)(a2c0:qj):Option ((Option (List qm))×Bool):=
 jw (f188 a0 a2c0) fun v1=>
 cond (decide (0≤v1))
  (jw (jri a0 v1 a1) fun v4=>
  some (v4,false))
  (jw (f250 a0 a1) fun v6=>
  some (v6,true))
theorem zfu {a0:Option (List qm)}{a1:qm}{a2c0:qj}{r}(h:f191 a0 a1 a2c0=some r):jy pr (X pr) 191 [sl 2 vsi a0,aN a1,.fn (.func 187) [] [.vptr (aL a2c0)]]=some (sl 2 vsi r.1,r.2):=by
 unfold f191 at h
 refine qa5 c191 ?_
 repeat' first|(replace h:=jx h;obtain⟨d,g,h⟩:=h; (with_reducible first|replace g:=jr1 g|replace g:=je6 g|replace g:=zf3 g|skip);try dsimp only[kc,qfs,List.map,kr,qae,z7,zr,vun,yb,vev,vsi,zz,qab,aE,aR,aU,aL,aP,aD]at g)|(replace h:=jz h;rcases h with⟨g,h⟩|⟨g,h⟩)|fail
 all_goals (cases h<;>(simp only[go_sem,seval,c191,*];exact⟨_,rfl⟩))
end Go.Z
end
