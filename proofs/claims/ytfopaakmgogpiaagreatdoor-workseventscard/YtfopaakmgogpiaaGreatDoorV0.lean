/- Chapter 10. -/
import Derived.Test.YtfopaakmgogpiaaGreatDoorCA
import Derived.Test.YtfopaakmgogpiaaGreatDoorG0
import Derived.Test.YtfopaakmgogpiaaGreatDoorAbsL
import Derived.Test.YtfopaakmgogpiaaGreatDoorW6
import Derived.Test.YtfopaakmgogpiaaGreatDoorW4
set_option linter.unusedVariables false
set_option linter.unusedSimpArgs false
set_option maxRecDepth 100000
noncomputable section
namespace Go.Z
open Go Go.Abs Go.W
section
variable {p:qu}{xc:XC}{h0:Nat}{al:Option (List Nat)}{e:Env}{h:zb}{α:Type}
structure Enc (f:α→qa)(sz:Nat):Prop where
 len:∀x,(f x).flat.length=sz
 sc:∀x,(f x).flat.all zm=true
 ag:∀x,f x=.agg (f x).flat
 ref:∀x,(f x).flat.any q79=true
 big:1<sz
variable {f:α→qa}{sz:Nat}
theorem jfh (E:Enc f sz)(l:List α):(kc f l).all zm=true:=by
 induction l with
 |nil=>rfl
 |cons x l ih=>rw[qds,List.all_append,E.sc,ih];rfl
theorem q5t (E:Enc f sz):∀(l:List α),qdq sz l.length (kc f l)=l.map f
 | []=>rfl
 |x::l=>by
  have hb:Nat.beq sz 1=false:=by
   have:=E.big
   cases h:Nat.beq sz 1 with
   |false=>rfl
   |true=>have:=Nat.eq_of_beq_eq_true h;omega
  have hl:=E.len x
  show(bif Nat.beq sz 1 then(kc f (x::l)).headD .undef else .agg ((kc f (x::l)).take sz))::qdq sz l.length ((kc f (x::l)).drop sz)=_
  rw[hb,cF,qds,List.take_append_of_le_length (by omega),List.drop_append_of_le_length (by omega),List.take_of_length_le (by omega),List.drop_eq_nil_of_le (by omega),List.nil_append,q5t E l,←E.ag]
  rfl
theorem qew (E:Enc f sz){l:List α}(hl:0<l.length){cs:List (qa×Bool)}(hc:cs.map (·.1)=kc f l):q8t (some cs) 0 l.length=some (.list false sz (l.map f)):=by
 have hcl:cs.length=l.length*sz:=by rw[←List.length_map (f:=(·.1)),hc,qgn E.len]
 have hdiv:cs.length / l.length=sz:=by rw[hcl];exact Nat.mul_div_cancel_left _ hl
 have hany:cs.any (fun c=>q79 c.1)=true:=by
  cases l with
  |nil=>cases hl
  |cons x l=>
   have:(cs.map (·.1)).any q79=true:=by rw[hc,qds,List.any_append,E.ref];rfl
   rw[List.any_map]at this
   exact this
 have hr:qze 0 l.length cs=true:=by
  have hb:Nat.blt 1 sz=true:=Nat.blt_eq.mpr E.big
  rw[qze,hdiv,hb,hany,hcl,Nat.beq_refl,Nat.beq_refl];rfl
 unfold q8t
 simp only[hr,cT,hdiv]
 rw[hc,q5t E]
theorem qji {r n by_:Nat}{zero:List qa}(hz:zero.length=sz)(hs:zero.all zm=true)(h1:0<sz)(hn:n≤1073741824)(hb:by_≤4096){h':zb}(hh:newBox h0 h r (.cells (cellsOf (List.replicate n zero).flatten))=some h'):
  qka h0 r sz by_ zero h (some (Iv (n:Int))) (some (Iv (n:Int)))=some ⟨.ms (h0+r) 0 n,false,none,h'⟩:=by
 show(bif Nat.beq n n&&Nat.ble n 1073741824&&Nat.ble by_ 4096&&Nat.beq zero.length sz&&Nat.blt 0 sz&&zero.all zm then _ else _)=_
 rw[Nat.beq_refl,Nat.ble_eq_true_of_le hn,Nat.ble_eq_true_of_le hb,hz,Nat.beq_refl,Nat.blt_eq.mpr h1,hs]
 simp only[Bool.and_self,cT,hh]
 rfl
theorem qgi (E:Enc f sz){b:Nat}{l:Option (List α)}{cs:List (qa×Bool)}(hb:h[b]?=some (.cells cs))(hc:cs.length=(l.getD []).length*sz)(hok:ke h0 al b=true):
  qld h0 al sz h (some (.ms b 0 (l.getD []).length)) (some (sl sz f l))=some ⟨Lv l,false,none,h.set b (.cells (rcl f (l.getD [])))⟩:=by
 have hbc:yw h b=some cs:=by rw[q4s,hb];rfl
 have hlt:=(List.getElem?_eq_some_iff.1 hb).1
 have hsrc:qjd sz (l.getD []).length (sl sz f l)=some ((l.getD []).length,kc f (l.getD [])):=by
  cases l with
  |none=>simp[sl,qjd,kc]
  |some l=>
   show(bif Nat.beq sz sz||(l.map f).isEmpty then some (min (l.map f).length l.length,((l.map f).take l.length).flatMap qa.flat)else none)=_
   rw[Nat.beq_refl,List.length_map,Nat.min_self,List.take_of_length_le (by rw[List.length_map];exact Nat.le_refl _)]
   rfl
 have hfl:(kc f (l.getD [])).length=(l.getD []).length*sz:=qgn E.len _
 have hst:yu cs 0 (kc f (l.getD []))=some (rcl f (l.getD [])):=by
  unfold yu
  rw[jfh E,hfl,hc,Nat.ble_eq_true_of_le (by omega)]
  simp only[Bool.and_self,cT,List.take_zero,List.nil_append]
  rw[List.drop_eq_nil_of_le (by rw[hc];omega),List.append_nil]
  rfl
 have hset:yv h b (.cells (rcl f (l.getD [])))=some (h.set b (.cells (rcl f (l.getD [])))):=by
  simp only[yv,Nat.blt_eq.mpr hlt,cT]
 show(bif ke h0 al b then(match yw h b with
   |some cs=>(match qjd sz (l.getD []).length (sl sz f l)with
    |some (n,vs)=>(match yu cs 0 vs with
     |some cs'=>bif Nat.beq vs.length (n*sz)then(match yv h b (.cells cs')with
      |some h'=>val h' (Iv n)
      |none=>none)else none
     |none=>none)
    |none=>none)
   |none=>none)else none)=_
 rw[hok,hbc,hsrc]
 simp only[cT,hst,hfl,Nat.beq_refl,hset]
 rfl
theorem qet {b n i:Nat}{k:IntKind}(hi:i<n):qd2 sz h (some (.ms b 0 n)) (some (.int k (i:Int)))=some ⟨.ptr b (i*sz),false,none,h⟩:=by
 have:idx n (.int k (i:Int))=some i:=by rw[qo7];exact qvv hi
 simp only[qd2,this,Nat.zero_add]
 rfl
end
end Go.Z
set_option maxHeartbeats 4000000
namespace Go.Z
open Go Go.Abs Go.W
theorem E_lot:Enc zg 5:=⟨fun _=>rfl,fun _=>rfl,fun _=>rfl,fun _=>rfl,by omega⟩
theorem E_si:Enc vsi 2:=⟨fun _=>rfl,fun _=>rfl,fun _=>rfl,fun _=>rfl,by omega⟩
theorem E_sii:Enc zp 3:=⟨fun _=>rfl,fun _=>rfl,fun _=>rfl,fun _=>rfl,by omega⟩
theorem E_prod:Enc za 4:=⟨fun _=>rfl,fun _=>by simp only[go_sem,seval,q9e]<;>simp only[List.all,go_sem],fun _=>rfl,fun _=>rfl,by omega⟩
theorem E_un:Enc vun 8:=⟨fun _=>rfl,fun _=>by simp only[go_sem,seval,jdo]<;>simp only[List.all,go_sem],fun _=>rfl,fun _=>rfl,by omega⟩
theorem j3c {j:Nat}{caps:List qa}{l:Option (List qk)}{i:Nat}{cs:List (qa×Bool)}(hlen:(l.getD []).length≤1073741824)(hi:i<(l.getD []).length)(hcl:zj pr (X pr) j (.ptr 0 (i*4)::caps) [.cells (rcl za (l.getD []))]=some (.tup [],false,[.cells cs])):zj pr (X pr) 178 [sl 4 za l,Iv (i:Int),.fn (.func j) [] caps] []=some (.ms 0 0 ((l.getD []).length),false,[.cells cs]):=by
 rw[zc (show pr.fns 178=some c178 from rfl) (by simp)]
 have mkr:qka 0 0 4 88 [(.str []),(.list true 0 []),(.list true 0 []),(.list true 0 [])] [.hole] (some (Lv l)) (some (Lv l))=some ⟨.ms 0 0 (l.getD []).length,false,none,[.cells (cellsOf (List.replicate (l.getD []).length [(.str []),(.list true 0 []),(.list true 0 []),(.list true 0 [])]).flatten)]⟩:=by yf qji<;>first|exact hlen|rfl|decide
 have cpy:qld 1 none 4 [.cells (cellsOf (List.replicate (l.getD []).length [(.str []),(.list true 0 []),(.list true 0 []),(.list true 0 [])]).flatten)] (some (.ms 0 0 (l.getD []).length)) (some (sl 4 za l))=some ⟨Lv l,false,none,[.cells (rcl za (l.getD []))]⟩:=qgi E_prod rfl (by simp[cellsOf]) rfl
 simp only[go_sem,seval,c178,mkr,cpy,qet hi,hcl]<;>rfl
theorem jzs{y:qk} {j:Nat} {caps:List qa} {l:Option (List qk)} {i:Nat} {cs:List (qa×Bool)} (hlen:(l.getD []).length≤1073741824) (hi:i<(l.getD []).length) (hcl:zj pr (X pr) j (.ptr 0 (i*4)::caps) [.cells (rcl za (l.getD []))]=some (.tup [],false,[.cells cs])) (hcs:cs.map (·.1)=kc za ((l.getD []).set i y)):j6 pr (X pr) 178 [sl 4 za l,Iv (i:Int),.fn (.func j) [] caps]=some (sl 4 za (some ((l.getD []).set i y)),false):=by
 have hl:((l.getD []).set i y).length=(l.getD []).length:=List.length_set
 have hz:freezeR [.cells cs] (.ms 0 0 ((l.getD []).length))=some (sl 4 za (some ((l.getD []).set i y))):=by
  rw[ql6,←hl]
  exact qew E_prod (by rw[hl];omega) hcs
 exact qbj rfl (j3c hlen hi hcl) hz (by first|rfl|simp only[go_sem,seval])
theorem j7s {j:Nat}{caps:List qa}{l:Option (List qj)}{i:Nat}{cs:List (qa×Bool)}(hlen:(l.getD []).length≤1073741824)(hi:i<(l.getD []).length)(hcl:zj pr (X pr) j (.ptr 0 (i*5)::caps) [.cells (rcl zg (l.getD []))]=some (.tup [],false,[.cells cs])):zj pr (X pr) 185 [sl 5 zg l,Iv (i:Int),.fn (.func j) [] caps] []=some (.ms 0 0 ((l.getD []).length),false,[.cells cs]):=by
 rw[zc (show pr.fns 185=some c185 from rfl) (by simp)]
 have mkr:qka 0 0 5 56 [(.str []),(.str []),(Iv 0),(Iv 0),(.bool false)] [.hole] (some (Lv l)) (some (Lv l))=some ⟨.ms 0 0 (l.getD []).length,false,none,[.cells (cellsOf (List.replicate (l.getD []).length [(.str []),(.str []),(Iv 0),(Iv 0),(.bool false)]).flatten)]⟩:=by yf qji<;>first|exact hlen|rfl|decide
 have cpy:qld 1 none 5 [.cells (cellsOf (List.replicate (l.getD []).length [(.str []),(.str []),(Iv 0),(Iv 0),(.bool false)]).flatten)] (some (.ms 0 0 (l.getD []).length)) (some (sl 5 zg l))=some ⟨Lv l,false,none,[.cells (rcl zg (l.getD []))]⟩:=qgi E_lot rfl (by simp[cellsOf]) rfl
 simp only[go_sem,seval,c185,mkr,cpy,qet hi,hcl]<;>rfl
theorem jun{y:qj} {j:Nat} {caps:List qa} {l:Option (List qj)} {i:Nat} {cs:List (qa×Bool)} (hlen:(l.getD []).length≤1073741824) (hi:i<(l.getD []).length) (hcl:zj pr (X pr) j (.ptr 0 (i*5)::caps) [.cells (rcl zg (l.getD []))]=some (.tup [],false,[.cells cs])) (hcs:cs.map (·.1)=kc zg ((l.getD []).set i y)):j6 pr (X pr) 185 [sl 5 zg l,Iv (i:Int),.fn (.func j) [] caps]=some (sl 5 zg (some ((l.getD []).set i y)),false):=by
 have hl:((l.getD []).set i y).length=(l.getD []).length:=List.length_set
 have hz:freezeR [.cells cs] (.ms 0 0 ((l.getD []).length))=some (sl 5 zg (some ((l.getD []).set i y))):=by
  rw[ql6,←hl]
  exact qew E_lot (by rw[hl];omega) hcs
 exact qbj rfl (j7s hlen hi hcl) hz (by first|rfl|simp only[go_sem,seval])
theorem j55 {j:Nat}{caps:List qa}{l:Option (List qe)}{i:Nat}{cs:List (qa×Bool)}(hlen:(l.getD []).length≤1073741824)(hi:i<(l.getD []).length)(hcl:zj pr (X pr) j (.ptr 0 (i*8)::caps) [.cells (rcl vun (l.getD []))]=some (.tup [],false,[.cells cs])):zj pr (X pr) 189 [sl 8 vun l,Iv (i:Int),.fn (.func j) [] caps] []=some (.ms 0 0 ((l.getD []).length),false,[.cells cs]):=by
 rw[zc (show pr.fns 189=some c189 from rfl) (by simp)]
 have mkr:qka 0 0 8 120 [(.str []),(.str []),(Iv 0),(.list true 0 []),(.list true 0 []),(.str []),(.bool false),(Iv 0)] [.hole] (some (Lv l)) (some (Lv l))=some ⟨.ms 0 0 (l.getD []).length,false,none,[.cells (cellsOf (List.replicate (l.getD []).length [(.str []),(.str []),(Iv 0),(.list true 0 []),(.list true 0 []),(.str []),(.bool false),(Iv 0)]).flatten)]⟩:=by yf qji<;>first|exact hlen|rfl|decide
 have cpy:qld 1 none 8 [.cells (cellsOf (List.replicate (l.getD []).length [(.str []),(.str []),(Iv 0),(.list true 0 []),(.list true 0 []),(.str []),(.bool false),(Iv 0)]).flatten)] (some (.ms 0 0 (l.getD []).length)) (some (sl 8 vun l))=some ⟨Lv l,false,none,[.cells (rcl vun (l.getD []))]⟩:=qgi E_un rfl (by simp[cellsOf]) rfl
 simp only[go_sem,seval,c189,mkr,cpy,qet hi,hcl]<;>rfl
theorem jyx{y:qe} {j:Nat} {caps:List qa} {l:Option (List qe)} {i:Nat} {cs:List (qa×Bool)} (hlen:(l.getD []).length≤1073741824) (hi:i<(l.getD []).length) (hcl:zj pr (X pr) j (.ptr 0 (i*8)::caps) [.cells (rcl vun (l.getD []))]=some (.tup [],false,[.cells cs])) (hcs:cs.map (·.1)=kc vun ((l.getD []).set i y)):j6 pr (X pr) 189 [sl 8 vun l,Iv (i:Int),.fn (.func j) [] caps]=some (sl 8 vun (some ((l.getD []).set i y)),false):=by
 have hl:((l.getD []).set i y).length=(l.getD []).length:=List.length_set
 have hz:freezeR [.cells cs] (.ms 0 0 ((l.getD []).length))=some (sl 8 vun (some ((l.getD []).set i y))):=by
  rw[ql6,←hl]
  exact qew E_un (by rw[hl];omega) hcs
 exact qbj rfl (j55 hlen hi hcl) hz (by first|rfl|simp only[go_sem,seval])
theorem jgb {b0 b1 b2 b3 b4:qr}{j:Nat}{caps:List qa}{l:Option (List qe)}{i:Nat}{cs:List (qa×Bool)}(hlen:(l.getD []).length≤1073741824)(hi:i<(l.getD []).length)(hcl:zj pr (X pr) j (.ptr 5 (i*8)::caps) [b0,b1,b2,b3,b4,.cells (rcl vun (l.getD []))]=some (.tup [],false,[b0,b1,b2,b3,b4,.cells cs])):zj pr (X pr) 189 [sl 8 vun l,Iv (i:Int),.fn (.func j) [] caps] [b0,b1,b2,b3,b4]=some (.ms 5 0 ((l.getD []).length),false,[b0,b1,b2,b3,b4,.cells cs]):=by
 rw[zc (show pr.fns 189=some c189 from rfl) (by simp)]
 have mkr:qka 5 0 8 120 [(.str []),(.str []),(Iv 0),(.list true 0 []),(.list true 0 []),(.str []),(.bool false),(Iv 0)] [b0,b1,b2,b3,b4,.hole] (some (Lv l)) (some (Lv l))=some ⟨.ms 5 0 (l.getD []).length,false,none,[b0,b1,b2,b3,b4,.cells (cellsOf (List.replicate (l.getD []).length [(.str []),(.str []),(Iv 0),(.list true 0 []),(.list true 0 []),(.str []),(.bool false),(Iv 0)]).flatten)]⟩:=by yf qji<;>first|exact hlen|rfl|decide
 have cpy:qld 6 none 8 [b0,b1,b2,b3,b4,.cells (cellsOf (List.replicate (l.getD []).length [(.str []),(.str []),(Iv 0),(.list true 0 []),(.list true 0 []),(.str []),(.bool false),(Iv 0)]).flatten)] (some (.ms 5 0 (l.getD []).length)) (some (sl 8 vun l))=some ⟨Lv l,false,none,[b0,b1,b2,b3,b4,.cells (rcl vun (l.getD []))]⟩:=qgi E_un rfl (by simp[cellsOf]) rfl
 simp only[go_sem,seval,c189,mkr,cpy,qet hi,hcl]<;>rfl
theorem j7v {j:Nat}{caps:List qa}{l:Option (List qm)}{i:Nat}{cs:List (qa×Bool)}(hlen:(l.getD []).length≤1073741824)(hi:i<(l.getD []).length)(hcl:zj pr (X pr) j (.ptr 0 (i*2)::caps) [.cells (rcl vsi (l.getD []))]=some (.tup [],false,[.cells cs])):zj pr (X pr) 237 [sl 2 vsi l,Iv (i:Int),.fn (.func j) [] caps] []=some (.ms 0 0 ((l.getD []).length),false,[.cells cs]):=by
 rw[zc (show pr.fns 237=some c237 from rfl) (by simp)]
 have mkr:qka 0 0 2 24 [(.str []),(Iv 0)] [.hole] (some (Lv l)) (some (Lv l))=some ⟨.ms 0 0 (l.getD []).length,false,none,[.cells (cellsOf (List.replicate (l.getD []).length [(.str []),(Iv 0)]).flatten)]⟩:=by yf qji<;>first|exact hlen|rfl|decide
 have cpy:qld 1 none 2 [.cells (cellsOf (List.replicate (l.getD []).length [(.str []),(Iv 0)]).flatten)] (some (.ms 0 0 (l.getD []).length)) (some (sl 2 vsi l))=some ⟨Lv l,false,none,[.cells (rcl vsi (l.getD []))]⟩:=qgi E_si rfl (by simp[cellsOf]) rfl
 simp only[go_sem,seval,c237,mkr,cpy,qet hi,hcl]<;>rfl
theorem jqb{y:qm} {j:Nat} {caps:List qa} {l:Option (List qm)} {i:Nat} {cs:List (qa×Bool)} (hlen:(l.getD []).length≤1073741824) (hi:i<(l.getD []).length) (hcl:zj pr (X pr) j (.ptr 0 (i*2)::caps) [.cells (rcl vsi (l.getD []))]=some (.tup [],false,[.cells cs])) (hcs:cs.map (·.1)=kc vsi ((l.getD []).set i y)):j6 pr (X pr) 237 [sl 2 vsi l,Iv (i:Int),.fn (.func j) [] caps]=some (sl 2 vsi (some ((l.getD []).set i y)),false):=by
 have hl:((l.getD []).set i y).length=(l.getD []).length:=List.length_set
 have hz:freezeR [.cells cs] (.ms 0 0 ((l.getD []).length))=some (sl 2 vsi (some ((l.getD []).set i y))):=by
  rw[ql6,←hl]
  exact qew E_si (by rw[hl];omega) hcs
 exact qbj rfl (j7v hlen hi hcl) hz (by first|rfl|simp only[go_sem,seval])
theorem j6w {j:Nat}{caps:List qa}{l:Option (List qi)}{i:Nat}{cs:List (qa×Bool)}(hlen:(l.getD []).length≤1073741824)(hi:i<(l.getD []).length)(hcl:zj pr (X pr) j (.ptr 0 (i*3)::caps) [.cells (rcl zp (l.getD []))]=some (.tup [],false,[.cells cs])):zj pr (X pr) 241 [sl 3 zp l,Iv (i:Int),.fn (.func j) [] caps] []=some (.ms 0 0 ((l.getD []).length),false,[.cells cs]):=by
 rw[zc (show pr.fns 241=some c241 from rfl) (by simp)]
 have mkr:qka 0 0 3 32 [(.str []),(Iv 0),(Iv 0)] [.hole] (some (Lv l)) (some (Lv l))=some ⟨.ms 0 0 (l.getD []).length,false,none,[.cells (cellsOf (List.replicate (l.getD []).length [(.str []),(Iv 0),(Iv 0)]).flatten)]⟩:=by yf qji<;>first|exact hlen|rfl|decide
 have cpy:qld 1 none 3 [.cells (cellsOf (List.replicate (l.getD []).length [(.str []),(Iv 0),(Iv 0)]).flatten)] (some (.ms 0 0 (l.getD []).length)) (some (sl 3 zp l))=some ⟨Lv l,false,none,[.cells (rcl zp (l.getD []))]⟩:=qgi E_sii rfl (by simp[cellsOf]) rfl
 simp only[go_sem,seval,c241,mkr,cpy,qet hi,hcl]<;>rfl
theorem jw6{y:qi} {j:Nat} {caps:List qa} {l:Option (List qi)} {i:Nat} {cs:List (qa×Bool)} (hlen:(l.getD []).length≤1073741824) (hi:i<(l.getD []).length) (hcl:zj pr (X pr) j (.ptr 0 (i*3)::caps) [.cells (rcl zp (l.getD []))]=some (.tup [],false,[.cells cs])) (hcs:cs.map (·.1)=kc zp ((l.getD []).set i y)):j6 pr (X pr) 241 [sl 3 zp l,Iv (i:Int),.fn (.func j) [] caps]=some (sl 3 zp (some ((l.getD []).set i y)),false):=by
 have hl:((l.getD []).set i y).length=(l.getD []).length:=List.length_set
 have hz:freezeR [.cells cs] (.ms 0 0 ((l.getD []).length))=some (sl 3 zp (some ((l.getD []).set i y))):=by
  rw[ql6,←hl]
  exact qew E_sii (by rw[hl];omega) hcs
 exact qbj rfl (j6w hlen hi hcl) hz (by first|rfl|simp only[go_sem,seval])
theorem j3x {j:Nat}{caps:List qa}{l:Option (List qm)}{i:Nat}{cs:List (qa×Bool)}(hlen:(l.getD []).length≤1073741824)(hi:i<(l.getD []).length)(hcl:zj pr (X pr) j (.ptr 0 (i*2)::caps) [.cells (rcl vsi (l.getD []))]=some (.tup [],false,[.cells cs])):zj pr (X pr) 248 [sl 2 vsi l,Iv (i:Int),.fn (.func j) [] caps] []=some (.ms 0 0 ((l.getD []).length),false,[.cells cs]):=by
 rw[zc (show pr.fns 248=some c248 from rfl) (by simp)]
 have mkr:qka 0 0 2 24 [(.str []),(Iv 0)] [.hole] (some (Lv l)) (some (Lv l))=some ⟨.ms 0 0 (l.getD []).length,false,none,[.cells (cellsOf (List.replicate (l.getD []).length [(.str []),(Iv 0)]).flatten)]⟩:=by yf qji<;>first|exact hlen|rfl|decide
 have cpy:qld 1 none 2 [.cells (cellsOf (List.replicate (l.getD []).length [(.str []),(Iv 0)]).flatten)] (some (.ms 0 0 (l.getD []).length)) (some (sl 2 vsi l))=some ⟨Lv l,false,none,[.cells (rcl vsi (l.getD []))]⟩:=qgi E_si rfl (by simp[cellsOf]) rfl
 simp only[go_sem,seval,c248,mkr,cpy,qet hi,hcl]<;>rfl
theorem jzo{y:qm} {j:Nat} {caps:List qa} {l:Option (List qm)} {i:Nat} {cs:List (qa×Bool)} (hlen:(l.getD []).length≤1073741824) (hi:i<(l.getD []).length) (hcl:zj pr (X pr) j (.ptr 0 (i*2)::caps) [.cells (rcl vsi (l.getD []))]=some (.tup [],false,[.cells cs])) (hcs:cs.map (·.1)=kc vsi ((l.getD []).set i y)):j6 pr (X pr) 248 [sl 2 vsi l,Iv (i:Int),.fn (.func j) [] caps]=some (sl 2 vsi (some ((l.getD []).set i y)),false):=by
 have hl:((l.getD []).set i y).length=(l.getD []).length:=List.length_set
 have hz:freezeR [.cells cs] (.ms 0 0 ((l.getD []).length))=some (sl 2 vsi (some ((l.getD []).set i y))):=by
  rw[ql6,←hl]
  exact qew E_si (by rw[hl];omega) hcs
 exact qbj rfl (j3x hlen hi hcl) hz (by first|rfl|simp only[go_sem,seval])
end Go.Z
namespace Go.Z
open Go Go.Abs Go.W
def chO {α:Type}(l:Option (List α))(i:Int)(g:α→Option α):Option (Option (List α)):=
 if(l.getD []).length≤1073741824∧0≤i then(match(l.getD [])[i.toNat]? with
  |some x=>(match g x with
   |some y=>some (some ((l.getD []).set i.toNat y))
   |none=>none)
  |none=>none)else none
theorem qgz {α:Type}{l:Option (List α)}{i:Int}{g:α→Option α}{r}(h:chO l i g=some r):∃(n:Nat) (x y:α),i=(n:Int)∧(l.getD []).length≤1073741824∧(l.getD [])[n]?=some x∧g x=some y∧r=some ((l.getD []).set n y):=by
 unfold chO at h
 split at h
 ·rename_i hc
  split at h
  ·rename_i x hx
   split at h
   ·rename_i y hy
    cases h
    exact⟨i.toNat,x,y,(Int.toNat_of_nonneg hc.2).symm,hc.1,hx,hy,rfl⟩
   ·cases h
  ·cases h
 ·cases h
theorem q7p {l r:Option (List qk)}{i:Int}{g:qk→Option qk}{j:Nat}{caps:List qa}(hcl:∀(n:Nat) (x y:qk),(l.getD [])[n]?=some x→g x=some y→∃cs,zj pr (X pr) j (.ptr 0 (n*4)::caps) [.cells (rcl za (l.getD []))]=some (.tup [],false,[.cells cs])∧cs.map (·.1)=kc za ((l.getD []).set n y))(h:chO l i g=some r):j6 pr (X pr) 178 [sl 4 za l,Iv i,.fn (.func j) [] caps]=some (sl 4 za r,false):=by
 obtain⟨n,x,y,rfl,hl,hx,hy,rfl⟩:=qgz h
 obtain⟨cs,h1,h2⟩:=hcl n x y hx hy
 exact jzs hl (List.getElem?_eq_some_iff.1 hx).1 h1 h2
theorem q71 {l r:Option (List qj)}{i:Int}{g:qj→Option qj}{j:Nat}{caps:List qa}(hcl:∀(n:Nat) (x y:qj),(l.getD [])[n]?=some x→g x=some y→∃cs,zj pr (X pr) j (.ptr 0 (n*5)::caps) [.cells (rcl zg (l.getD []))]=some (.tup [],false,[.cells cs])∧cs.map (·.1)=kc zg ((l.getD []).set n y))(h:chO l i g=some r):j6 pr (X pr) 185 [sl 5 zg l,Iv i,.fn (.func j) [] caps]=some (sl 5 zg r,false):=by
 obtain⟨n,x,y,rfl,hl,hx,hy,rfl⟩:=qgz h
 obtain⟨cs,h1,h2⟩:=hcl n x y hx hy
 exact jun hl (List.getElem?_eq_some_iff.1 hx).1 h1 h2
theorem qum {l r:Option (List qe)}{i:Int}{g:qe→Option qe}{j:Nat}{caps:List qa}(hcl:∀(n:Nat) (x y:qe),(l.getD [])[n]?=some x→g x=some y→∃cs,zj pr (X pr) j (.ptr 0 (n*8)::caps) [.cells (rcl vun (l.getD []))]=some (.tup [],false,[.cells cs])∧cs.map (·.1)=kc vun ((l.getD []).set n y))(h:chO l i g=some r):j6 pr (X pr) 189 [sl 8 vun l,Iv i,.fn (.func j) [] caps]=some (sl 8 vun r,false):=by
 obtain⟨n,x,y,rfl,hl,hx,hy,rfl⟩:=qgz h
 obtain⟨cs,h1,h2⟩:=hcl n x y hx hy
 exact jyx hl (List.getElem?_eq_some_iff.1 hx).1 h1 h2
theorem jz7 {l r:Option (List qm)}{i:Int}{g:qm→Option qm}{j:Nat}{caps:List qa}(hcl:∀(n:Nat) (x y:qm),(l.getD [])[n]?=some x→g x=some y→∃cs,zj pr (X pr) j (.ptr 0 (n*2)::caps) [.cells (rcl vsi (l.getD []))]=some (.tup [],false,[.cells cs])∧cs.map (·.1)=kc vsi ((l.getD []).set n y))(h:chO l i g=some r):j6 pr (X pr) 237 [sl 2 vsi l,Iv i,.fn (.func j) [] caps]=some (sl 2 vsi r,false):=by
 obtain⟨n,x,y,rfl,hl,hx,hy,rfl⟩:=qgz h
 obtain⟨cs,h1,h2⟩:=hcl n x y hx hy
 exact jqb hl (List.getElem?_eq_some_iff.1 hx).1 h1 h2
theorem juf {l r:Option (List qi)}{i:Int}{g:qi→Option qi}{j:Nat}{caps:List qa}(hcl:∀(n:Nat) (x y:qi),(l.getD [])[n]?=some x→g x=some y→∃cs,zj pr (X pr) j (.ptr 0 (n*3)::caps) [.cells (rcl zp (l.getD []))]=some (.tup [],false,[.cells cs])∧cs.map (·.1)=kc zp ((l.getD []).set n y))(h:chO l i g=some r):j6 pr (X pr) 241 [sl 3 zp l,Iv i,.fn (.func j) [] caps]=some (sl 3 zp r,false):=by
 obtain⟨n,x,y,rfl,hl,hx,hy,rfl⟩:=qgz h
 obtain⟨cs,h1,h2⟩:=hcl n x y hx hy
 exact jw6 hl (List.getElem?_eq_some_iff.1 hx).1 h1 h2
theorem jsh {l r:Option (List qm)}{i:Int}{g:qm→Option qm}{j:Nat}{caps:List qa}(hcl:∀(n:Nat) (x y:qm),(l.getD [])[n]?=some x→g x=some y→∃cs,zj pr (X pr) j (.ptr 0 (n*2)::caps) [.cells (rcl vsi (l.getD []))]=some (.tup [],false,[.cells cs])∧cs.map (·.1)=kc vsi ((l.getD []).set n y))(h:chO l i g=some r):j6 pr (X pr) 248 [sl 2 vsi l,Iv i,.fn (.func j) [] caps]=some (sl 2 vsi r,false):=by
 obtain⟨n,x,y,rfl,hl,hx,hy,rfl⟩:=qgz h
 obtain⟨cs,h1,h2⟩:=hcl n x y hx hy
 exact jzo hl (List.getElem?_eq_some_iff.1 hx).1 h1 h2
theorem j33 {l:List qj}{i:Nat}{x:qj}(hx:l[i]?=some x):zj pr (X pr) 198 [.ptr 0 (i*5)] [.cells (rcl zg l)]=some (.tup [],false,[.cells (rcl zg (l.set i { x with held:=true }))]):=by
 rw[zc (show pr.fns 198=some c198 from rfl) (by simp)]
 have st:yu (rcl zg l) (i*5+4) [.bool true]=some (rcl zg (l.set i { x with held:=true })):=qdp (o:=4) E_lot.len hx (Nat.le_of_ble_eq_true rfl) rfl rfl
 simp only[go_sem,seval,c198,st]<;>rfl
def jfo (l:Option (List qj))(i:Int):Option (Option (List qj)):=chO l i fun x=>some { x with held:=true }
theorem je8 {l:Option (List qj)}{i:Int}{r}(h:jfo l i=some r):j6 pr (X pr) 185 [sl 5 zg l,Iv i,.fn (.func 198) [] []]=some (sl 5 zg r,false):=
 q71 (fun n x y hx hy=>by cases hy;exact⟨_,j33 hx,qah⟩) h
theorem j7x {l:List qj}{i:Nat}{x:qj}(hx:l[i]?=some x):zj pr (X pr) 199 [.ptr 0 (i*5)] [.cells (rcl zg l)]=some (.tup [],false,[.cells (rcl zg (l.set i { x with held:=false }))]):=by
 rw[zc (show pr.fns 199=some c199 from rfl) (by simp)]
 have st:yu (rcl zg l) (i*5+4) [.bool false]=some (rcl zg (l.set i { x with held:=false })):=qdp (o:=4) E_lot.len hx (Nat.le_of_ble_eq_true rfl) rfl rfl
 simp only[go_sem,seval,c199,st]<;>rfl
def jc8 (l:Option (List qj))(i:Int):Option (Option (List qj)):=chO l i fun x=>some { x with held:=false }
theorem jd9 {l:Option (List qj)}{i:Int}{r}(h:jc8 l i=some r):j6 pr (X pr) 185 [sl 5 zg l,Iv i,.fn (.func 199) [] []]=some (sl 5 zg r,false):=
 q71 (fun n x y hx hy=>by cases hy;exact⟨_,j7x hx,qah⟩) h
theorem j40 {l:List qe}{i:Nat}{x:qe}(hx:l[i]?=some x):zj pr (X pr) 200 [.ptr 0 (i*8)] [.cells (rcl vun l)]=some (.tup [],false,[.cells (rcl vun (l.set i { x with shipped:=true }))]):=by
 rw[zc (show pr.fns 200=some c200 from rfl) (by simp)]
 have st:yu (rcl vun l) (i*8+6) [.bool true]=some (rcl vun (l.set i { x with shipped:=true })):=qdp (o:=6) E_un.len hx (Nat.le_of_ble_eq_true rfl) rfl rfl
 simp only[go_sem,seval,c200,st]<;>rfl
def jdv (l:Option (List qe))(i:Int):Option (Option (List qe)):=chO l i fun x=>some { x with shipped:=true }
theorem jc6 {l:Option (List qe)}{i:Int}{r}(h:jdv l i=some r):j6 pr (X pr) 189 [sl 8 vun l,Iv i,.fn (.func 200) [] []]=some (sl 8 vun r,false):=
 qum (fun n x y hx hy=>by cases hy;exact⟨_,j40 hx,qah⟩) h
theorem j3i {l:List qe}{i:Nat}{x:qe}(hx:l[i]?=some x):zj pr (X pr) 201 [.ptr 0 (i*8)] [.cells (rcl vun l)]=some (.tup [],false,[.cells (rcl vun (l.set i { x with complaints:=j8 .i64 (x.complaints+1) }))]):=by
 rw[zc (show pr.fns 201=some c201 from rfl) (by simp)]
 have st:yu (rcl vun l) (i*8+7) [Iv (j8 .i64 (x.complaints+1))]=some (rcl vun (l.set i { x with complaints:=j8 .i64 (x.complaints+1) })):=qdp (o:=7) E_un.len hx (Nat.le_of_ble_eq_true rfl) rfl rfl
 have ld0:kn (rcl vun l) (i*8+7) 1=some [Iv x.complaints]:=qhi (o:=7) E_un.len hx (by decide)
 simp only[go_sem,seval,c201,st,ld0]<;>rfl
def jd0 (l:Option (List qe))(i:Int):Option (Option (List qe)):=chO l i fun x=>some { x with complaints:=j8 .i64 (x.complaints+1) }
theorem jb6 {l:Option (List qe)}{i:Int}{r}(h:jd0 l i=some r):j6 pr (X pr) 189 [sl 8 vun l,Iv i,.fn (.func 201) [] []]=some (sl 8 vun r,false):=
 qum (fun n x y hx hy=>by cases hy;exact⟨_,j3i hx,qah⟩) h
theorem j7h {l:List qe}{i:Nat}{x:qe}{v:Int}(hx:l[i]?=some x):zj pr (X pr) 195 [.ptr 0 (i*8),.vptr (Iv v)] [.cells (rcl vun l)]=some (.tup [],false,[.cells (rcl vun (l.set i { x with version:=v }))]):=by
 rw[zc (show pr.fns 195=some c195 from rfl) (by simp)]
 have st:yu (rcl vun l) (i*8+2) [Iv v]=some (rcl vun (l.set i { x with version:=v })):=qdp (o:=2) E_un.len hx (Nat.le_of_ble_eq_true rfl) rfl rfl
 simp only[go_sem,seval,c195,st]<;>rfl
def jcy (l:Option (List qe))(i:Int)(v:Int):Option (Option (List qe)):=chO l i fun x=>some { x with version:=v }
theorem jfe {l:Option (List qe)}{i:Int}{v:Int}{r}(h:jcy l i v=some r):j6 pr (X pr) 189 [sl 8 vun l,Iv i,.fn (.func 195) [] [.vptr (Iv v)]]=some (sl 8 vun r,false):=
 qum (fun n x y hx hy=>by cases hy;exact⟨_,j7h hx,qah⟩) h
theorem j36 {l:List qe}{i:Nat}{x:qe}{b:qe}(hx:l[i]?=some x):zj pr (X pr) 196 [.ptr 0 (i*8),.vptr (vun b)] [.cells (rcl vun l)]=some (.tup [],false,[.cells (rcl vun (l.set i { x with partner:=b.name }))]):=by
 rw[zc (show pr.fns 196=some c196 from rfl) (by simp)]
 have st:yu (rcl vun l) (i*8+5) [.str b.name]=some (rcl vun (l.set i { x with partner:=b.name })):=qdp (o:=5) E_un.len hx (Nat.le_of_ble_eq_true rfl) rfl rfl
 simp only[go_sem,seval,c196,st,vun]<;>rfl
def qoa (l:Option (List qe))(i:Int)(b:qe):Option (Option (List qe)):=chO l i fun x=>some { x with partner:=b.name }
theorem qgl {l:Option (List qe)}{i:Int}{b:qe}{r}(h:qoa l i b=some r):j6 pr (X pr) 189 [sl 8 vun l,Iv i,.fn (.func 196) [] [.vptr (vun b)]]=some (sl 8 vun r,false):=
 qum (fun n x y hx hy=>by cases hy;exact⟨_,j36 hx,qah⟩) h
theorem j7q {l:List qe}{i:Nat}{x:qe}{b:qe}(hx:l[i]?=some x):zj pr (X pr) 197 [.ptr 0 (i*8),.vptr (vun b)] [.cells (rcl vun l)]=some (.tup [],false,[.cells (rcl vun (l.set i { x with partner:=b.name }))]):=by
 rw[zc (show pr.fns 197=some c197 from rfl) (by simp)]
 have st:yu (rcl vun l) (i*8+5) [.str b.name]=some (rcl vun (l.set i { x with partner:=b.name })):=qdp (o:=5) E_un.len hx (Nat.le_of_ble_eq_true rfl) rfl rfl
 simp only[go_sem,seval,c197,st,vun]<;>rfl
def qnz (l:Option (List qe))(i:Int)(b:qe):Option (Option (List qe)):=chO l i fun x=>some { x with partner:=b.name }
theorem qgo {l:Option (List qe)}{i:Int}{b:qe}{r}(h:qnz l i b=some r):j6 pr (X pr) 189 [sl 8 vun l,Iv i,.fn (.func 197) [] [.vptr (vun b)]]=some (sl 8 vun r,false):=
 qum (fun n x y hx hy=>by cases hy;exact⟨_,j7q hx,qah⟩) h
theorem j6c {l:List qj}{i:Nat}{x:qj}{v:Int}(hx:l[i]?=some x):zj pr (X pr) 186 [.ptr 0 (i*5),.vptr (Iv v)] [.cells (rcl zg l)]=some (.tup [],false,[.cells (rcl zg (l.set i { x with left:=j8 .i64 (x.left-v) }))]):=by
 rw[zc (show pr.fns 186=some c186 from rfl) (by simp)]
 have st:yu (rcl zg l) (i*5+3) [Iv (j8 .i64 (x.left-v))]=some (rcl zg (l.set i { x with left:=j8 .i64 (x.left-v) })):=qdp (o:=3) E_lot.len hx (Nat.le_of_ble_eq_true rfl) rfl rfl
 have ld0:kn (rcl zg l) (i*5+3) 1=some [Iv x.left]:=qhi (o:=3) E_lot.len hx (by decide)
 simp only[go_sem,seval,c186,st,ld0]<;>rfl
def jcd (l:Option (List qj))(i:Int)(v:Int):Option (Option (List qj)):=chO l i fun x=>some { x with left:=j8 .i64 (x.left-v) }
theorem jcn {l:Option (List qj)}{i:Int}{v:Int}{r}(h:jcd l i v=some r):j6 pr (X pr) 185 [sl 5 zg l,Iv i,.fn (.func 186) [] [.vptr (Iv v)]]=some (sl 5 zg r,false):=
 q71 (fun n x y hx hy=>by cases hy;exact⟨_,j6c hx,qah⟩) h
theorem j57 {l:List qm}{i:Nat}{x:qm}{b:qm}(hx:l[i]?=some x):zj pr (X pr) 238 [.ptr 0 (i*2),.vptr (vsi b)] [.cells (rcl vsi l)]=some (.tup [],false,[.cells (rcl vsi (l.set i b))]):=by
 rw[zc (show pr.fns 238=some c238 from rfl) (by simp)]
 have st:yu (rcl vsi l) (i*2) [.str b.k,Iv b.n]=some (rcl vsi (l.set i b)):=qdp (o:=0) E_si.len hx (Nat.le_of_ble_eq_true rfl) rfl rfl
 simp only[go_sem,seval,c238,st,vsi]<;>rfl
def jmb (l:Option (List qm))(i:Int)(b:qm):Option (Option (List qm)):=chO l i fun x=>some b
theorem jci {l:Option (List qm)}{i:Int}{b:qm}{r}(h:jmb l i b=some r):j6 pr (X pr) 237 [sl 2 vsi l,Iv i,.fn (.func 238) [] [.vptr (vsi b)]]=some (sl 2 vsi r,false):=
 jz7 (fun n x y hx hy=>by cases hy;exact⟨_,j57 hx,qah⟩) h
theorem j8z {l:List qi}{i:Nat}{x:qi}{b:qi}(hx:l[i]?=some x):zj pr (X pr) 242 [.ptr 0 (i*3),.vptr (zp b)] [.cells (rcl zp l)]=some (.tup [],false,[.cells (rcl zp (l.set i b))]):=by
 rw[zc (show pr.fns 242=some c242 from rfl) (by simp)]
 have st:yu (rcl zp l) (i*3) [.str b.k,Iv b.a,Iv b.b]=some (rcl zp (l.set i b)):=qdp (o:=0) E_sii.len hx (Nat.le_of_ble_eq_true rfl) rfl rfl
 simp only[go_sem,seval,c242,st,zp]<;>rfl
def jmg (l:Option (List qi))(i:Int)(b:qi):Option (Option (List qi)):=chO l i fun x=>some b
theorem je0 {l:Option (List qi)}{i:Int}{b:qi}{r}(h:jmg l i b=some r):j6 pr (X pr) 241 [sl 3 zp l,Iv i,.fn (.func 242) [] [.vptr (zp b)]]=some (sl 3 zp r,false):=
 juf (fun n x y hx hy=>by cases hy;exact⟨_,j8z hx,qah⟩) h
theorem j28 {l:List qm}{i:Nat}{x:qm}{b:qm}(hx:l[i]?=some x):zj pr (X pr) 249 [.ptr 0 (i*2),.vptr (vsi b)] [.cells (rcl vsi l)]=some (.tup [],false,[.cells (rcl vsi (l.set i b))]):=by
 rw[zc (show pr.fns 249=some c249 from rfl) (by simp)]
 have st:yu (rcl vsi l) (i*2) [.str b.k,Iv b.n]=some (rcl vsi (l.set i b)):=qdp (o:=0) E_si.len hx (Nat.le_of_ble_eq_true rfl) rfl rfl
 simp only[go_sem,seval,c249,st,vsi]<;>rfl
def jj5 (l:Option (List qm))(i:Int)(b:qm):Option (Option (List qm)):=chO l i fun x=>some b
theorem jdt {l:Option (List qm)}{i:Int}{b:qm}{r}(h:jj5 l i b=some r):j6 pr (X pr) 248 [sl 2 vsi l,Iv i,.fn (.func 249) [] [.vptr (vsi b)]]=some (sl 2 vsi r,false):=
 jsh (fun n x y hx hy=>by cases hy;exact⟨_,j28 hx,qah⟩) h
end Go.Z
namespace Go.Z
open Go Go.Abs Go.W
def f167 (a0:qm)(a1:List UInt8):Option Bool:=
 some (decide (a0.k=a1))
theorem jd5 (hp:zb){a0:qm}{a1:List UInt8}{r}(h:f167 a0 a1=some r):zj pr (X pr) 167 [.agg [.str a0.k,Iv a0.n],.vptr (.str a1)] hp=some (.bool r,false,hp):=by
 unfold f167 at h
 have hr:decide (a0.k=a1)=r:=Option.some.inj h
 subst hr
 rw[zc (show pr.fns 167=some c167 from rfl) (by simp)]
 simp only[go_sem,seval,c167]<;>rfl
def qtb (a0:Option (List qm))(a1c0:List UInt8)(s0:Int):Option (Int⊕(Int⊕Int)):=
 cond (decide (s0<((a0.getD []).length:Int)))
  (jy (zz (a0.getD []) s0) fun v14=>
  jy (f167 v14 a1c0) fun v16=>
  cond v16
   (some (.inr (.inl s0)))
   (some (.inl (j8 .i64 (s0+1)))))
  (some (.inr (.inr s0)))
def qh3 (a0:Option (List qm))(a1c0:List UInt8)(hp:zb)(s0:Int):qg:=⟨[(0,sl 2 vsi a0,false),(1,.fn (.func 167) [] [.vptr (.str a1c0)],false),(7,Lv a0,false),(8,Iv s0,false)],hp⟩
def qjy (a0:Option (List qm))(a1c0:List UInt8)(hp:zb):Int⊕Int→qn×qg
 | .inl d=>(.ret,⟨[(4,Iv d,false)],hp⟩)
 | .inr d=>(.exit 0,⟨[(0,sl 2 vsi a0,false),(1,.fn (.func 167) [] [.vptr (.str a1c0)],false),(7,Lv a0,false),(8,Iv d,false),(9,.bool false,false)],hp⟩)
theorem jh7 (a0:Option (List qm))(a1c0:List UInt8)(hp:zb)(s0:Int)(r)(h:qtb a0 a1c0 s0=some r):y6 pr qb6 (qh3 a0 a1c0 hp) (qjy a0 a1c0 hp) s0 r:=by
 unfold qtb at h
 rcases jx h with⟨h13,h⟩|⟨h13,h⟩
 ·obtain⟨v14,h15,h⟩:=jw h
  obtain⟨v16,h17,h⟩:=jw h
  have wh17:zj pr (X pr) 167 [.agg [.str v14.k,Iv v14.n],.vptr (.str a1c0)] hp=some (.bool v16,false,hp):=jd5 hp h17
  rcases jx h with⟨h18,h⟩|⟨h18,h⟩
  ·cases h
   exact zd (by simp only[go_sem,seval,qb6,qh3,h13,jz h15,wh17,h18,qjy]<;>rfl)
  cases h
  exact zq (by simp only[go_sem,seval,qb6,qh3,h13,jz h15,wh17,h18]<;>rfl)
 cases h
 exact zd (by simp only[go_sem,seval,qb6,qh3,h13,qjy]<;>rfl)
theorem q5p (a0:Option (List qm))(a1c0:List UInt8)(hp:zb){s0:Int}{d}(h:itO (qtb a0 a1c0) s0=some d):X pr (.loop qb6) (qh3 a0 a1c0 hp s0)=some (qjy a0 a1c0 hp d):=km (jh7 a0 a1c0 hp) (fun d=>by rcases d with d|d<;>(intro hh;cases hh)) h
def qv1 (a0:Option (List qm))(a1c0:List UInt8):Option Int:=
 jy (itO (qtb a0 a1c0) 0) fun d19=>match d19 with
  | .inl d21=>
   some d21
  | .inr d22=>
   some (-1)
theorem jzq (hp:zb){a0:Option (List qm)}{a1c0:List UInt8}{r}(h:qv1 a0 a1c0=some r):zj pr (X pr) 235 [sl 2 vsi a0,.fn (.func 167) [] [.vptr (.str a1c0)]] hp=some (Iv r,false,hp):=by
 unfold qv1 at h
 obtain⟨d19,h20,h⟩:=jw h
 rcases d19 with d21|d22
 ·have wh20:=q5p a0 a1c0 hp h20
  dsimp only[qh3,qjy]at wh20
  have hr:d21=r:=Option.some.inj h
  subst hr
  rw[zc (show pr.fns 235=some c235 from rfl) (by simp)]
  simp only[go_sem,seval,c235,wh20]<;>rfl
 have wh20:=q5p a0 a1c0 hp h20
 dsimp only[qh3,qjy]at wh20
 have hr:(-1)=r:=Option.some.inj h
 subst hr
 rw[zc (show pr.fns 235=some c235 from rfl) (by simp)]
 simp only[go_sem,seval,c235,wh20]<;>rfl
def qua (a0:Option (List qm))(a1c0:List UInt8)(s0:Int):Option (Int⊕(Int⊕Int)):=
 cond (decide (s0<((a0.getD []).length:Int)))
  (jy (zz (a0.getD []) s0) fun v14=>
  jy (f167 v14 a1c0) fun v16=>
  cond v16
   (some (.inr (.inl s0)))
   (some (.inl (j8 .i64 (s0+1)))))
  (some (.inr (.inr s0)))
def qhz (a0:Option (List qm))(a1c0:List UInt8)(s0:Int):qg:=⟨[(0,sl 2 vsi a0,false),(1,.fn (.func 167) [] [.vptr (.str a1c0)],false),(7,Lv a0,false),(8,Iv s0,false)],[]⟩
def qjw (a0:Option (List qm))(a1c0:List UInt8):Int⊕Int→qn×qg
 | .inl d=>(.ret,⟨[(4,Iv d,false)],[]⟩)
 | .inr d=>(.exit 0,⟨[(0,sl 2 vsi a0,false),(1,.fn (.func 167) [] [.vptr (.str a1c0)],false),(7,Lv a0,false),(8,Iv d,false),(9,.bool false,false)],[]⟩)
theorem jhc (a0:Option (List qm))(a1c0:List UInt8)(s0:Int)(r)(h:qua a0 a1c0 s0=some r):y6 pr qb6 (qhz a0 a1c0) (qjw a0 a1c0) s0 r:=by
 unfold qua at h
 rcases jx h with⟨h13,h⟩|⟨h13,h⟩
 ·obtain⟨v14,h15,h⟩:=jw h
  obtain⟨v16,h17,h⟩:=jw h
  have wh17:zj pr (X pr) 167 [.agg [.str v14.k,Iv v14.n],.vptr (.str a1c0)] []=some (.bool v16,false,[]):=jd5 [] h17
  rcases jx h with⟨h18,h⟩|⟨h18,h⟩
  ·cases h
   exact zd (by simp only[go_sem,seval,qb6,qhz,h13,jz h15,wh17,h18,qjw]<;>rfl)
  cases h
  exact zq (by simp only[go_sem,seval,qb6,qhz,h13,jz h15,wh17,h18]<;>rfl)
 cases h
 exact zd (by simp only[go_sem,seval,qb6,qhz,h13,qjw]<;>rfl)
theorem q6k (a0:Option (List qm))(a1c0:List UInt8){s0:Int}{d}(h:itO (qua a0 a1c0) s0=some d):X pr (.loop qb6) (qhz a0 a1c0 s0)=some (qjw a0 a1c0 d):=km (jhc a0 a1c0) (fun d=>by rcases d with d|d<;>(intro hh;cases hh)) h
def qxs (a0:Option (List qm))(a1c0:List UInt8):Option Int:=
 jy (itO (qua a0 a1c0) 0) fun d19=>match d19 with
  | .inl d21=>
   some d21
  | .inr d22=>
   some (-1)
theorem jsk {a0:Option (List qm)}{a1c0:List UInt8}{r}(h:qxs a0 a1c0=some r):j6 pr (X pr) 235 [sl 2 vsi a0,.fn (.func 167) [] [.vptr (.str a1c0)]]=some (Iv r,false):=by
 unfold qxs at h
 obtain⟨d19,h20,h⟩:=jw h
 rcases d19 with d21|d22
 ·have wh20:=q6k a0 a1c0 h20
  dsimp only[qhz,qjw]at wh20
  obtain rfl:=oi h
  refine zk c235 ?_
  simp only[go_sem,seval,c235,wh20]
  exact⟨_,rfl⟩
 have wh20:=q6k a0 a1c0 h20
 dsimp only[qhz,qjw]at wh20
 obtain rfl:=oi h
 refine zk c235 ?_
 simp only[go_sem,seval,c235,wh20]
 exact⟨_,rfl⟩
def qxt (a0:Option (List qm))(a1c0:List UInt8):Option Bool:=
 jy (qv1 a0 a1c0) fun v1=>
 some (decide (0≤v1))
theorem js5 {a0:Option (List qm)}{a1c0:List UInt8}{r}(h:qxt a0 a1c0=some r):j6 pr (X pr) 168 [sl 2 vsi a0,.fn (.func 167) [] [.vptr (.str a1c0)]]=some (.bool r,false):=by
 unfold qxt at h
 obtain⟨v1,h2,h⟩:=jw h
 have wh2:zj pr (X pr) 235 [sl 2 vsi a0,.fn (.func 167) [] [.vptr (.str a1c0)]] []=some (Iv v1,false,[]):=jzq [] h2
 obtain rfl:=oi h
 refine zk c168 ?_
 simp only[go_sem,seval,c168,wh2]
 exact⟨_,rfl⟩
def f184 (a0:qm)(a1:qj):Option Bool:=
 some (decide (a0.k=a1.kind))
theorem j4y (hp:zb){a0:qm}{a1:qj}{r}(h:f184 a0 a1=some r):zj pr (X pr) 184 [.agg [.str a0.k,Iv a0.n],.vptr (.agg [.str a1.name,.str a1.kind,Iv a1.count,Iv a1.left,.bool a1.held])] hp=some (.bool r,false,hp):=by
 unfold f184 at h
 have hr:decide (a0.k=a1.kind)=r:=Option.some.inj h
 subst hr
 rw[zc (show pr.fns 184=some c184 from rfl) (by simp)]
 simp only[go_sem,seval,c184]<;>rfl
def qs9 (a0:Option (List qm))(a1c0:qj)(s0:Int):Option (Int⊕(Int⊕Int)):=
 cond (decide (s0<((a0.getD []).length:Int)))
  (jy (zz (a0.getD []) s0) fun v14=>
  jy (f184 v14 a1c0) fun v16=>
  cond v16
   (some (.inr (.inl s0)))
   (some (.inl (j8 .i64 (s0+1)))))
  (some (.inr (.inr s0)))
def qh5 (a0:Option (List qm))(a1c0:qj)(hp:zb)(s0:Int):qg:=⟨[(0,sl 2 vsi a0,false),(1,.fn (.func 184) [] [.vptr (.agg [.str a1c0.name,.str a1c0.kind,Iv a1c0.count,Iv a1c0.left,.bool a1c0.held])],false),(7,Lv a0,false),(8,Iv s0,false)],hp⟩
def qjp (a0:Option (List qm))(a1c0:qj)(hp:zb):Int⊕Int→qn×qg
 | .inl d=>(.ret,⟨[(4,Iv d,false)],hp⟩)
 | .inr d=>(.exit 0,⟨[(0,sl 2 vsi a0,false),(1,.fn (.func 184) [] [.vptr (.agg [.str a1c0.name,.str a1c0.kind,Iv a1c0.count,Iv a1c0.left,.bool a1c0.held])],false),(7,Lv a0,false),(8,Iv d,false),(9,.bool false,false)],hp⟩)
theorem jhr (a0:Option (List qm))(a1c0:qj)(hp:zb)(s0:Int)(r)(h:qs9 a0 a1c0 s0=some r):y6 pr qb6 (qh5 a0 a1c0 hp) (qjp a0 a1c0 hp) s0 r:=by
 unfold qs9 at h
 rcases jx h with⟨h13,h⟩|⟨h13,h⟩
 ·obtain⟨v14,h15,h⟩:=jw h
  obtain⟨v16,h17,h⟩:=jw h
  have wh17:zj pr (X pr) 184 [.agg [.str v14.k,Iv v14.n],.vptr (.agg [.str a1c0.name,.str a1c0.kind,Iv a1c0.count,Iv a1c0.left,.bool a1c0.held])] hp=some (.bool v16,false,hp):=j4y hp h17
  rcases jx h with⟨h18,h⟩|⟨h18,h⟩
  ·cases h
   exact zd (by simp only[go_sem,seval,qb6,qh5,h13,jz h15,wh17,h18,qjp]<;>rfl)
  cases h
  exact zq (by simp only[go_sem,seval,qb6,qh5,h13,jz h15,wh17,h18]<;>rfl)
 cases h
 exact zd (by simp only[go_sem,seval,qb6,qh5,h13,qjp]<;>rfl)
theorem q58 (a0:Option (List qm))(a1c0:qj)(hp:zb){s0:Int}{d}(h:itO (qs9 a0 a1c0) s0=some d):X pr (.loop qb6) (qh5 a0 a1c0 hp s0)=some (qjp a0 a1c0 hp d):=km (jhr a0 a1c0 hp) (fun d=>by rcases d with d|d<;>(intro hh;cases hh)) h
def qwn (a0:Option (List qm))(a1c0:qj):Option Int:=
 jy (itO (qs9 a0 a1c0) 0) fun d19=>match d19 with
  | .inl d21=>
   some d21
  | .inr d22=>
   some (-1)
theorem jrd (hp:zb){a0:Option (List qm)}{a1c0:qj}{r}(h:qwn a0 a1c0=some r):zj pr (X pr) 235 [sl 2 vsi a0,.fn (.func 184) [] [.vptr (.agg [.str a1c0.name,.str a1c0.kind,Iv a1c0.count,Iv a1c0.left,.bool a1c0.held])]] hp=some (Iv r,false,hp):=by
 unfold qwn at h
 obtain⟨d19,h20,h⟩:=jw h
 rcases d19 with d21|d22
 ·have wh20:=q58 a0 a1c0 hp h20
  dsimp only[qh5,qjp]at wh20
  have hr:d21=r:=Option.some.inj h
  subst hr
  rw[zc (show pr.fns 235=some c235 from rfl) (by simp)]
  simp only[go_sem,seval,c235,wh20]<;>rfl
 have wh20:=q58 a0 a1c0 hp h20
 dsimp only[qh5,qjp]at wh20
 have hr:(-1)=r:=Option.some.inj h
 subst hr
 rw[zc (show pr.fns 235=some c235 from rfl) (by simp)]
 simp only[go_sem,seval,c235,wh20]<;>rfl
def qx7 (a0:Option (List qm))(a1c0:qj):Option Bool:=
 jy (qwn a0 a1c0) fun v1=>
 some (decide (0≤v1))
theorem jxp {a0:Option (List qm)}{a1c0:qj}{r}(h:qx7 a0 a1c0=some r):j6 pr (X pr) 168 [sl 2 vsi a0,.fn (.func 184) [] [.vptr (.agg [.str a1c0.name,.str a1c0.kind,Iv a1c0.count,Iv a1c0.left,.bool a1c0.held])]]=some (.bool r,false):=by
 unfold qx7 at h
 obtain⟨v1,h2,h⟩:=jw h
 have wh2:zj pr (X pr) 235 [sl 2 vsi a0,.fn (.func 184) [] [.vptr (.agg [.str a1c0.name,.str a1c0.kind,Iv a1c0.count,Iv a1c0.left,.bool a1c0.held])]] []=some (Iv v1,false,[]):=jrd [] h2
 obtain rfl:=oi h
 refine zk c168 ?_
 simp only[go_sem,seval,c168,wh2]
 exact⟨_,rfl⟩
def f172 (a0:qm)(a1vc0:List UInt8):Option Bool:=
 jy (f167 a0 a1vc0) fun v1=>
 some (!v1)
theorem j8l (hp:zb){a0:qm}{a1vc0:List UInt8}{r}(h:f172 a0 a1vc0=some r):zj pr (X pr) 172 [.agg [.str a0.k,Iv a0.n],.vptr (.fn (.func 167) [] [.vptr (.str a1vc0)])] hp=some (.bool r,false,hp):=by
 unfold f172 at h
 obtain⟨v1,h2,h⟩:=jw h
 have wh2:zj pr (X pr) 167 [.agg [.str a0.k,Iv a0.n],.vptr (.str a1vc0)] hp=some (.bool v1,false,hp):=jd5 hp h2
 have hr:(!v1)=r:=Option.some.inj h
 subst hr
 rw[zc (show pr.fns 172=some c172 from rfl) (by simp)]
 simp only[go_sem,seval,c172,wh2]<;>rfl
def qrz (a0:Option (List qm))(a1c0vc0:List UInt8)(s0:(Option (List qm))×Int×Bool):Option (((Option (List qm))×Int×Bool)⊕(((Option (List qm))×Bool×Int))):=
 cond (decide (s0.2.1<((a0.getD []).length:Int)))
  (jy (zz (a0.getD []) s0.2.1) fun v20=>
  jy (f172 v20 a1c0vc0) fun v22=>
  cond v22
   (cond s0.2.2
    (jy (apO s0.1 [v20]) fun v26=>
    some (.inl (v26,j8 .i64 (s0.2.1+1),true)))
    (cond s0.1.isNone
     (jy (apO s0.1 [v20]) fun v29=>
     some (.inl (v29,j8 .i64 (s0.2.1+1),true)))
     (none)))
   (some (.inl (s0.1,j8 .i64 (s0.2.1+1),s0.2.2))))
  (some (.inr (s0.1,s0.2.2,s0.2.1)))
def qjm (a0:Option (List qm))(a1c0vc0:List UInt8)(hp:zb)(s0:(Option (List qm))×Int×Bool):qg:=⟨[(1,.fn (.func 172) [] [.vptr (.fn (.func 167) [] [.vptr (.str a1c0vc0)])],false),(5,sl 2 vsi s0.1,s0.2.2),(8,sl 2 vsi a0,false),(9,Lv a0,false),(10,Iv s0.2.1,false)],hp⟩
def qut (a0:Option (List qm))(a1c0vc0:List UInt8)(hp:zb)(d:((Option (List qm))×Bool×Int)):qn×qg:=(.exit 0,⟨[(1,.fn (.func 172) [] [.vptr (.fn (.func 167) [] [.vptr (.str a1c0vc0)])],false),(5,sl 2 vsi d.1,d.2.1),(8,sl 2 vsi a0,false),(9,Lv a0,false),(10,Iv d.2.2,false),(11,.bool false,false)],hp⟩)
theorem jmw (a0:Option (List qm))(a1c0vc0:List UInt8)(hp:zb)(s0:(Option (List qm))×Int×Bool)(r)(h:qrz a0 a1c0vc0 s0=some r):y6 pr qmc (qjm a0 a1c0vc0 hp) (qut a0 a1c0vc0 hp) s0 r:=by
 unfold qrz at h
 rcases jx h with⟨h19,h⟩|⟨h19,h⟩
 ·obtain⟨v20,h21,h⟩:=jw h
  obtain⟨v22,h23,h⟩:=jw h
  have wh23:zj pr (X pr) 172 [.agg [.str v20.k,Iv v20.n],.vptr (.fn (.func 167) [] [.vptr (.str a1c0vc0)])] hp=some (.bool v22,false,hp):=j8l hp h23
  rcases jx h with⟨h24,h⟩|⟨h24,h⟩
  ·rcases jx h with⟨h25,h⟩|⟨h25,h⟩
   ·obtain⟨v26,h27,h⟩:=jw h
    cases h
    exact zq (by simp only[go_sem,seval,qmc,qjm,h19,jz h21,wh23,h24,h25,qc5 h27]<;>rfl)
   rcases jx h with⟨h28,h⟩|⟨h28,h⟩
   ·obtain⟨v29,h30,h⟩:=jw h
    cases h
    exact zq (by simp only[go_sem,seval,qmc,qjm,h19,jz h21,wh23,h24,h25,h28,qc4 h30 h28]<;>rfl)
   cases h
  cases h
  exact zq (by simp only[go_sem,seval,qmc,qjm,h19,jz h21,wh23,h24]<;>rfl)
 cases h
 exact zd (by simp only[go_sem,seval,qmc,qjm,h19,qut]<;>rfl)
theorem jlf (a0:Option (List qm))(a1c0vc0:List UInt8)(hp:zb){s0:(Option (List qm))×Int×Bool}{d}(h:itO (qrz a0 a1c0vc0) s0=some d):X pr (.loop qmc) (qjm a0 a1c0vc0 hp s0)=some (qut a0 a1c0vc0 hp d):=km (jmw a0 a1c0vc0 hp) (fun d hh=>by cases hh) h
def f171 (a0:Option (List qm))(a1c0vc0:List UInt8):Option ((Option (List qm))×Bool):=
 jy (itO (qrz a0 a1c0vc0) (none,0,false)) fun d31=>
 some (d31.1,d31.2.1)
theorem j41 (hp:zb){a0:Option (List qm)}{a1c0vc0:List UInt8}{r}(h:f171 a0 a1c0vc0=some r):zj pr (X pr) 171 [sl 2 vsi a0,.fn (.func 172) [] [.vptr (.fn (.func 167) [] [.vptr (.str a1c0vc0)])]] hp=some (sl 2 vsi r.1,r.2,hp):=by
 unfold f171 at h
 obtain⟨d31,h32,h⟩:=jw h
 have wh32:=jlf a0 a1c0vc0 hp h32
 dsimp only[qjm,qut,qd8]at wh32
 have hr:(d31.1,d31.2.1)=r:=Option.some.inj h
 subst hr
 rw[zc (show pr.fns 171=some c171 from rfl) (by simp)]
 simp only[go_sem,seval,c171,wh32]<;>rfl
def f173 (a0:Option (List qm))(a1:qm)(a2c0:List UInt8):Option ((Option (List qm))×Bool):=
 jy (qxs a0 a2c0) fun v1=>
 cond (decide (0≤v1))
  (jy (jmb a0 v1 a1) fun v4=>
  some (v4,false))
  (jy (f239 a0 a1) fun v6=>
  some (v6,true))
theorem j8k {a0:Option (List qm)}{a1:qm}{a2c0:List UInt8}{r}(h:f173 a0 a1 a2c0=some r):j6 pr (X pr) 173 [sl 2 vsi a0,.agg [.str a1.k,Iv a1.n],.fn (.func 167) [] [.vptr (.str a2c0)]]=some (sl 2 vsi r.1,r.2):=by
 unfold f173 at h
 obtain⟨v1,h2,h⟩:=jw h
 have wh2:j6 pr (X pr) 235 [sl 2 vsi a0,.fn (.func 167) [] [.vptr (.str a2c0)]]=some (Iv v1,false):=jsk h2
 rcases jx h with⟨h3,h⟩|⟨h3,h⟩
 ·obtain⟨v4,h5,h⟩:=jw h
  have wh5:j6 pr (X pr) 237 [sl 2 vsi a0,Iv v1,.fn (.func 238) [] [.vptr (.agg [.str a1.k,Iv a1.n])]]=some (sl 2 vsi v4,false):=jci h5
  obtain rfl:=oi h
  refine ki c173 ?_
  simp only[go_sem,seval,c173,wh2,h3,wh5]
  exact⟨_,rfl⟩
 obtain⟨v6,h7,h⟩:=jw h
 have wh7:=j8b h7
 obtain rfl:=oi h
 refine ki c173 ?_
 simp only[go_sem,seval,c173,wh2,h3,wh7]
 exact⟨_,rfl⟩
def f174 (a0:qi)(a1:qi):Option Bool:=
 some (decide (a0.k=a1.k))
theorem j43 (hp:zb){a0:qi}{a1:qi}{r}(h:f174 a0 a1=some r):zj pr (X pr) 174 [.agg [.str a0.k,Iv a0.a,Iv a0.b],.vptr (.agg [.str a1.k,Iv a1.a,Iv a1.b])] hp=some (.bool r,false,hp):=by
 unfold f174 at h
 have hr:decide (a0.k=a1.k)=r:=Option.some.inj h
 subst hr
 rw[zc (show pr.fns 174=some c174 from rfl) (by simp)]
 simp only[go_sem,seval,c174]<;>rfl
def qs4 (a0:Option (List qi))(a1c0:qi)(s0:Int):Option (Int⊕(Int⊕Int)):=
 cond (decide (s0<((a0.getD []).length:Int)))
  (jy (zz (a0.getD []) s0) fun v14=>
  jy (f174 v14 a1c0) fun v16=>
  cond v16
   (some (.inr (.inl s0)))
   (some (.inl (j8 .i64 (s0+1)))))
  (some (.inr (.inr s0)))
def qhu (a0:Option (List qi))(a1c0:qi)(s0:Int):qg:=⟨[(0,sl 3 zp a0,false),(1,.fn (.func 174) [] [.vptr (.agg [.str a1c0.k,Iv a1c0.a,Iv a1c0.b])],false),(7,Lv a0,false),(8,Iv s0,false)],[]⟩
def qi6 (a0:Option (List qi))(a1c0:qi):Int⊕Int→qn×qg
 | .inl d=>(.ret,⟨[(4,Iv d,false)],[]⟩)
 | .inr d=>(.exit 0,⟨[(0,sl 3 zp a0,false),(1,.fn (.func 174) [] [.vptr (.agg [.str a1c0.k,Iv a1c0.a,Iv a1c0.b])],false),(7,Lv a0,false),(8,Iv d,false),(9,.bool false,false)],[]⟩)
theorem jhv (a0:Option (List qi))(a1c0:qi)(s0:Int)(r)(h:qs4 a0 a1c0 s0=some r):y6 pr qgy (qhu a0 a1c0) (qi6 a0 a1c0) s0 r:=by
 unfold qs4 at h
 rcases jx h with⟨h13,h⟩|⟨h13,h⟩
 ·obtain⟨v14,h15,h⟩:=jw h
  obtain⟨v16,h17,h⟩:=jw h
  have wh17:zj pr (X pr) 174 [.agg [.str v14.k,Iv v14.a,Iv v14.b],.vptr (.agg [.str a1c0.k,Iv a1c0.a,Iv a1c0.b])] []=some (.bool v16,false,[]):=j43 [] h17
  rcases jx h with⟨h18,h⟩|⟨h18,h⟩
  ·cases h
   exact zd (by simp only[go_sem,seval,qgy,qhu,h13,jz h15,wh17,h18,qi6]<;>rfl)
  cases h
  exact zq (by simp only[go_sem,seval,qgy,qhu,h13,jz h15,wh17,h18]<;>rfl)
 cases h
 exact zd (by simp only[go_sem,seval,qgy,qhu,h13,qi6]<;>rfl)
theorem q5r (a0:Option (List qi))(a1c0:qi){s0:Int}{d}(h:itO (qs4 a0 a1c0) s0=some d):X pr (.loop qgy) (qhu a0 a1c0 s0)=some (qi6 a0 a1c0 d):=km (jhv a0 a1c0) (fun d=>by rcases d with d|d<;>(intro hh;cases hh)) h
def qnh (a0:Option (List qi))(a1c0:qi):Option Int:=
 jy (itO (qs4 a0 a1c0) 0) fun d19=>match d19 with
  | .inl d21=>
   some d21
  | .inr d22=>
   some (-1)
theorem jgj {a0:Option (List qi)}{a1c0:qi}{r}(h:qnh a0 a1c0=some r):j6 pr (X pr) 240 [sl 3 zp a0,.fn (.func 174) [] [.vptr (.agg [.str a1c0.k,Iv a1c0.a,Iv a1c0.b])]]=some (Iv r,false):=by
 unfold qnh at h
 obtain⟨d19,h20,h⟩:=jw h
 rcases d19 with d21|d22
 ·have wh20:=q5r a0 a1c0 h20
  dsimp only[qhu,qi6]at wh20
  obtain rfl:=oi h
  refine zk c240 ?_
  simp only[go_sem,seval,c240,wh20]
  exact⟨_,rfl⟩
 have wh20:=q5r a0 a1c0 h20
 dsimp only[qhu,qi6]at wh20
 obtain rfl:=oi h
 refine zk c240 ?_
 simp only[go_sem,seval,c240,wh20]
 exact⟨_,rfl⟩
def qw6 (a0:Option (List qi))(a1c0:qi):Option Bool:=
 jy (qnh a0 a1c0) fun v1=>
 some (decide (0≤v1))
theorem jui {a0:Option (List qi)}{a1c0:qi}{r}(h:qw6 a0 a1c0=some r):j6 pr (X pr) 175 [sl 3 zp a0,.fn (.func 174) [] [.vptr (.agg [.str a1c0.k,Iv a1c0.a,Iv a1c0.b])]]=some (.bool r,false):=by
 unfold qw6 at h
 obtain⟨v1,h2,h⟩:=jw h
 have wh2:j6 pr (X pr) 240 [sl 3 zp a0,.fn (.func 174) [] [.vptr (.agg [.str a1c0.k,Iv a1c0.a,Iv a1c0.b])]]=some (Iv v1,false):=jgj h2
 obtain rfl:=oi h
 refine zk c175 ?_
 simp only[go_sem,seval,c175,wh2]
 exact⟨_,rfl⟩
def f177 (a0:Option (List qi))(a1:qi)(a2c0:qi):Option ((Option (List qi))×Bool):=
 jy (qnh a0 a2c0) fun v1=>
 cond (decide (0≤v1))
  (jy (jmg a0 v1 a1) fun v4=>
  some (v4,false))
  (jy (f243 a0 a1) fun v6=>
  some (v6,true))
theorem j3o {a0:Option (List qi)}{a1:qi}{a2c0:qi}{r}(h:f177 a0 a1 a2c0=some r):j6 pr (X pr) 177 [sl 3 zp a0,.agg [.str a1.k,Iv a1.a,Iv a1.b],.fn (.func 174) [] [.vptr (.agg [.str a2c0.k,Iv a2c0.a,Iv a2c0.b])]]=some (sl 3 zp r.1,r.2):=by
 unfold f177 at h
 obtain⟨v1,h2,h⟩:=jw h
 have wh2:j6 pr (X pr) 240 [sl 3 zp a0,.fn (.func 174) [] [.vptr (.agg [.str a2c0.k,Iv a2c0.a,Iv a2c0.b])]]=some (Iv v1,false):=jgj h2
 rcases jx h with⟨h3,h⟩|⟨h3,h⟩
 ·obtain⟨v4,h5,h⟩:=jw h
  have wh5:j6 pr (X pr) 241 [sl 3 zp a0,Iv v1,.fn (.func 242) [] [.vptr (.agg [.str a1.k,Iv a1.a,Iv a1.b])]]=some (sl 3 zp v4,false):=je0 h5
  obtain rfl:=oi h
  refine ki c177 ?_
  simp only[go_sem,seval,c177,wh2,h3,wh5]
  exact⟨_,rfl⟩
 obtain⟨v6,h7,h⟩:=jw h
 have wh7:=j8x h7
 obtain rfl:=oi h
 refine ki c177 ?_
 simp only[go_sem,seval,c177,wh2,h3,wh7]
 exact⟨_,rfl⟩
def f192 (a0:qi)(a1:ql):Option Bool:=
 jy (zz (a1.names.getD []) 1) fun v1=>
 some (decide (a0.k=v1))
theorem za4 (hp:zb){a0:qi}{a1:ql}{r}(h:f192 a0 a1=some r):zj pr (X pr) 192 [.agg [.str a0.k,Iv a0.a,Iv a0.b],.vptr (.agg [Iv a1.number,.str a1.kind,sl 1 yc a1.names,sl 1 yb a1.values,.str a1.text])] hp=some (.bool r,false,hp):=by
 unfold f192 at h
 obtain⟨v1,h2,h⟩:=jw h
 have hr:decide (a0.k=v1)=r:=Option.some.inj h
 subst hr
 rw[zc (show pr.fns 192=some c192 from rfl) (by simp)]
 simp only[go_sem,seval,c192,jz h2]<;>rfl
def qo2 (a0:Option (List qi))(a1c0:ql)(s0:Int):Option (Int⊕(Int⊕Int)):=
 cond (decide (s0<((a0.getD []).length:Int)))
  (jy (zz (a0.getD []) s0) fun v14=>
  jy (f192 v14 a1c0) fun v16=>
  cond v16
   (some (.inr (.inl s0)))
   (some (.inl (j8 .i64 (s0+1)))))
  (some (.inr (.inr s0)))
def qh1 (a0:Option (List qi))(a1c0:ql)(s0:Int):qg:=⟨[(0,sl 3 zp a0,false),(1,.fn (.func 192) [] [.vptr (.agg [Iv a1c0.number,.str a1c0.kind,sl 1 yc a1c0.names,sl 1 yb a1c0.values,.str a1c0.text])],false),(7,Lv a0,false),(8,Iv s0,false)],[]⟩
def qjn (a0:Option (List qi))(a1c0:ql):Int⊕Int→qn×qg
 | .inl d=>(.ret,⟨[(4,Iv d,false)],[]⟩)
 | .inr d=>(.exit 0,⟨[(0,sl 3 zp a0,false),(1,.fn (.func 192) [] [.vptr (.agg [Iv a1c0.number,.str a1c0.kind,sl 1 yc a1c0.names,sl 1 yb a1c0.values,.str a1c0.text])],false),(7,Lv a0,false),(8,Iv d,false),(9,.bool false,false)],[]⟩)
theorem jja (a0:Option (List qi))(a1c0:ql)(s0:Int)(r)(h:qo2 a0 a1c0 s0=some r):y6 pr qgy (qh1 a0 a1c0) (qjn a0 a1c0) s0 r:=by
 unfold qo2 at h
 rcases jx h with⟨h13,h⟩|⟨h13,h⟩
 ·obtain⟨v14,h15,h⟩:=jw h
  obtain⟨v16,h17,h⟩:=jw h
  have wh17:zj pr (X pr) 192 [.agg [.str v14.k,Iv v14.a,Iv v14.b],.vptr (.agg [Iv a1c0.number,.str a1c0.kind,sl 1 yc a1c0.names,sl 1 yb a1c0.values,.str a1c0.text])] []=some (.bool v16,false,[]):=za4 [] h17
  rcases jx h with⟨h18,h⟩|⟨h18,h⟩
  ·cases h
   exact zd (by simp only[go_sem,seval,qgy,qh1,h13,jz h15,wh17,h18,qjn]<;>rfl)
  cases h
  exact zq (by simp only[go_sem,seval,qgy,qh1,h13,jz h15,wh17,h18]<;>rfl)
 cases h
 exact zd (by simp only[go_sem,seval,qgy,qh1,h13,qjn]<;>rfl)
theorem q5u (a0:Option (List qi))(a1c0:ql){s0:Int}{d}(h:itO (qo2 a0 a1c0) s0=some d):X pr (.loop qgy) (qh1 a0 a1c0 s0)=some (qjn a0 a1c0 d):=km (jja a0 a1c0) (fun d=>by rcases d with d|d<;>(intro hh;cases hh)) h
def qyd (a0:Option (List qi))(a1c0:ql):Option Int:=
 jy (itO (qo2 a0 a1c0) 0) fun d19=>match d19 with
  | .inl d21=>
   some d21
  | .inr d22=>
   some (-1)
theorem jwp {a0:Option (List qi)}{a1c0:ql}{r}(h:qyd a0 a1c0=some r):j6 pr (X pr) 240 [sl 3 zp a0,.fn (.func 192) [] [.vptr (.agg [Iv a1c0.number,.str a1c0.kind,sl 1 yc a1c0.names,sl 1 yb a1c0.values,.str a1c0.text])]]=some (Iv r,false):=by
 unfold qyd at h
 obtain⟨d19,h20,h⟩:=jw h
 rcases d19 with d21|d22
 ·have wh20:=q5u a0 a1c0 h20
  dsimp only[qh1,qjn]at wh20
  obtain rfl:=oi h
  refine zk c240 ?_
  simp only[go_sem,seval,c240,wh20]
  exact⟨_,rfl⟩
 have wh20:=q5u a0 a1c0 h20
 dsimp only[qh1,qjn]at wh20
 obtain rfl:=oi h
 refine zk c240 ?_
 simp only[go_sem,seval,c240,wh20]
 exact⟨_,rfl⟩
def qye (a0:Option (List qi))(a1c0:ql):Option Bool:=
 jy (qyd a0 a1c0) fun v1=>
 some (decide (0≤v1))
theorem jvj {a0:Option (List qi)}{a1c0:ql}{r}(h:qye a0 a1c0=some r):j6 pr (X pr) 175 [sl 3 zp a0,.fn (.func 192) [] [.vptr (.agg [Iv a1c0.number,.str a1c0.kind,sl 1 yc a1c0.names,sl 1 yb a1c0.values,.str a1c0.text])]]=some (.bool r,false):=by
 unfold qye at h
 obtain⟨v1,h2,h⟩:=jw h
 have wh2:j6 pr (X pr) 240 [sl 3 zp a0,.fn (.func 192) [] [.vptr (.agg [Iv a1c0.number,.str a1c0.kind,sl 1 yc a1c0.names,sl 1 yb a1c0.values,.str a1c0.text])]]=some (Iv v1,false):=jwp h2
 obtain rfl:=oi h
 refine zk c175 ?_
 simp only[go_sem,seval,c175,wh2]
 exact⟨_,rfl⟩
def f187 (a0:qm)(a1:qj):Option Bool:=
 some (decide (a0.k=a1.name))
theorem j2z (hp:zb){a0:qm}{a1:qj}{r}(h:f187 a0 a1=some r):zj pr (X pr) 187 [.agg [.str a0.k,Iv a0.n],.vptr (.agg [.str a1.name,.str a1.kind,Iv a1.count,Iv a1.left,.bool a1.held])] hp=some (.bool r,false,hp):=by
 unfold f187 at h
 have hr:decide (a0.k=a1.name)=r:=Option.some.inj h
 subst hr
 rw[zc (show pr.fns 187=some c187 from rfl) (by simp)]
 simp only[go_sem,seval,c187]<;>rfl
def qyn (a0:Option (List qm))(a1c0:qj)(s0:Int):Option (Int⊕(Int⊕Int)):=
 cond (decide (s0<((a0.getD []).length:Int)))
  (jy (zz (a0.getD []) s0) fun v14=>
  jy (f187 v14 a1c0) fun v16=>
  cond v16
   (some (.inr (.inl s0)))
   (some (.inl (j8 .i64 (s0+1)))))
  (some (.inr (.inr s0)))
def qjq (a0:Option (List qm))(a1c0:qj)(s0:Int):qg:=⟨[(0,sl 2 vsi a0,false),(1,.fn (.func 187) [] [.vptr (.agg [.str a1c0.name,.str a1c0.kind,Iv a1c0.count,Iv a1c0.left,.bool a1c0.held])],false),(7,Lv a0,false),(8,Iv s0,false)],[]⟩
def qlr (a0:Option (List qm))(a1c0:qj):Int⊕Int→qn×qg
 | .inl d=>(.ret,⟨[(4,Iv d,false)],[]⟩)
 | .inr d=>(.exit 0,⟨[(0,sl 2 vsi a0,false),(1,.fn (.func 187) [] [.vptr (.agg [.str a1c0.name,.str a1c0.kind,Iv a1c0.count,Iv a1c0.left,.bool a1c0.held])],false),(7,Lv a0,false),(8,Iv d,false),(9,.bool false,false)],[]⟩)
theorem jmm (a0:Option (List qm))(a1c0:qj)(s0:Int)(r)(h:qyn a0 a1c0 s0=some r):y6 pr qpb (qjq a0 a1c0) (qlr a0 a1c0) s0 r:=by
 unfold qyn at h
 rcases jx h with⟨h13,h⟩|⟨h13,h⟩
 ·obtain⟨v14,h15,h⟩:=jw h
  obtain⟨v16,h17,h⟩:=jw h
  have wh17:zj pr (X pr) 187 [.agg [.str v14.k,Iv v14.n],.vptr (.agg [.str a1c0.name,.str a1c0.kind,Iv a1c0.count,Iv a1c0.left,.bool a1c0.held])] []=some (.bool v16,false,[]):=j2z [] h17
  rcases jx h with⟨h18,h⟩|⟨h18,h⟩
  ·cases h
   exact zd (by simp only[go_sem,seval,qpb,qjq,h13,jz h15,wh17,h18,qlr]<;>rfl)
  cases h
  exact zq (by simp only[go_sem,seval,qpb,qjq,h13,jz h15,wh17,h18]<;>rfl)
 cases h
 exact zd (by simp only[go_sem,seval,qpb,qjq,h13,qlr]<;>rfl)
theorem q9r (a0:Option (List qm))(a1c0:qj){s0:Int}{d}(h:itO (qyn a0 a1c0) s0=some d):X pr (.loop qpb) (qjq a0 a1c0 s0)=some (qlr a0 a1c0 d):=km (jmm a0 a1c0) (fun d=>by rcases d with d|d<;>(intro hh;cases hh)) h
def f188 (a0:Option (List qm))(a1c0:qj):Option Int:=
 jy (itO (qyn a0 a1c0) 0) fun d19=>match d19 with
  | .inl d21=>
   some d21
  | .inr d22=>
   some (-1)
theorem jkk {a0:Option (List qm)}{a1c0:qj}{r}(h:f188 a0 a1c0=some r):j6 pr (X pr) 188 [sl 2 vsi a0,.fn (.func 187) [] [.vptr (.agg [.str a1c0.name,.str a1c0.kind,Iv a1c0.count,Iv a1c0.left,.bool a1c0.held])]]=some (Iv r,false):=by
 unfold f188 at h
 obtain⟨d19,h20,h⟩:=jw h
 rcases d19 with d21|d22
 ·have wh20:=q9r a0 a1c0 h20
  dsimp only[qjq,qlr]at wh20
  obtain rfl:=oi h
  refine zk c188 ?_
  simp only[go_sem,seval,c188,wh20]
  exact⟨_,rfl⟩
 have wh20:=q9r a0 a1c0 h20
 dsimp only[qjq,qlr]at wh20
 obtain rfl:=oi h
 refine zk c188 ?_
 simp only[go_sem,seval,c188,wh20]
 exact⟨_,rfl⟩
def f191 (a0:Option (List qm))(a1:qm)(a2c0:qj):Option ((Option (List qm))×Bool):=
 jy (f188 a0 a2c0) fun v1=>
 cond (decide (0≤v1))
  (jy (jj5 a0 v1 a1) fun v4=>
  some (v4,false))
  (jy (f250 a0 a1) fun v6=>
  some (v6,true))
theorem j4p {a0:Option (List qm)}{a1:qm}{a2c0:qj}{r}(h:f191 a0 a1 a2c0=some r):j6 pr (X pr) 191 [sl 2 vsi a0,.agg [.str a1.k,Iv a1.n],.fn (.func 187) [] [.vptr (.agg [.str a2c0.name,.str a2c0.kind,Iv a2c0.count,Iv a2c0.left,.bool a2c0.held])]]=some (sl 2 vsi r.1,r.2):=by
 unfold f191 at h
 obtain⟨v1,h2,h⟩:=jw h
 have wh2:j6 pr (X pr) 188 [sl 2 vsi a0,.fn (.func 187) [] [.vptr (.agg [.str a2c0.name,.str a2c0.kind,Iv a2c0.count,Iv a2c0.left,.bool a2c0.held])]]=some (Iv v1,false):=jkk h2
 rcases jx h with⟨h3,h⟩|⟨h3,h⟩
 ·obtain⟨v4,h5,h⟩:=jw h
  have wh5:j6 pr (X pr) 248 [sl 2 vsi a0,Iv v1,.fn (.func 249) [] [.vptr (.agg [.str a1.k,Iv a1.n])]]=some (sl 2 vsi v4,false):=jdt h5
  obtain rfl:=oi h
  refine ki c191 ?_
  simp only[go_sem,seval,c191,wh2,h3,wh5]
  exact⟨_,rfl⟩
 obtain⟨v6,h7,h⟩:=jw h
 have wh7:=j4k h7
 obtain rfl:=oi h
 refine ki c191 ?_
 simp only[go_sem,seval,c191,wh2,h3,wh7]
 exact⟨_,rfl⟩
end Go.Z
end
