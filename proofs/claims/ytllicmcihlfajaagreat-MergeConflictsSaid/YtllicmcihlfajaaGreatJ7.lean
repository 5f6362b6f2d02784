/- Joined texts, part 7: lemmas for the statement. No condition. -/
import Derived.Test.YtllicmcihlfajaaGreatJ4
import Derived.Test.YtllicmcihlfajaaGreatRows
import Derived.Test.YtllicmcihlfajaaGreatJ6
import Derived.Test.YtllicmcihlfajaaGreatJ5
set_option maxHeartbeats 4000000
set_option linter.unusedSimpArgs false
set_option linter.unusedVariables false
open Nat (reduceEqDiff reduceLT reduceLeDiff reduceMul reduceAdd reduceSub)
open Go.Proofs.Tryz
namespace Go.Proofs.YtllicmcihlfajaaGreat
open Go.cE
open Go.ChangeShapes Go.WideShapes Go.ChangeAt Go.RowKit
variable {w:World} {H:Type} {enc:TypeId×Value->H}
def aCx (b:Bool):List PV:=[.val (.bool b)]
def G9 (_:ByteArray):Prop:=True
theorem d9:nj Tryz.prog w enc 9 1 gC G9 :=
 .str underlying9
def G3 (n:Int):Prop:=IntKind.i64.min<=n/\n<=IntKind.i64.max
theorem d3:nj Tryz.prog w enc 3 1 (λn:Int=>[.val (.int .i64 n)]) G3 :=
 .aFS .i64 underlying3
def G4 (_:Bool):Prop:=True
theorem d4:nj Tryz.prog w enc 4 1 aCx G4 :=
 .bool underlying4
def aCy (l:List ByteArray):Prop:=(∀x∈l,G9 x)/\l.length<=reachBytes
theorem d124:nj Tryz.prog w enc 124 1 (λl:List ByteArray=>[.aU (l.map gC)]) aCy:=(nj.slice underlying124 (by kernel_rfl) (by decide) (of_decide_eq_true (by kernel_rfl)) d9).map id id (λ_=>rfl) (λ_=>rfl) (λ_ h=>h)
def aCz (x:Attr):Prop:=G9 x.name/\G3 x.low/\G3 x.high/\aCy x.names/\True
theorem d126:nj Tryz.prog w enc 126 4 (λx:Attr=>[.val (.string x.name),.val (.int .i64 x.low),.val (.int .i64 x.high),.aU (x.names.map gC)]) aCz:=(nj.struct underlying126 (by kernel_rfl) (.cons rfl (by kernel_rfl) d9 (.cons rfl (by kernel_rfl) d3 (.cons rfl (by kernel_rfl) d3 (.cons rfl (by kernel_rfl) d124 (.nil _)))))).map (λx=>⟨x.1,x.2.1,x.2.2.1,x.2.2.2.1⟩) (λa=>(a.name,a.low,a.high,a.names,())) (λ_=>rfl) (λ_=>rfl) (λ_ h=>h)
def aCA (l:List Attr):Prop:=(∀x∈l,aCz x)/\l.length<=reachBytes
theorem d127:nj Tryz.prog w enc 127 1 (λl:List Attr=>[.aU (l.map aV)]) aCA:=(nj.slice underlying127 (by kernel_rfl) (by decide) (of_decide_eq_true (by kernel_rfl)) d126).map id id (λ_=>rfl) (λ_=>rfl) (λ_ h=>h)
def aCB (x:qh):Prop:=G9 x.name/\G3 x.parent/\G4 x.abs/\aCA x.attrs/\True
theorem d129:nj Tryz.prog w enc 129 4 (λx:qh=>[.val (.string x.name),.val (.int .i64 x.parent),.val (.bool x.abs),.aU (x.attrs.map aV)]) aCB:=(nj.struct underlying129 (by kernel_rfl) (.cons rfl (by kernel_rfl) d9 (.cons rfl (by kernel_rfl) d3 (.cons rfl (by kernel_rfl) d4 (.cons rfl (by kernel_rfl) d127 (.nil _)))))).map (λx=>⟨x.1,x.2.1,x.2.2.1,x.2.2.2.1⟩) (λa=>(a.name,a.parent,a.abs,a.attrs,())) (λ_=>rfl) (λ_=>rfl) (λ_ h=>h)
def G22 (l:List qh):Prop:=(∀x∈l,aCB x)/\l.length<=reachBytes
theorem d22:nj Tryz.prog w enc 22 1 (λl:List qh=>[.aU (l.map aJ)]) G22:=(nj.slice underlying22 (by kernel_rfl) (by decide) (of_decide_eq_true (by kernel_rfl)) d129).map id id (λ_=>rfl) (λ_=>rfl) (λ_ h=>h)
def aCC (x:rZ):Prop:=G9 x.name/\G3 x.src/\G3 x.dst/\G3 x.lB/\G3 x.jd/\G3 x.qi/\G3 x.mg/\True
theorem d131:nj Tryz.prog w enc 131 7 (λx:rZ=>[.val (.string x.name),.val (.int .i64 x.src),.val (.int .i64 x.dst),.val (.int .i64 x.lB),.val (.int .i64 x.jd),.val (.int .i64 x.qi),.val (.int .i64 x.mg)]) aCC:=(nj.struct underlying131 (by kernel_rfl) (.cons rfl (by kernel_rfl) d9 (.cons rfl (by kernel_rfl) d3 (.cons rfl (by kernel_rfl) d3 (.cons rfl (by kernel_rfl) d3 (.cons rfl (by kernel_rfl) d3 (.cons rfl (by kernel_rfl) d3 (.cons rfl (by kernel_rfl) d3 (.nil _))))))))).map (λx=>⟨x.1,x.2.1,x.2.2.1,x.2.2.2.1,x.2.2.2.2.1,x.2.2.2.2.2.1,x.2.2.2.2.2.2.1⟩) (λa=>(a.name,a.src,a.dst,a.lB,a.jd,a.qi,a.mg,())) (λ_=>rfl) (λ_=>rfl) (λ_ h=>h)
def G23 (l:List rZ):Prop:=(∀x∈l,aCC x)/\l.length<=reachBytes
theorem d23:nj Tryz.prog w enc 23 1 (λl:List rZ=>[.aU (l.map aK)]) G23:=(nj.slice underlying23 (by kernel_rfl) (by decide) (of_decide_eq_true (by kernel_rfl)) d131).map id id (λ_=>rfl) (λ_=>rfl) (λ_ h=>h)
def G25 (x:Types):Prop:=G22 x.nodes/\G23 x.au/\True
theorem d25:nj Tryz.prog w enc 25 2 (λx:Types=>[.aU (x.nodes.map aJ),.aU (x.au.map aK)]) G25:=(nj.struct underlying25 (by kernel_rfl) (.cons rfl (by kernel_rfl) d22 (.cons rfl (by kernel_rfl) d23 (.nil _)))).map (λx=>⟨x.1,x.2.1⟩) (λa=>(a.nodes,a.au,())) (λ_=>rfl) (λ_=>rfl) (λ_ h=>h)
def G26 (l:List Int):Prop:=(∀x∈l,G3 x)/\l.length<=reachBytes
theorem d26:nj Tryz.prog w enc 26 1 (λl:List Int=>[.aU (l.map encI)]) G26:=(nj.slice underlying26 (by kernel_rfl) (by decide) (of_decide_eq_true (by kernel_rfl)) d3).map id id (λ_=>rfl) (λ_=>rfl) (λ_ h=>h)
def aCD (x:Edge):Prop:=G3 x.type/\G3 x.src/\G3 x.dst/\True
theorem d133:nj Tryz.prog w enc 133 3 (λx:Edge=>[.val (.int .i64 x.type),.val (.int .i64 x.src),.val (.int .i64 x.dst)]) aCD:=(nj.struct underlying133 (by kernel_rfl) (.cons rfl (by kernel_rfl) d3 (.cons rfl (by kernel_rfl) d3 (.cons rfl (by kernel_rfl) d3 (.nil _))))).map (λx=>⟨x.1,x.2.1,x.2.2.1⟩) (λa=>(a.type,a.src,a.dst,())) (λ_=>rfl) (λ_=>rfl) (λ_ h=>h)
def G27 (l:List Edge):Prop:=(∀x∈l,aCD x)/\l.length<=reachBytes
theorem d27:nj Tryz.prog w enc 27 1 (λl:List Edge=>[.aU (l.map bf)]) G27:=(nj.slice underlying27 (by kernel_rfl) (by decide) (of_decide_eq_true (by kernel_rfl)) d133).map id id (λ_=>rfl) (λ_=>rfl) (λ_ h=>h)
def G29 (x:dI):Prop:=G26 x.nodes/\G27 x.au/\True
theorem d29:nj Tryz.prog w enc 29 2 (λx:dI=>[.aU (x.nodes.map encI),.aU (x.au.map bf)]) G29:=(nj.struct underlying29 (by kernel_rfl) (.cons rfl (by kernel_rfl) d26 (.cons rfl (by kernel_rfl) d27 (.nil _)))).map (λx=>⟨x.1,x.2.1⟩) (λa=>(a.nodes,a.au,())) (λ_=>rfl) (λ_=>rfl) (λ_ h=>h)
def G30 (l:List (List Int)):Prop:=(∀x∈l,G26 x)/\l.length<=reachBytes
theorem d30:nj Tryz.prog w enc 30 1 (λl:List (List Int)=>[.aU (l.map b9)]) G30:=(nj.slice underlying30 (by kernel_rfl) (by decide) (of_decide_eq_true (by kernel_rfl)) d26).map id id (λ_=>rfl) (λ_=>rfl) (λ_ h=>h)
def G32 (x:Host):Prop:=G29 x.graph/\G30 x.values/\True
theorem d32:nj Tryz.prog w enc 32 3 (λx:Host=>[.aU (x.graph.nodes.map encI),.aU (x.graph.au.map bf),.aU (x.values.map b9)]) G32:=(nj.struct underlying32 (by kernel_rfl) (.cons rfl (by kernel_rfl) d29 (.cons rfl (by kernel_rfl) d30 (.nil _)))).map (λx=>⟨x.1,x.2.1⟩) (λa=>(a.graph,a.values,())) (λ_=>rfl) (λ_=>rfl) (λ_ h=>h)
def G34 (x:az):Prop:=G32 x.host/\G26 x.nodes/\G26 x.au/\G3 x.next/\True
theorem d34:nj Tryz.prog w enc 34 6 (λx:az=>[.aU (x.host.graph.nodes.map encI),.aU (x.host.graph.au.map bf),.aU (x.host.values.map b9),.aU (x.nodes.map encI),.aU (x.au.map encI),.val (.int .i64 x.next)]) G34:=(nj.struct underlying34 (by kernel_rfl) (.cons rfl (by kernel_rfl) d32 (.cons rfl (by kernel_rfl) d26 (.cons rfl (by kernel_rfl) d26 (.cons rfl (by kernel_rfl) d3 (.nil _)))))).map (λx=>⟨x.1,x.2.1,x.2.2.1,x.2.2.2.1⟩) (λa=>(a.host,a.nodes,a.au,a.next,())) (λ_=>rfl) (λ_=>rfl) (λ_ h=>h)
def G79 (x:aj):Prop:=G3 x.id/\G3 x.type/\G26 x.values/\True
theorem d79:nj Tryz.prog w enc 79 3 (λx:aj=>[.val (.int .i64 x.id),.val (.int .i64 x.type),.aU (x.values.map encI)]) G79:=(nj.struct underlying79 (by kernel_rfl) (.cons rfl (by kernel_rfl) d3 (.cons rfl (by kernel_rfl) d3 (.cons rfl (by kernel_rfl) d26 (.nil _))))).map (λx=>⟨x.1,x.2.1,x.2.2.1⟩) (λa=>(a.id,a.type,a.values,())) (λ_=>rfl) (λ_=>rfl) (λ_ h=>h)
def G35 (l:List aj):Prop:=(∀x∈l,G79 x)/\l.length<=reachBytes
theorem d35:nj Tryz.prog w enc 35 1 (λl:List aj=>[.aU (l.map ag)]) G35:=(nj.slice underlying35 (by kernel_rfl) (by decide) (of_decide_eq_true (by kernel_rfl)) d79).map id id (λ_=>rfl) (λ_=>rfl) (λ_ h=>h)
def G84 (x:ak):Prop:=G3 x.id/\G3 x.type/\G3 x.src/\G3 x.dst/\True
theorem d84:nj Tryz.prog w enc 84 4 (λx:ak=>[.val (.int .i64 x.id),.val (.int .i64 x.type),.val (.int .i64 x.src),.val (.int .i64 x.dst)]) G84:=(nj.struct underlying84 (by kernel_rfl) (.cons rfl (by kernel_rfl) d3 (.cons rfl (by kernel_rfl) d3 (.cons rfl (by kernel_rfl) d3 (.cons rfl (by kernel_rfl) d3 (.nil _)))))).map (λx=>⟨x.1,x.2.1,x.2.2.1,x.2.2.2.1⟩) (λa=>(a.id,a.type,a.src,a.dst,())) (λ_=>rfl) (λ_=>rfl) (λ_ h=>h)
def G36 (l:List ak):Prop:=(∀x∈l,G84 x)/\l.length<=reachBytes
theorem d36:nj Tryz.prog w enc 36 1 (λl:List ak=>[.aU (l.map ah)]) G36:=(nj.slice underlying36 (by kernel_rfl) (by decide) (of_decide_eq_true (by kernel_rfl)) d84).map id id (λ_=>rfl) (λ_=>rfl) (λ_ h=>h)
def G87 (x:aO):Prop:=G3 x.id/\G3 x.attr/\G3 x.old/\G3 x.new/\True
theorem d87:nj Tryz.prog w enc 87 4 (λx:aO=>[.val (.int .i64 x.id),.val (.int .i64 x.attr),.val (.int .i64 x.old),.val (.int .i64 x.new)]) G87:=(nj.struct underlying87 (by kernel_rfl) (.cons rfl (by kernel_rfl) d3 (.cons rfl (by kernel_rfl) d3 (.cons rfl (by kernel_rfl) d3 (.cons rfl (by kernel_rfl) d3 (.nil _)))))).map (λx=>⟨x.1,x.2.1,x.2.2.1,x.2.2.2.1⟩) (λa=>(a.id,a.attr,a.old,a.new,())) (λ_=>rfl) (λ_=>rfl) (λ_ h=>h)
def G37 (l:List aO):Prop:=(∀x∈l,G87 x)/\l.length<=reachBytes
theorem d37:nj Tryz.prog w enc 37 1 (λl:List aO=>[.aU (l.map aH)]) G37:=(nj.slice underlying37 (by kernel_rfl) (by decide) (of_decide_eq_true (by kernel_rfl)) d87).map id id (λ_=>rfl) (λ_=>rfl) (λ_ h=>h)
def G38 (x:dZ):Prop:=G3 x.x0/\G3 x.x1/\True
theorem d38:nj Tryz.prog w enc 38 2 (λx:dZ=>[.val (.int .i64 x.x0),.val (.int .i64 x.x1)]) G38:=(nj.array underlying38 (by kernel_rfl) (sz0:=1) (by kernel_rfl) (.cons rfl (by kernel_rfl) d3 (.cons rfl (by kernel_rfl) d3 (.nil _)))).map (λx=>⟨x.1,x.2.1⟩) (λa=>(a.x0,a.x1,())) (λ_=>rfl) (λ_=>rfl) (λ_ h=>h)
def G40 (x:aG):Prop:=G35 x.ax/\G36 x.aD/\G35 x.aQ/\G36 x.aM/\G37 x.values/\G38 x.next/\True
theorem d40:nj Tryz.prog w enc 40 7 (λx:aG=>[.aU (x.ax.map ag),.aU (x.aD.map ah),.aU (x.aQ.map ag),.aU (x.aM.map ah),.aU (x.values.map aH),.val (.int .i64 x.next.x0),.val (.int .i64 x.next.x1)]) G40:=(nj.struct underlying40 (by kernel_rfl) (.cons rfl (by kernel_rfl) d35 (.cons rfl (by kernel_rfl) d36 (.cons rfl (by kernel_rfl) d35 (.cons rfl (by kernel_rfl) d36 (.cons rfl (by kernel_rfl) d37 (.cons rfl (by kernel_rfl) d38 (.nil _)))))))).map (λx=>⟨x.1,x.2.1,x.2.2.1,x.2.2.2.1,x.2.2.2.2.1,x.2.2.2.2.2.1⟩) (λa=>(a.ax,a.aD,a.aQ,a.aM,a.values,a.next,())) (λ_=>rfl) (λ_=>rfl) (λ_ h=>h)
def G42 (x:aZ):Prop:=G34 x.a/\G40 x.p/\G40 x.q/\True
theorem d42:nj Tryz.prog w enc 42 20 (λx:aZ=>[.aU (x.a.host.graph.nodes.map encI),.aU (x.a.host.graph.au.map bf),.aU (x.a.host.values.map b9),.aU (x.a.nodes.map encI),.aU (x.a.au.map encI),.val (.int .i64 x.a.next),.aU (x.p.ax.map ag),.aU (x.p.aD.map ah),.aU (x.p.aQ.map ag),.aU (x.p.aM.map ah),.aU (x.p.values.map aH),.val (.int .i64 x.p.next.x0),.val (.int .i64 x.p.next.x1),.aU (x.q.ax.map ag),.aU (x.q.aD.map ah),.aU (x.q.aQ.map ag),.aU (x.q.aM.map ah),.aU (x.q.values.map aH),.val (.int .i64 x.q.next.x0),.val (.int .i64 x.q.next.x1)]) G42:=(nj.struct underlying42 (by kernel_rfl) (.cons rfl (by kernel_rfl) d34 (.cons rfl (by kernel_rfl) d40 (.cons rfl (by kernel_rfl) d40 (.nil _))))).map (λx=>⟨x.1,x.2.1,x.2.2.1⟩) (λa=>(a.a,a.p,a.q,())) (λ_=>rfl) (λ_=>rfl) (λ_ h=>h)
set_option maxRecDepth 100000 in
theorem aiI:laidOutB Tryz.checked.prog=true:=by kernel_rfl
end Go.Proofs.YtllicmcihlfajaaGreat
namespace Go.cE
section
variable {σ O α:Type} {Q:O->Prop}
end
end Go.cE
namespace Go.cE
def yL {α β:Type} (o:Option α) (x:α->β) (y:β):β:=match o with
 | some a=>x a
 | none=>y
section
variable {σ O α β:Type}
theorem ac1 {f:Nat->Unit->(Unit->Option O)->(Unit->Option O)->Option O} {K:Unit->Option O} (p:Nat->Bool) (x:Nat->Option O):∀ (k i:Nat),
  (∀j,i<=j->j<i+k->∀cv,f j () cv K=cond (p j) (cv ()) (x j))->bP f k i () K=yL ((List.range' i k).find? (λj=>!p j)) x (K ())
 | 0,i,_=>rfl
 | k+1,i,h=>by
  rw[bP,h i (Nat.le_refl _) (by omega),List.range'_succ,List.find?_cons]; cases hp:p i with
  | false=>rfl
  | true =>
   have:=ac1 p x k (i+1) λj h1 h2 cv=>h j (by omega) (by omega) cv
   simpa using this
theorem tK {f:Nat->Unit->(Unit->Option O)->(Unit->Option O)->Option O} {K:Unit->Option O} {n:Nat} (p:Nat->Bool) (x:Nat->Option O) (h:∀j,j<n->∀cv,f j () cv K=cond (p j) (cv ()) (x j)) :
  bP f (n - 0) 0 () K=yL ((List.range n).find? (λj=>!p j)) x (K ()):=by
 rw[ac1 p x (n - 0) 0 λj _ h2 cv=>h j (by omega) cv,Nat.sub_zero,List.range_eq_range']
theorem aag {f:Nat->Unit->(Unit->Option O)->(Unit->Option O)->Option O} {K:Unit->Option O} (l:List α) (p:α->Bool) (x:α->Option O) (h:∀i (hi:i<l.length) cv,f i () cv K=cond (p l[i]) (cv ()) (x l[i])):∀ (k i:Nat),i+k=l.length ->
  bP f k i () K=yL ((l.drop i).find? (λa=>!p a)) x (K ())
 | 0,i,hk=>by rw[List.drop_eq_nil_of_le (by omega)]; rfl
 | k+1,i,hk=>by
  rw[bP,h i (by omega),List.drop_eq_getElem_cons (by omega),List.find?_cons]; cases hp:p l[i] with
  | false=>rfl
  | true=>have:=aag l p x h k (i+1) (by omega); simpa using this
theorem nP {f:Nat->Unit->(Unit->Option O)->(Unit->Option O)->Option O} {K:Unit->Option O} (l:List α) (p:α->Bool) (x:α->Option O) (h:∀i (hi:i<l.length) cv,f i () cv K=cond (p l[i]) (cv ()) (x l[i])) :
  bP f (l.length - 0) 0 () K=yL (l.find? (λa=>!p a)) x (K ()):=by
 have:=aag l p x h (l.length - 0) 0 (by omega); simpa using this
theorem aah {f:Nat->σ->(σ->Option O)->(σ->Option O)->Option O} {K:σ->Option O} (l:List α) (g:σ->α->σ) (Inv:Nat->σ->Prop) (h:∀i (hi:i<l.length) s,Inv i s->(∀cv,f i s cv K=cv (g s l[i]))/\Inv (i+1) (g s l[i])) :
  ∀ (k i:Nat) (s:σ),i+k=l.length->Inv i s->bP f k i s K=K ((l.drop i).foldl g s)/\Inv l.length ((l.drop i).foldl g s)
 | 0,i,s,hk,hs=>by rw[List.drop_eq_nil_of_le (by omega)]; exact⟨rfl,by rw[show l.length=i by omega]; exact hs⟩
 | k+1,i,s,hk,hs=>by obtain⟨h1,h2⟩:=h i (by omega) s hs; rw[bP,h1,List.drop_eq_getElem_cons (by omega),List.foldl_cons]; exact aah l g Inv h k (i+1) _ (by omega) h2
theorem qN {f:Nat->σ->(σ->Option O)->(σ->Option O)->Option O} {K:σ->Option O} {s:σ} (l:List α) (g:σ->α->σ) (Inv:Nat->σ->Prop) (h0:Inv 0 s) (h:∀i (hi:i<l.length) s,Inv i s->(∀cv,f i s cv K=cv (g s l[i]))/\Inv (i+1) (g s l[i])) :
  bP f (l.length - 0) 0 s K=K (l.foldl g s)/\Inv l.length (l.foldl g s):=by
 have:=aah l g Inv h (l.length - 0) 0 s (by omega) h0; simpa using this
theorem br {p:Prop} [Decidable p] {x:Option O} (h:p):cU p x=x:=by unfold cU; rw[if_pos h]
theorem mH {x:α} {k:α->Option O} : thn (some x) k=k x:=rfl
theorem aT {x:Option α} {y:α} {k:α->Option O} (h:x=some y):thn x k=k y:=by rw[h]; rfl
theorem bL {l:List α} {i:Nat} {k:α->Option O} (h:i<l.length):thn l[i]? k=k l[i]:=by rw[List.getElem?_eq_getElem h]; rfl
theorem fQ {l:List α} {i:Int} {k:α->Option O} (h0:0<=i) (h:i.toNat<l.length):thn (oI l i) k=k (l[i.toNat]'h):=by unfold oI; rw[if_pos h0,List.getElem?_eq_getElem h]; rfl
theorem aW {p:Prop} [Decidable p] {x y:Option O} : cond (decide p) x y=if p then x else y:=by by_cases h:p<;>simp[h]
theorem ir {b:Bool} {x y:Option O} : cond (!b) x y=cond b y x:=by cases b<;>rfl
def aw8 (e:α->Int) (l:List α):Int:=yL (l.find? (λa=>!decide (e a=0))) e 0
theorem asM {e:α->Int} {l:List α} : aw8 e l=0↔∀a∈l,e a=0:=by
 unfold aw8 yL; split
 ·rename_i a h; have h1:=List.find?_some h; have h2:=List.mem_of_find?_eq_some h; simp only[Bool.not_eq_true',decide_eq_false_iff_not] at h1; exact⟨λh=>absurd h h1,λh=>h a h2⟩
 ·rename_i h; simp only[List.find?_eq_none,Bool.not_eq_true',decide_eq_false_iff_not,Decidable.not_not] at h; exact⟨λ_=>h,λ_=>rfl⟩
theorem ag8 {e:α->Int} {l:List α} {K:Option Int} (hK:K=some 0):yL (l.find? (λa=>!decide (e a=0))) (λa=>some (e a)) K=some (aw8 e l):=by subst hK; unfold aw8 yL; split<;>rfl
theorem oG {p:α->Bool} {l:List α} {x y:β} : yL (l.find? (λa=>!p a)) (λ_=>x) y=if l.all p=true then y else x:=by
 unfold yL; split
 ·rename_i a h; have h1:=List.find?_some h; have h2:=List.mem_of_find?_eq_some h; rw[if_neg]; intro h3; have:=List.all_eq_true.1 h3 a h2; simp[this] at h1
 ·rename_i h; rw[if_pos]; simpa using h
def wD (q:α->Bool) (l:List α):Int:=match l.findIdx? q with
 | some i=>i
 | none=>-1
theorem wE {q:α->Bool} {l:List α} : decide (0<=wD q l)=l.any q:=by
 unfold wD; cases h:l.findIdx? q with
 | none =>
  have:=List.findIdx?_eq_none_iff.1 h; have h2:l.any q=false:=by simpa using this
  rw[h2]; rfl
 | some i =>
  have h1:l.any q=true:=by have:=List.findIdx?_eq_some_iff_getElem.1 h; obtain⟨hi,hq,_⟩:=this; exact List.any_eq_true.2 ⟨_,List.getElem_mem hi,hq⟩
  rw[h1]; simp
theorem vE {f:Nat->Unit->(Unit->Option Int)->(Unit->Option Int)->Option Int} {K:Unit->Option Int} (l:List α) (q:α->Bool) (h:∀i (hi:i<l.length) cv,f i () cv K=cond (q l[i]) (some (i:Int)) (cv ())) (hK:K ()=some (-1)) :
  bP f (l.length - 0) 0 () K=some (wD q l):=by
 have key:∀ (k i:Nat),i+k=l.length->bP f k i () K=some (match (l.drop i).findIdx? q with | some j=>((i+j:Nat):Int) | none=>-1):=by
  intro k
  induction k with
  | zero=>intro i hk; rw[List.drop_eq_nil_of_le (by omega)]; exact hK
  | succ k ih =>
   intro i hk; rw[bP,h i (by omega),List.drop_eq_getElem_cons (by omega),List.findIdx?_cons]; cases hq:q l[i] with
   | true=>simp
   | false =>
    have:=ih (i+1) (by omega); rw[cond_false,this]; cases (l.drop (i+1)).findIdx? q with
    | none=>rfl
    | some j=>simp only[Option.map_some,Bool.false_eq_true,if_false,Option.some.injEq]; rw[show i+1+j=i+(j+1) by omega]
 have:=key (l.length - 0) 0 (by omega); rw[this,List.drop_zero]; unfold wD; cases l.findIdx? q<;>simp
end
end Go.cE
namespace Go.cE
section
variable {α β:Type} {lt:α->α->Prop}
theorem aiJ (irr:∀a,¬ lt a a) (tr:∀a b c,lt a b->lt b c->lt a c):∀ {l m:List α},l.Pairwise lt->m.Pairwise lt->(∀x,x∈l↔x∈m)->l=m
 | [],[],_,_,_=>rfl
 | [],b :: s,_,_,h=>by have:=(h b).2 (List.mem_cons_self ..); cases this
 | a :: r,[],_,_,h=>by have:=(h a).1 (List.mem_cons_self ..); cases this
 | a :: r,b :: s,h1,h2,h=>by
  rw[List.pairwise_cons] at h1 h2; have e:a=b:=by
   rcases List.mem_cons.1 ((h a).1 (List.mem_cons_self ..)) with e | e
   ·exact e
   ·rcases List.mem_cons.1 ((h b).2 (List.mem_cons_self ..)) with e' | e'
    ·exact e'.symm
    ·exact absurd (tr _ _ _ (h1.1 b e') (h2.1 a e)) (irr a)
  subst e; rw[aiJ irr tr h1.2 h2.2 λx=>?_]; constructor
  ·intro hx; rcases List.mem_cons.1 ((h x).1 (List.mem_cons_of_mem _ hx)) with e | e
   ·subst e; exact absurd (h1.1 x hx) (irr x)
   ·exact e
  ·intro hx; rcases List.mem_cons.1 ((h x).2 (List.mem_cons_of_mem _ hx)) with e | e
   ·subst e; exact absurd (h2.1 x hx) (irr x)
   ·exact e
def iK (f:α->Int) (l:List α):Prop:=l.Pairwise λa b=>f a<f b
theorem iK.ext {f:α->Int} {l m:List α} (h1:iK f l) (h2:iK f m) (h:∀x,x∈l↔x∈m):l=m:=aiJ (lt:=λa b=>f a<f b) (λa=>by omega) (λa b c h1 h2=>by omega) h1 h2 h
theorem iK.nil {f:α->Int} : iK f []:=List.Pairwise.nil
theorem iK.sub {f:α->Int} {l m:List α} (h:iK f l) (hs:m.Sublist l):iK f m:=List.Pairwise.sublist hs h
theorem iK.map {f:β->Int} {g:α->β} {l:List α} (h:iK (λa=>f (g a)) l):iK f (l.map g):=List.pairwise_map.2 h
theorem iK.apd {f:β->Int} {g:α->β} {l:List α} (h:iK f (l.map g)):iK (λa=>f (g a)) l:=by unfold iK at *; exact (List.pairwise_map (f:=g) (R:=λa b=>f a<f b)).1 h
theorem iK.inj {f:α->Int} {l:List α} (h:iK f l) {a b:α} (ha:a∈l) (hb:b∈l) (e:f a=f b):a=b:=by
 induction l with
 | nil=>cases ha
 | cons c r ih =>
  unfold iK at h; rw[List.pairwise_cons] at h; rcases List.mem_cons.1 ha with h1 | h1<;>rcases List.mem_cons.1 hb with h2 | h2
  ·rw[h1,h2]
  ·have:=h.1 b h2; rw[h1] at e; omega
  ·have:=h.1 a h1; rw[h2] at e; omega
  ·exact ih h.2 h1 h2
theorem iK.ab4 {f:α->Int} {l:List α} (h:iK f l) {i j:Nat} (hij:i<j) (hj:j<l.length):f (l[i]'(by omega))<f l[j]:=List.pairwise_iff_getElem.1 h i j (by omega) hj hij
theorem iK.aw9 {f:α->Int} {l:List α} (h:iK f l) {i j:Nat} (hi:i<l.length) (hj:j<l.length) (e:f l[i]=f l[j]):i=j:=by
 rcases Nat.lt_trichotomy i j with h1 | h1 | h1
 ·have:=h.ab4 h1 hj; omega
 ·exact h1
 ·have:=h.ab4 h1 hi; omega
theorem iK.aCE {f:α->Int} {l:List α} (h:∀i,(hi:i+1<l.length)->f (l[i]'(by omega))<f l[i+1]):iK f l:=by
 refine List.pairwise_iff_getElem.2 λi j hi hj hij=>?_
 obtain⟨k,rfl⟩:∃k,j=i+1+k:=⟨j - (i+1),by omega⟩
 induction k with
 | zero=>exact h i hj
 | succ k ih=>have h1:=ih (by omega) (by omega); have h2:=h (i+1+k) hj; exact Int.lt_trans h1 h2
theorem iK.sort {f:α->Int} {l:List α} (h:(l.map f).Nodup):iK f (l.mergeSort λx y=>decide (f x<=f y)):=by
 have hp:=List.mergeSort_perm l (λx y=>decide (f x<=f y)); have hs:(l.mergeSort λx y=>decide (f x<=f y)).Pairwise λa b=>decide (f a<=f b)=true:=List.pairwise_mergeSort (λa b c h1 h2=>by simp at *; omega) (λa b=>by simp; omega) l
 have hn:((l.mergeSort λx y=>decide (f x<=f y)).map f).Nodup:=(hp.map f).nodup_iff.2 h; have hn':(l.mergeSort λx y=>decide (f x<=f y)).Pairwise λa b=>f a≠f b:=List.pairwise_map.1 hn
 refine (List.pairwise_and_iff.2 ⟨hs,hn'⟩).imp λ{a b} hab=>?_
 have:=of_decide_eq_true hab.1; have:=hab.2; omega
theorem iK.app {f:α->Int} {l m:List α} (h1:iK f l) (h2:iK f m) (h:∀a∈l,∀b∈m,f a<f b):iK f (l++m):=List.pairwise_append.2 ⟨h1,h2,h⟩
theorem iK.wF {f:α->Int} {l:List α} (h:iK f l):(l.map f).Nodup:=List.pairwise_map.2 (List.Pairwise.imp (λh=>by omega) h)
theorem lQ {f:α->Int} {l m:List α} (h1:iK f l) (h2:iK f m) (h:∀a∈l,∀b∈m,f a≠f b):((l++m).map f).Nodup:=by rw[List.map_append,List.nodup_append]; refine⟨h1.wF,h2.wF,λa ha b hb=>?_⟩; obtain⟨x,hx,rfl⟩:=List.mem_map.1 ha; obtain⟨y,hy,rfl⟩:=List.mem_map.1 hb; exact h x hx y hy
end
end Go.cE
namespace Go.Proofs.YtllicmcihlfajaaGreat
open Go.cE
theorem sR {a b:aj} : eB a b=true↔a=b:=by cases a; cases b; simp[eB]
theorem ape {a b:ak} : rB a b=true↔a=b:=by cases a; cases b; simp[rB]
section
variable {α:Type} {f:α->Int} {q:α->α->Bool}
theorem erase_filter (hq:∀a b,q a b=true↔a=b) {l:List α} (h:iK f l) {i:Nat} (hi:i<l.length) {n:α} (hn:l[i]=n):l.take i++l.drop (i+1)=l.filter λm=>!q m n:=by
 rw[<-List.eraseIdx_eq_take_drop_succ]; refine iK.ext (h.sub (List.eraseIdx_sublist ..)) (h.sub List.filter_sublist) λx=>?_
 rw[List.mem_eraseIdx_iff_getElem,List.mem_filter]; constructor
 ·rintro⟨j,hj,hne,rfl⟩; refine⟨List.getElem_mem _,?_⟩; cases hx:q l[j] n with
  | false=>rfl
  | true=>have e:=(hq _ _).1 hx; exact absurd (h.aw9 hj hi (by rw[e,hn])) hne
 ·rintro⟨hx,hne⟩; obtain⟨j,hj,rfl⟩:=List.getElem_of_mem hx; refine⟨j,hj,λe=>?_,rfl⟩; subst e; rw[(hq _ _).2 hn] at hne; cases hne
def ni (q:α->α->Bool) (l r:List α):Bool:=r.all λn=>l.any λm=>q m n
def less (q:α->α->Bool) (l r:List α):List α:=l.filter λm=>!r.any λn=>q m n
def rmL [Inhabited α] (f:α->Int) (q:α->α->Bool):List α->List α->Nat->Bool×List α×Nat
 | l,[],v=>(true,l,v)
 | l,n :: r,v=>match l.findIdx? λm=>decide (f m=f n) with
  | none=>(false,l,v)
  | some i=>if q (l.getD i default) n then rmL f q (l.take i++l.drop (i+1)) r (v+1) else (false,l,v)
theorem ag9 (hq:∀a b,q a b=true↔a=b) {l r:List α} {n:α} (hr:∀m∈r,f n≠f m):ni q (l.filter λm=>!q m n) r=ni q l r/\less q (l.filter λm=>!q m n) r=less q l (n :: r):=by
 constructor
 ·unfold ni; rw[Bool.eq_iff_iff,List.all_eq_true,List.all_eq_true]; refine forall_congr' λx=>forall_congr' λhx=>?_
  rw[List.any_eq_true,List.any_eq_true]; constructor
  ·rintro⟨m,hm,h⟩; exact⟨m,(List.mem_filter.1 hm).1,h⟩
  ·rintro⟨m,hm,h⟩; refine⟨m,List.mem_filter.2 ⟨hm,?_⟩,h⟩; cases hmn:q m n with
   | false=>rfl
   | true=>have e1:=(hq _ _).1 h; have e2:=(hq _ _).1 hmn; exact absurd (by rw[<-e2,e1]) (hr x hx)
 ·unfold less; rw[List.filter_filter]; congr 1; funext m; rw[List.any_cons,Bool.not_or,Bool.and_comm]
theorem aff [Inhabited α] (hq:∀a b,q a b=true↔a=b):∀ (r l:List α) (v:Nat),iK f l->r.Pairwise (λa b=>f a≠f b)->(rmL f q l r v).1=ni q l r/\((rmL f q l r v).1=true->(rmL f q l r v).2.1=less q l r)
 | [],l,v,_,_=>⟨rfl,λ_=>by unfold less rmL; exact (List.filter_eq_self.2 (by simp)).symm⟩
 | n :: r,l,v,hl,hr=>by
  rw[List.pairwise_cons] at hr; rw[rmL]; cases hf:l.findIdx? λm=>decide (f m=f n) with
  | none =>
   have h0:ni q l (n :: r)=false:=by unfold ni; rw[List.all_cons,Bool.and_eq_false_iff]; left; rw[List.any_eq_false]; intro m hm h; have:=List.findIdx?_eq_none_iff.1 hf m hm; rw[(hq _ _).1 h] at this; simp at this
   simp only[h0]; exact⟨trivial,λh=>by cases h⟩
  | some i =>
   obtain⟨hi,h1,_⟩:=List.findIdx?_eq_some_iff_getElem.1 hf; have h1:=of_decide_eq_true h1; have hg:l.getD i default=l[i]:=by simp[hi]
   simp only[hg]; by_cases hs:q l[i] n=true
   ·rw[if_pos hs,erase_filter hq hl hi ((hq _ _).1 hs)]; obtain⟨e1,e2⟩:=ag9 hq (l:=l) hr.1; obtain⟨k1,k2⟩:=aff hq r (l.filter λm=>!q m n) (v+1) (hl.sub List.filter_sublist) hr.2; rw[e1] at k1; rw[e2] at k2; refine⟨?_,k2⟩; rw[k1]; unfold ni; rw[List.all_cons,show (l.any λm=>q m n)=true from List.any_eq_true.2 ⟨_,List.getElem_mem hi,hs⟩,Bool.true_and]
   ·rw[if_neg hs]; have h0:ni q l (n :: r)=false:=by unfold ni; rw[List.all_cons,Bool.and_eq_false_iff]; left; rw[List.any_eq_false]; intro m hm h; have e:=(hq _ _).1 h; have:=hl.inj hm (List.getElem_mem hi) (by rw[e,h1]); rw[this] at h; exact hs h
    simp only[h0]; exact⟨trivial,λh=>by cases h⟩
def vF (q:α->α->Bool) (l:List α) (n:α):List α×Bool:=match l.findIdx? λm=>q m n with
 | none=>(l,false)
 | some i=>(l.take i++l.drop (i+1),true)
def gX (q:α->α->Bool):List α->List α->List α×Bool
 | l,[]=>(l,true)
 | l,n :: r=>if (vF q l n).2=true then gX q (vF q l n).1 r else ((vF q l n).1,false)
theorem yM (hq:∀a b,q a b=true↔a=b):∀ (r l:List α),iK f l->r.Pairwise (λa b=>f a≠f b)->(gX q l r).2=ni q l r/\((gX q l r).2=true->(gX q l r).1=less q l r)
 | [],l,_,_=>⟨rfl,λ_=>by unfold less gX; exact (List.filter_eq_self.2 (by simp)).symm⟩
 | n :: r,l,hl,hr=>by
  rw[List.pairwise_cons] at hr; rw[gX]; unfold vF; cases hf:l.findIdx? λm=>q m n with
  | none =>
   have h0:ni q l (n :: r)=false:=by unfold ni; rw[List.all_cons,Bool.and_eq_false_iff]; left; rw[List.any_eq_false]; intro m hm h; have:=List.findIdx?_eq_none_iff.1 hf m hm; rw[h] at this; cases this
   simp only[h0]; exact⟨rfl,λh=>by cases h⟩
  | some i=>obtain⟨hi,hs,_⟩:=List.findIdx?_eq_some_iff_getElem.1 hf; simp only[if_true,erase_filter hq hl hi ((hq _ _).1 hs)]; obtain⟨e1,e2⟩:=ag9 hq (l:=l) hr.1; obtain⟨k1,k2⟩:=yM hq r (l.filter λm=>!q m n) (hl.sub List.filter_sublist) hr.2; rw[e1] at k1; rw[e2] at k2; refine⟨?_,k2⟩; rw[k1]; unfold ni; rw[List.all_cons,show (l.any λm=>q m n)=true from List.any_eq_true.2 ⟨_,List.getElem_mem hi,hs⟩,Bool.true_and]
theorem yN {l r:List α} (h:iK f l):iK f (less q l r):=h.sub List.filter_sublist
end
theorem afg:∀ (r l:List aj) (v:Nat),kY l r v=rmL aj.id eB l r v
 | [],l,v=>rfl
 | n :: r,l,v=>by
  rw[kY,rmL]; cases l.findIdx? λm=>decide (m.id=n.id) with
  | none=>rfl
  | some i=>simp only; rw[afg r]
theorem afh:∀ (r l:List ak) (v:Nat),mW l r v=rmL ak.id rB l r v
 | [],l,v=>rfl
 | n :: r,l,v=>by
  rw[mW,rmL]; cases l.findIdx? λm=>decide (m.id=n.id) with
  | none=>rfl
  | some i=>simp only; rw[afh r]
def lR (v:aO) (n:aj):Bool:=decide (n.id=v.id)&&okV n.values v
def rF (v:aO) (n:aj):aj:=if lR v n=true then { n with values:=n.values.set v.attr.toNat v.new } else n
theorem ad6 (v:aO) (n:aj):(rF v n).id=n.id:=by unfold rF; split<;>rfl
theorem asN (v:aO) (n:aj):(rF v n).type=n.type:=by unfold rF; split<;>rfl
theorem afi (v:aO) (n:aj):(rF v n).values.length=n.values.length:=by unfold rF; split<;>simp
def gl:List aj->List aO->List aj×Bool
 | l,[]=>(l,true)
 | l,v :: r=>if l.any (lR v)=true then gl (l.map (rF v)) r else (l.map (rF v),false)
theorem afj:∀ (r:List aO) (l:List aj),iK aj.id l->(kZ l r).1=(gl l r).2/\((kZ l r).1=true->(kZ l r).2=(gl l r).1)
 | [],l,_=>⟨rfl,λ_=>rfl⟩
 | v :: r,l,hl=>by
  rw[kZ,gl]; cases hf:l.findIdx? λm=>decide (m.id=v.id) with
  | none =>
   have h0:l.any (lR v)=false:=by rw[List.any_eq_false]; intro m hm h; have:=List.findIdx?_eq_none_iff.1 hf m hm; unfold lR at h; rw[this] at h; cases h
   simp only[h0]; exact⟨rfl,λh=>by cases h⟩
  | some i =>
   obtain⟨hi,h1,_⟩:=List.findIdx?_eq_some_iff_getElem.1 hf; have h1:=of_decide_eq_true h1; have hg:l.getD i default=l[i]:=by simp[hi]
   simp only[hg]; have hfit:∀m∈l,lR v m=true->m=l[i]:=λm hm h=>by unfold lR at h; rw[Bool.and_eq_true] at h; exact hl.inj hm (List.getElem_mem hi) (by rw[of_decide_eq_true h.1,h1])
   by_cases hs:okV l[i].values v=true
   ·have aeD:l.any (lR v)=true:=List.any_eq_true.2 ⟨_,List.getElem_mem hi,by unfold lR; rw[h1,hs,decide_eq_true rfl]; rfl⟩; rw[if_pos hs,if_pos aeD]; have e:l.set i { l[i] with values:=l[i].values.set v.attr.toNat v.new } = l.map (rF v):=by
     refine List.ext_getElem (by simp) λj h2 h3=>?_
     rw[List.getElem_set,List.getElem_map]; split
     ·rename_i e; subst e; unfold rF; rw[if_pos (by unfold lR; rw[h1,hs,decide_eq_true rfl]; rfl)]
     ·rename_i hne; unfold rF; rw[if_neg λh=>hne ?_]; have:=hfit _ (List.getElem_mem (by simpa using h3)) h; exact (hl.aw9 (by simpa using h3) hi (by rw[this])).symm
    rw[e]; exact afj r _ (iK.map (by simpa only[ad6] using hl))
   ·rw[if_neg hs,if_neg λh=>hs ?_]
    ·exact⟨rfl,λh=>by cases h⟩
    ·obtain⟨m,hm,h⟩:=List.any_eq_true.1 h; have e:=hfit m hm h; subst e; unfold lR at h; rw[Bool.and_eq_true] at h; exact h.2
theorem aaV:∀ (r:List aO) (l:List aj),iK aj.id l->iK aj.id (gl l r).1
 | [],l,h=>h
 | v :: r,l,h=>by
  have h':iK aj.id (l.map (rF v)):=iK.map (by simpa only[ad6] using h); rw[gl]; split
  ·exact aaV r _ h'
  ·exact h'
def aok (l m:List aj):Prop:=l.map (λn=>(n.id,n.type,n.values.length))=m.map (λn=>(n.id,n.type,n.values.length))
theorem yO:∀ (r:List aO) (l:List aj),aok (gl l r).1 l
 | [],l=>rfl
 | v :: r,l=>by
  have h':aok (l.map (rF v)) l:=by
   unfold aok; rw[List.map_map]; refine List.map_congr_left λn _=>?_
   simp only[Function.comp,ad6,asN,afi]
  rw[gl]; split
  ·exact (yO r _).trans h'
  ·exact h'
theorem aok.len {l m:List aj} (h:aok l m):l.length=m.length:=by simpa using congrArg List.length h
theorem ac2 {l:List aj} (h:(l.map aj.id).Nodup):iK aj.id (kR l):=iK.sort h
theorem ac3 {l:List ak} (h:(l.map ak.id).Nodup):iK ak.id (nW l):=iK.sort h
theorem sS {l:List aj} {x:aj} : x∈kR l↔x∈l:=(List.mergeSort_perm l _).mem_iff
theorem vG {l:List ak} {x:ak} : x∈nW l↔x∈l:=(List.mergeSort_perm l _).mem_iff
theorem asO {l:List aj} : (kR l).length=l.length:=List.length_mergeSort _
theorem asP {l:List ak} : (nW l).length=l.length:=List.length_mergeSort _
theorem aaW {l:List aj} {m:List ak} {p:aG} (h:gr l m p=false):(∀n∈p.aQ,(∀x∈l,x.id≠n.id)/\∀x∈m,x.id≠n.id)/\∀e∈p.aM,(∀x∈l,x.id≠e.id)/\∀x∈m,x.id≠e.id:=by unfold gr kI at h; simp only[Bool.or_eq_false_iff,List.any_eq_false,decide_eq_true_eq] at h; simp only[Bool.not_eq_true,Bool.or_eq_false_iff,List.any_eq_false,decide_eq_true_eq] at h; exact h
theorem alc {α:Type} [Inhabited α] {f:α->Int} {d:List α} (h:(d.map f).Nodup):ak1 f d:=λi j hi hj e=>by
 have hg:∀k,(hk:k<d.length)->d.getD k default=d[k]:=λk hk=>by simp[hk]
 rw[hg i hi,hg j hj] at e; have h2:=List.pairwise_iff_getElem.1 h; rcases Nat.lt_trichotomy i j with h1 | h1 | h1
 ·exact absurd (by rw[List.getElem_map,List.getElem_map]; exact e) (h2 i j (by simpa using hi) (by simpa using hj) h1)
 ·exact h1
 ·exact absurd (by rw[List.getElem_map,List.getElem_map]; exact e.symm) (h2 j i (by simpa using hj) (by simpa using hi) h1)
end Go.Proofs.YtllicmcihlfajaaGreat
namespace Go.Proofs.YtllicmcihlfajaaGreat
open Go.cE
theorem bk {n:Nat} (h:n<=4000000000000000000):n<=fuel:=by unfold fuel; omega
theorem oS {l:List Int} (hl:l.length<=1000000) (x:Int):gV l x=some (wD (λy=>decide (y=x)) l):=by unfold gV; rw[br (bk (by omega))]; refine vE l _ (λi hi cv=>?_) rfl; rw[bL hi]; try simp only[eq_comm (a:=x)]
theorem cN {l:List Int} (hl:l.length<=1000000) (x:Int):bQ l x=some (wD (λy=>decide (y=x)) l):=by unfold bQ; rw[br (bk (by omega))]; refine vE l _ (λi hi cv=>?_) rfl; rw[bL hi]; try simp only[eq_comm (a:=x)]
theorem xL {l:List Int} (hl:l.length<=1000000) (x:Int):iR l x=some (decide (x∈l)):=by
 unfold iR; rw[aT (oS hl x),wE]; congr 1; rw[Bool.eq_iff_iff,List.any_eq_true,decide_eq_true_iff]; constructor
 ·rintro⟨y,hy,e⟩; rw[<-of_decide_eq_true e]; exact hy
 ·intro h; exact⟨x,h,decide_eq_true rfl⟩
theorem wG {l:List Int} {p:Int->Option Bool} (q:Int->Bool) (hl:l.length<=1000000) (hp:∀x∈l,p x=some (q x)):iC l p=some (wD q l):=by unfold iC; rw[br (bk (by omega))]; refine vE l q (λi hi cv=>?_) rfl; rw[bL hi,aT (hp _ (List.getElem_mem hi))]
theorem ud {l:List Int} {p:Int->Option Bool} (q:Int->Bool) (hl:l.length<=1000000) (hp:∀x∈l,p x=some (q x)):gx l p=some (l.any q):=by unfold gx; rw[aT (wG q hl hp),wE]
theorem mI {l:List aj} {p:aj->Option Bool} (q:aj->Bool) (hl:l.length<=1000000) (hp:∀x∈l,p x=some (q x)):dX l p=some (wD q l):=by unfold dX; rw[br (bk (by omega))]; refine vE l q (λi hi cv=>?_) rfl; rw[bL hi,aT (hp _ (List.getElem_mem hi))]
theorem kV {l:List aj} {p:aj->Option Bool} (q:aj->Bool) (hl:l.length<=1000000) (hp:∀x∈l,p x=some (q x)):dz l p=some (l.any q):=by unfold dz; rw[aT (mI q hl hp),wE]
theorem mJ {l:List ak} {p:ak->Option Bool} (q:ak->Bool) (hl:l.length<=1000000) (hp:∀x∈l,p x=some (q x)):dY l p=some (wD q l):=by unfold dY; rw[br (bk (by omega))]; refine vE l q (λi hi cv=>?_) rfl; rw[bL hi,aT (hp _ (List.getElem_mem hi))]
theorem qc {l:List ak} {p:ak->Option Bool} (q:ak->Bool) (hl:l.length<=1000000) (hp:∀x∈l,p x=some (q x)):eu l p=some (l.any q):=by unfold eu; rw[aT (mJ q hl hp),wE]
def ja (l:List Int) (next:Int) (j:Nat):Int:=if l.getD j 0<0\/next<=l.getD j 0 then 6 else if 0<j/\l.getD j 0<=l.getD (j - 1) 0 then 12 else 0
def rW (l:List Int) (next:Int):Int:=aw8 (ja l next) (List.range l.length)
theorem rG {l:List Int} (hl:l.length<=1000000) (next:Int):ic l next=some (rW l next):=by
 unfold ic; rw[br (bk (by omega))]; rw[tK (λj=>decide (ja l next j=0)) (λj=>some (ja l next j)) ?_]
 ·exact ag8 rfl
 ·intro j hj cv; have hg:l.getD j 0=l[j]:=by simp[hj]
  rw[bL hj,aW,aW,aW]; by_cases h1:l[j]<0
  ·rw[if_pos h1]; have:ja l next j=6:=by unfold ja; rw[if_pos (by rw[hg]; exact .inl h1)]
   rw[this]; rfl
  rw[if_neg h1]; by_cases h2:next<=l[j]
  ·rw[if_pos h2]; have:ja l next j=6:=by unfold ja; rw[if_pos (by rw[hg]; exact .inr h2)]
   rw[this]; rfl
  rw[if_neg h2]; by_cases h3:0<j
  ·have hg2:l.getD (j - 1) 0=l[j - 1]'(by omega):=by simp[show j - 1<l.length by omega]
   rw[if_pos (by omega),gT (by omega),fQ (by omega) (by omega)]; rw[aW]; have e2:l[(((j:Nat):Int) - 1).toNat]'(by omega)=l[j - 1]'(by omega):=by congr 1; omega
   rw[e2]; by_cases h4:l[j]<=l[j - 1]'(by omega)
   ·rw[if_pos h4]; have:ja l next j=12:=by unfold ja; rw[if_neg (by rw[hg]; omega),if_pos (by rw[hg,hg2]; exact⟨h3,h4⟩)]
    rw[this]; rfl
   ·rw[if_neg h4]; have:ja l next j=0:=by unfold ja; rw[if_neg (by rw[hg]; omega),if_neg (by rw[hg,hg2]; omega)]
    rw[this]; rfl
  ·rw[if_neg (by omega)]; have:ja l next j=0:=by unfold ja; rw[if_neg (by rw[hg]; omega),if_neg (by omega)]
   rw[this]; rfl
theorem qq {l:List Int} (hl:l.length<=1000000) (next:Int):gK l next=some (rW l next):=by
 unfold gK; rw[br (bk (by omega))]; rw[tK (λj=>decide (ja l next j=0)) (λj=>some (ja l next j)) ?_]
 ·exact ag8 rfl
 ·intro j hj cv; have hg:l.getD j 0=l[j]:=by simp[hj]
  rw[bL hj,aW,aW,aW]; by_cases h1:l[j]<0
  ·rw[if_pos h1]; have:ja l next j=6:=by unfold ja; rw[if_pos (by rw[hg]; exact .inl h1)]
   rw[this]; rfl
  rw[if_neg h1]; by_cases h2:next<=l[j]
  ·rw[if_pos h2]; have:ja l next j=6:=by unfold ja; rw[if_pos (by rw[hg]; exact .inr h2)]
   rw[this]; rfl
  rw[if_neg h2]; by_cases h3:0<j
  ·have hg2:l.getD (j - 1) 0=l[j - 1]'(by omega):=by simp[show j - 1<l.length by omega]
   rw[if_pos (by omega),gT (by omega),fQ (by omega) (by omega)]; rw[aW]; have e2:l[(((j:Nat):Int) - 1).toNat]'(by omega)=l[j - 1]'(by omega):=by congr 1; omega
   rw[e2]; by_cases h4:l[j]<=l[j - 1]'(by omega)
   ·rw[if_pos h4]; have:ja l next j=12:=by unfold ja; rw[if_neg (by rw[hg]; omega),if_pos (by rw[hg,hg2]; exact⟨h3,h4⟩)]
    rw[this]; rfl
   ·rw[if_neg h4]; have:ja l next j=0:=by unfold ja; rw[if_neg (by rw[hg]; omega),if_neg (by rw[hg,hg2]; omega)]
    rw[this]; rfl
  ·rw[if_neg (by omega)]; have:ja l next j=0:=by unfold ja; rw[if_neg (by rw[hg]; omega),if_neg (by omega)]
   rw[this]; rfl
theorem uE {l:List Int} {next:Int} : rW l next=0↔(∀x∈l,0<=x/\x<next)/\iK id l:=by
 unfold rW; rw[asM]; have hg:∀j,(hj:j<l.length)->l.getD j 0=l[j]:=λj hj=>by simp[hj]
 constructor
 ·intro h; have h':∀j,(hj:j<l.length)->(0<=l[j]/\l[j]<next)/\∀ (_:0<j),l[j - 1]'(by omega)<l[j]:=λj hj=>by
   have:=h j (List.mem_range.2 hj); unfold ja at this; rw[hg j hj] at this; split at this
   ·cases this
   ·split at this
    ·cases this
    ·rename_i h1 h2; refine⟨by omega,λh0=>?_⟩; rw[hg (j - 1) (by omega)] at h2; omega
  refine⟨λx hx=>?_,iK.aCE λi hi=>?_⟩
  ·obtain⟨j,hj,rfl⟩:=List.getElem_of_mem hx; exact (h' j hj).1
  ·exact (h' (i+1) hi).2 (by omega)
 ·rintro⟨h1,h2⟩ j hj; have hj:=List.mem_range.1 hj; have hx:=h1 _ (List.getElem_mem hj); unfold ja; rw[hg j hj,if_neg (by omega)]; by_cases h0:0<j
  ·rw[hg (j - 1) (by omega)]; have:=h2.ab4 (i:=j - 1) (j:=j) (by omega) hj; simp only[id] at this; rw[if_neg (by omega)]
  ·rw[if_neg (by omega)]
def kK (t:Types) (x:az):Int :=
 if (j6 t x.host).2≠0 then (j6 t x.host).2
 else if x.nodes.length≠x.host.graph.nodes.length\/x.au.length≠x.host.graph.au.length then 20
 else if x.next<0\/1000000<x.next then 6
 else if rW x.nodes x.next≠0 then rW x.nodes x.next
 else if rW x.au x.next≠0 then rW x.au x.next
 else if x.au.any (λe=>decide (e∈x.nodes))=true then 5 else 0
structure jJ (x:az):Prop where
 host:tU x.host
 nodes:x.nodes.length<=1000000
 au:x.au.length<=1000000
theorem ab5 {t:Types} {h:Host} (ht:ga t) (hh:tU h):sC t h=some (j6 t h):=ql ⟨ht,hh⟩
theorem aai {t:Types} {h:Host} (ht:ga t) (hh:tU h):jx t h=some (j6 t h):=ql ⟨ht,hh⟩
theorem afk {t:Types} (h:ga t):lE t=some (iz t):=ql h
theorem aiK {t:Types} {h:Host} (hv:(iz t).2≠0):j6 t h=(-1,(iz t).2):=by unfold j6; rw[if_pos hv]
theorem mK {t:Types} (ht:ga t) {x:az} (hx:jJ x):fh t x=some (kK t x):=by
 have h1:=hx.nodes; have h2:=hx.au; unfold fh kK; rw[aT (ab5 ht hx.host),aW]; by_cases h0:(j6 t x.host).2=0
 ·rw[if_pos h0,if_neg (λh=>h h0),aW,aW]; by_cases h3:x.nodes.length=x.host.graph.nodes.length
  ·rw[if_pos (by omega)]; by_cases h4:x.au.length=x.host.graph.au.length
   ·rw[if_pos (by omega),if_neg (show ¬ (_\/_) by omega),aW,aW]; by_cases h5:x.next<0
    ·rw[if_pos h5,if_pos (.inl h5)]
    rw[if_neg h5]; by_cases h6:1000000<x.next
    ·rw[if_pos h6,if_pos (.inr h6)]
    rw[if_neg h6,if_neg (show ¬ (_\/_) by omega),aT (rG h1 _),aW]; by_cases h7:rW x.nodes x.next=0
    ·rw[if_pos h7,if_neg (λh=>h h7),aT (rG h2 _),aW]; by_cases h8:rW x.au x.next=0
     ·rw[if_pos h8,if_neg (λh=>h h8),aT (ud (λe=>decide (e∈x.nodes)) h2 (λe _=>by unfold kD; rw[aT (xL h1 e)]))]; cases x.au.any λe=>decide (e∈x.nodes)<;>rfl
     ·rw[if_neg h8,if_pos h8]
    ·rw[if_neg h7,if_pos h7]
   ·rw[if_neg (by omega),if_pos (.inr h4)]
  ·rw[if_neg (by omega),if_pos (.inl h3)]
 ·rw[if_neg h0,if_pos h0]
theorem nQ {t:Types} (ht:ga t) {x:az} (hx:jJ x):cg t x=some (kK t x):=by
 have h1:=hx.nodes; have h2:=hx.au; unfold cg kK; rw[aT (afk ht),aW]; by_cases hT:(iz t).2=0; rotate_left
 ·rw[if_neg hT,aiK hT,if_pos hT]
 rw[if_pos hT,aT (aai ht hx.host),aW]; by_cases h0:(j6 t x.host).2=0
 ·rw[if_pos h0,if_neg (λh=>h h0),aW,aW]; by_cases h3:x.nodes.length=x.host.graph.nodes.length
  ·rw[if_pos (by omega)]; by_cases h4:x.au.length=x.host.graph.au.length
   ·rw[if_pos (by omega),if_neg (show ¬ (_\/_) by omega),aW,aW]; by_cases h5:x.next<0
    ·rw[if_pos h5,if_pos (.inl h5)]
    rw[if_neg h5]; by_cases h6:1000000<x.next
    ·rw[if_pos h6,if_pos (.inr h6)]
    rw[if_neg h6,if_neg (show ¬ (_\/_) by omega),aT (qq h1 _),aW]; by_cases h7:rW x.nodes x.next=0
    ·rw[if_pos h7,if_neg (λh=>h h7),aT (qq h2 _),aW]; by_cases h8:rW x.au x.next=0
     ·rw[if_pos h8,if_neg (λh=>h h8),br (bk (by omega))]; rw[nP x.au (λe=>!decide (e∈x.nodes)) (λ_=>some 5) ?_]
      ·rw[oG]; have e:(x.au.all λe=>!decide (e∈x.nodes)) = !x.au.any λe=>decide (e∈x.nodes):=by rw[List.not_any_eq_all_not]
       rw[e]; cases x.au.any λe=>decide (e∈x.nodes)<;>rfl
      ·intro i hi cv; rw[bL hi,aT (cN h1 _),wE]; have e:(x.nodes.any λy=>decide (y=x.au[i]))=decide (x.au[i]∈x.nodes):=by
        rw[Bool.eq_iff_iff,List.any_eq_true,decide_eq_true_iff]; constructor
        ·rintro⟨y,hy,e⟩; rw[<-of_decide_eq_true e]; exact hy
        ·intro h; exact⟨_,h,decide_eq_true rfl⟩
       rw[e]; cases decide (x.au[i]∈x.nodes)<;>rfl
     ·rw[if_neg h8,if_pos h8]
    ·rw[if_neg h7,if_pos h7]
   ·rw[if_neg (by omega),if_pos (.inr h4)]
  ·rw[if_neg (by omega),if_pos (.inl h3)]
 ·rw[if_neg h0,if_pos h0]
end Go.Proofs.YtllicmcihlfajaaGreat
namespace Go.cE
section
variable {α X Y O:Type}
def nD (step:X->Y->α->(X×Y)×Bool):X->Y->List α->(X×Y)×Bool
 | x,y,[]=>((x,y),true)
 | x,y,e :: r=>if (step x y e).2=true then nD step (step x y e).1.1 (step x y e).1.2 r else step x y e
theorem afl {F:Bool×Int×X×Y->(Bool×Int×X×Y->Option O)->(Bool×Int×X×Y->Option O)->Option O} {K:Bool×Int×X×Y->Option O} (l:List α) (step:X->Y->α->(X×Y)×Bool) (inv:X->Y->Prop)
  (h0:∀i x y cv,F (false,i,x,y) cv K=K (false,i,x,y)) (h1:∀x y cv,F (true,((l.length:Nat):Int),x,y) cv K=K (true,((l.length:Nat):Int),x,y))
  (h2:∀ (i:Nat) (hi:i<l.length) x y cv,inv x y->F (true,(i:Int),x,y) cv K=cv ((step x y l[i]).2,((i+1:Nat):Int),(step x y l[i]).1.1,(step x y l[i]).1.2)/\inv (step x y l[i]).1.1 (step x y l[i]).1.2) :
  ∀ (k i n:Nat) (x:X) (y:Y),i+k=l.length->k+2<=n->inv x y->(∃j,iter F n (true,(i:Int),x,y) K=K ((nD step x y (l.drop i)).2,j,(nD step x y (l.drop i)).1.1,(nD step x y (l.drop i)).1.2))/\inv (nD step x y (l.drop i)).1.1 (nD step x y (l.drop i)).1.2
 | 0,i,n+1,x,y,hk,hn,hv=>by
  have:i=l.length:=by omega
  subst this; rw[List.drop_length]; exact⟨⟨_,by rw[iter,h1]; rfl⟩,hv⟩
 | k+1,i,n+1,x,y,hk,hn,hv=>by
  have hi:i<l.length:=by omega
  obtain⟨g1,g2⟩:=h2 i hi x y (λs=>iter F n s K) hv; rw[List.drop_eq_getElem_cons hi,nD]; cases hb:(step x y l[i]).2 with
  | true=>simp only[if_true]; obtain⟨⟨j,q1⟩,q2⟩:=afl l step inv h0 h1 h2 k (i+1) n _ _ (by omega) (by omega) g2; exact⟨⟨j,by rw[iter,g1,hb]; exact q1⟩,q2⟩
  | false=>simp only[Bool.false_eq_true,if_false]; obtain⟨n,rfl⟩:∃m,n=m+1:=⟨n - 1,by omega⟩; exact⟨⟨_,by rw[iter,g1,hb,iter,h0]⟩,g2⟩
theorem axa {F:Bool×Int×X×Y->(Bool×Int×X×Y->Option O)->(Bool×Int×X×Y->Option O)->Option O} {K:Bool×Int×X×Y->Option O} (l:List α) (step:X->Y->α->(X×Y)×Bool) (inv:X->Y->Prop) (hl:l.length<=1000000)
  (h0:∀i x y cv,F (false,i,x,y) cv K=K (false,i,x,y)) (h1:∀x y cv,F (true,((l.length:Nat):Int),x,y) cv K=K (true,((l.length:Nat):Int),x,y))
  (h2:∀ (i:Nat) (hi:i<l.length) x y cv,inv x y->F (true,(i:Int),x,y) cv K=cv ((step x y l[i]).2,((i+1:Nat):Int),(step x y l[i]).1.1,(step x y l[i]).1.2)/\inv (step x y l[i]).1.1 (step x y l[i]).1.2)
  (b:Bool) (x:X) (y:Y) (hv:inv x y):∃j,iter F fuel (b,0,x,y) K=K (if b=true then (nD step x y l).2 else false,j,if b=true then (nD step x y l).1.1 else x,if b=true then (nD step x y l).1.2 else y)/\(b=true->inv (nD step x y l).1.1 (nD step x y l).1.2):=by
 cases b with
 | true=>obtain⟨⟨j,q1⟩,q2⟩:=afl l step inv h0 h1 h2 l.length 0 fuel x y (by omega) (by unfold fuel; omega) hv; rw[List.drop_zero] at q1 q2; simp only[if_true]; exact⟨j,q1,λ_=>q2⟩
 | false=>simp only[Bool.false_eq_true,if_false]; refine⟨0,?_,λh=>by cases h⟩; rw[show fuel=4611686018427387903+1 from rfl,iter,h0]
end
section
variable {α O:Type} {Q:O->Prop}
theorem adw (f:α->Int) (A B:List α) (hA:iK f A) (hB:iK f B) (hd:∀a∈A,∀b∈B,f a≠f b) (hlA:A.length<=1000000) (hlB:B.length<=1000000) {K:Int×Int×List α->Option O}
    (hK:∀out,iK f out->(∀x,x∈out↔x∈A\/x∈B)->∀k i,Ok (K (k,i,out)) Q) :
    Ok (iter (λ(s:Int×Int×List α) aCF aF9 =>
      cond (decide (s.2.1<=((A.length:Nat):Int))) (
       iter (λ(s1:Int×List α) kB tD =>
        cond (decide (s1.1<((B.length:Nat):Int))) (
         cond (decide (s.2.1=((A.length:Nat):Int))) (
          thn (oI B s1.1) λe =>
          cU (s1.2.length+1<=68719476736) <|
          kB ((IntKind.i64.wrap (s1.1+1)),(s1.2++[e]))) <|
         thn (oI B s1.1) λe =>
         thn (oI A s.2.1) λe2 =>
         cond (decide (f e<f e2)) (
          cU (s1.2.length+1<=68719476736) <|
          kB ((IntKind.i64.wrap (s1.1+1)),(s1.2++[e]))) <|
         tD (s1.1,s1.2)) <|
        tD (s1.1,s1.2))
       fuel (s.1,s.2.2) λs1 =>
       cond (decide (s.2.1<((A.length:Nat):Int))) (
        thn (oI A s.2.1) λe =>
        cU (s1.2.length+1<=68719476736) <|
        aCF (s1.1,(IntKind.i64.wrap (s.2.1+1)),(s1.2++[e]))) <|
       aCF (s1.1,(IntKind.i64.wrap (s.2.1+1)),s1.2)) <|
      aF9 (s.1,s.2.1,s.2.2))
     fuel (0,0,([]:List α)) K) Q:=by
  refine aiu (λ(s:Int×Int×List α)=>∃k i:Nat,s.1=(k:Int)/\s.2.1=(i:Int)/\k<=B.length/\i<=A.length+1/\s.2.2.length<=i+k/\iK f s.2.2/\(∀x,x∈s.2.2↔x∈A.take i\/x∈B.take k)/\(∀x∈s.2.2,∀j,(hj:j<A.length)->i<=j->f x<f A[j])/\(∀x∈s.2.2,∀j,(hj:j<B.length)->k<=j->f x<f B[j])/\(i<=A.length\/k=B.length)) (λs=>A.length+1 - s.2.1.toNat)
    ⟨0,0,rfl,rfl,Nat.zero_le _,Nat.zero_le _,Nat.le_refl _,iK.nil,by simp,λx hx=>(by cases hx),λx hx=>(by cases hx),.inl (Nat.zero_le _)⟩ (by unfold fuel; simp; omega) ?_
  rintro⟨s1,s2,out⟩ cv ⟨k,i,rfl,rfl,hk,hi,hlen,axb,hmem,h1,h2,h3⟩ hn; simp only at hlen axb hmem h1 h2 hn ⊢; by_cases hc:i<=A.length; rotate_left
  · refine awx (decide_eq_false (by omega)) (hK out axb (λx=>?_) _ _); have hkB:k=B.length:=by omega
    rw[hmem,List.take_of_length_le (by omega),List.take_of_length_le (by omega)]
  refine pz (decide_eq_true (by omega)) ?_; refine aiu (λ(s:Int×List α)=>∃k':Nat,s.1=(k':Int)/\k<=k'/\k'<=B.length/\s.2.length<=i+k'/\iK f s.2/\(∀x,x∈s.2↔x∈A.take i\/x∈B.take k')/\(∀x∈s.2,∀j,(hj:j<A.length)->i<=j->f x<f A[j])/\(∀x∈s.2,∀j,(hj:j<B.length)->k'<=j->f x<f B[j])) (λs=>B.length - s.1.toNat)
    ⟨k,rfl,Nat.le_refl _,hk,hlen,axb,hmem,h1,h2⟩ (by unfold fuel; simp; omega) ?_
  rintro⟨t,out⟩ aGa ⟨k',rfl,hkk,hk',hlen',apf,apg,sr,h2'⟩ hn1; simp only at hlen' apf apg sr h2' hn1 ⊢
  have behind : (k' = B.length ∨ (i < A.length ∧ ∃ hb : k' < B.length, ∀ ha : i < A.length, f A[i] < f B[k'])) → Ok (cond (decide (((i : Nat) : Int) < ((A.length : Nat) : Int))) (
        thn (oI A ((i:Nat):Int)) λe =>
        cU (out.length+1<=68719476736) <|
        cv (((k':Nat):Int),(IntKind.i64.wrap (((i:Nat):Int)+1)),(out++[e]))) <|
       cv (((k':Nat):Int),(IntKind.i64.wrap (((i:Nat):Int)+1)),out)) Q:=by
    intro hb; rw[gT (by omega)]; by_cases ha:i<A.length
    · refine pz (decide_eq_true (by omega)) (yH (by omega) (by omega) (jG (by omega) (hn _ ⟨k',i+1,rfl,by simp only; omega,hk',by omega,by simp; omega,?_,?_,?_,?_,.inl (by omega)⟩ (by simp only; omega))))
      · refine apf.app (List.pairwise_singleton _ _) λa hx b hb=>?_
        rw[List.mem_singleton.1 hb]; exact sr a hx i ha (Nat.le_refl _)
      · intro x; rw[List.mem_append,apg,List.mem_singleton,List.take_add_one,List.getElem?_eq_getElem ha,Option.toList_some,List.mem_append,List.mem_singleton]; simp only[Int.toNat_natCast]; constructor
        · rintro ((h | h) | h)
          · exact .inl (.inl h)
          · exact .inr h
          · exact .inl (.inr h)
        · rintro ((h | h) | h)
          · exact .inl (.inl h)
          · exact .inr h
          · exact .inl (.inr h)
      · intro x hx j hj hij; rcases List.mem_append.1 hx with hx | hx
        · exact sr x hx j hj (by omega)
        · rw[List.mem_singleton.1 hx]; exact hA.ab4 (by simp only[Int.toNat_natCast]; omega) hj
      · intro x hx j hj hij; rcases List.mem_append.1 hx with hx | hx
        · exact h2' x hx j hj hij
        · rw[List.mem_singleton.1 hx]; rcases hb with hb | ⟨_,hb,hab⟩
          · omega
          · have e1:=hab ha; rcases Nat.lt_or_eq_of_le hij with h | h
            · exact Int.lt_trans e1 (hB.ab4 h hj)
            · subst h; exact e1
    · refine awx (decide_eq_false (by omega)) (hn _ ⟨k',i+1,rfl,by simp only; omega,hk',by omega,by simp only; omega,apf,?_,?_,h2',?_⟩ (by simp only; omega))
      · intro x; simp only; rw[apg,List.take_of_length_le (show A.length<=i by omega),List.take_of_length_le (show A.length<=i+1 by omega)]
      · intro x hx j hj hij; omega
      · rcases hb with hb | ⟨hb,_⟩
        · exact .inr hb
        · omega
  have step:(hb:k'<B.length)->(∀ha:i<A.length,f B[k']<f A[i])->Ok (aGa (IntKind.i64.wrap (((k':Nat):Int)+1),out++[B[k']])) Q:=by
    intro hb hab; rw[gT (by omega)]; refine hn1 _ ⟨k'+1,by simp only; omega,by omega,by omega,by simp; omega,?_,?_,?_,?_⟩ (by simp only; omega)
    · refine apf.app (List.pairwise_singleton _ _) λa hx b hb'=>?_
      rw[List.mem_singleton.1 hb']; exact h2' a hx k' hb (Nat.le_refl _)
    · intro x; rw[List.mem_append,apg,List.mem_singleton,List.take_add_one (l:=B),List.getElem?_eq_getElem hb,Option.toList_some,List.mem_append,List.mem_singleton,or_assoc]
    · intro x hx j hj hij; rcases List.mem_append.1 hx with hx | hx
      · exact sr x hx j hj hij
      · rw[List.mem_singleton.1 hx]; have e1:=hab (by omega); rcases Nat.lt_or_eq_of_le hij with h | h
        · exact Int.lt_trans e1 (hA.ab4 h hj)
        · subst h; exact e1
    · intro x hx j hj hij; rcases List.mem_append.1 hx with hx | hx
      · exact h2' x hx j hj (by omega)
      · rw[List.mem_singleton.1 hx]; exact hB.ab4 (by omega) hj
  by_cases hb:k'<B.length; rotate_left
  · exact awx (decide_eq_false (by omega)) (behind (.inl (by omega)))
  refine pz (decide_eq_true (by omega)) ?_; by_cases ha:i<A.length
  · refine awx (decide_eq_false (by omega)) (yH (by omega) (by omega) (yH (by omega) (by omega) ?_)); simp only[Int.toNat_natCast]; by_cases hlt:f B[k']<f A[i]
    · exact pz (decide_eq_true hlt) (jG (by omega) (step hb λ_=>hlt))
    · refine awx (decide_eq_false hlt) (behind (.inr ⟨ha,hb,λ_=>?_⟩)); have:=hd A[i] (List.getElem_mem ha) B[k'] (List.getElem_mem hb); omega
  · refine pz (decide_eq_true (by omega)) (yH (by omega) (by omega) (jG (by omega) ?_)); simp only[Int.toNat_natCast]; exact step hb λh=>absurd h ha
end
end Go.cE
namespace Go.Proofs.YtllicmcihlfajaaGreat
open Go.cE
structure tL (t:Types) (h:Host):Prop where
 types:(iz t).2=0
 valid:qC h.graph=0
 aol:h.values.length=h.graph.nodes.length
 node:∀i,i<h.graph.nodes.length->oA t (h.graph.nodes.getD i default) (h.values.getD i default)=0
 je:∀i,i<h.graph.au.length->tj t h i=0
theorem tL.graph {t:Types} {h:Host} (hh:tL t h):OkG h.graph:=okG hh.valid
theorem uF {t:Types} {h:Host} : (j6 t h).2=0↔tL t h:=by
 unfold j6; constructor
 ·intro hv; split at hv
  ·rename_i h1; exact absurd hv h1
  ·rename_i h1; split at hv
   ·rename_i h2; exact absurd hv h2
   ·rename_i h2; split at hv
    ·cases hv
    ·rename_i h3; split at hv
     ·rename_i k hk; exact absurd hv (uv hk)
     ·rename_i h4; split at hv
      ·rename_i k hk; exact absurd hv (uv hk)
      ·rename_i h5; exact⟨Decidable.of_not_not h1,Decidable.of_not_not h2,Decidable.of_not_not h3,v8 h4,v8 h5⟩
 ·rintro⟨h1,h2,h3,h4,h5⟩; rw[if_neg (λh=>h h1),if_neg (λh=>h h2),if_neg (λh=>h h3),gZ (λj _ hj=>h4 j hj),gZ (λj _ hj=>h5 j hj)]
structure jo (t:Types) (x:az):Prop where
 host:tL t x.host
 vH:x.nodes.length=x.host.graph.nodes.length
 asQ:x.au.length=x.host.graph.au.length
 next:0<=x.next/\x.next<=1000000
 nid:(∀n∈x.nodes,0<=n/\n<x.next)/\iK id x.nodes
 eid:(∀n∈x.au,0<=n/\n<x.next)/\iK id x.au
 apart:∀e∈x.au,e ∉ x.nodes
theorem ef {t:Types} {x:az} : kK t x=0↔jo t x:=by
 unfold kK; constructor
 ·intro h; split at h
  ·rename_i h1; exact absurd h h1
  ·rename_i h1; split at h
   ·cases h
   ·rename_i h2; split at h
    ·cases h
    ·rename_i h3; split at h
     ·rename_i h4; exact absurd h h4
     ·rename_i h4; split at h
      ·rename_i h5; exact absurd h h5
      ·rename_i h5; split at h
       ·cases h
       ·rename_i h6; refine⟨uF.1 (Decidable.of_not_not h1),by omega,by omega,by omega,uE.1 (Decidable.of_not_not h4),uE.1 (Decidable.of_not_not h5),λe he hn=>h6 ?_⟩; exact List.any_eq_true.2 ⟨e,he,decide_eq_true hn⟩
 ·rintro⟨h1,h2,h3,h4,h5,h6,h7⟩; rw[if_neg (λh=>h (uF.2 h1)),if_neg (by omega),if_neg (by omega),if_neg (λh=>h (uE.2 h5)),if_neg (λh=>h (uE.2 h6)),if_neg]; intro h; obtain⟨e,he,hn⟩:=List.any_eq_true.1 h; exact h7 e he (of_decide_eq_true hn)
def eR (a:az) (i:Nat):ak:=⟨a.au.getD i default,(a.host.graph.au.getD i default).type,a.nodes.getD (a.host.graph.au.getD i default).src.toNat default,a.nodes.getD (a.host.graph.au.getD i default).dst.toNat default⟩
def fu (a:az):List ak:=(List.range a.au.length).map (eR a)
theorem afm {α:Type} [Inhabited α] (l:List α):(List.range l.length).map (λi=>l.getD i default)=l:=by
 refine List.ext_getElem (by simp) λi h1 h2=>?_
 simp[show i<l.length from h2]
theorem aaX (a:az):(bZ a).map aj.id=a.nodes:=by unfold bZ; rw[List.map_map]; exact afm a.nodes
theorem aaY (a:az):(fu a).map ak.id=a.au:=by unfold fu; rw[List.map_map]; exact afm a.au
theorem kL (a:az):(bZ a).length=a.nodes.length:=by simp[bZ]
theorem jZ (a:az):(fu a).length=a.au.length:=by simp[fu]
section
variable {t:Types} {a:az}
theorem jo.agc (h:jo t a):iK aj.id (bZ a):=iK.apd (f:=id) (by rw[aaX]; exact h.nid.2)
theorem jo.ald (h:jo t a):iK ak.id (fu a):=iK.apd (f:=id) (by rw[aaY]; exact h.eid.2)
theorem jo.n40 (h:jo t a):a.nodes.length<=40:=by rw[h.vH]; exact h.host.graph.nodes
theorem jo.e80 (h:jo t a):a.au.length<=80:=by rw[h.asQ]; exact h.host.graph.au
theorem tM {α:Type} (g:Nat->α) {i n:Nat} (hi:i<n):((List.range n).map g).take (i+1)=((List.range n).map g).take i++[g i]:=by rw[List.take_add_one,List.getElem?_eq_getElem (by simpa using hi),Option.toList_some,List.getElem_map,List.getElem_range]
theorem rX (h:jo t a):jH a=some (fu a):=by
 have hn:=h.n40; have he:=h.e80; refine Ok.eq ?_; unfold jH; refine jG (bk (by omega)) ?_; refine sB (λi s=>i<=a.au.length/\s=(fu a).take i) (Nat.zero_le _) ⟨Nat.zero_le _,rfl⟩ ?_ ?_
 ·rintro i s cv _ hi ⟨_,rfl⟩ hnx; have hi2:i<a.host.graph.au.length:=by rw[<-h.asQ]; exact hi
  have hg:a.host.graph.au.getD i default=a.host.graph.au[i]:=by simp[hi2]
  have hE:=h.host.graph.je i hi2; rw[hg] at hE; rw[<-h.vH] at hE; refine mV hi (mV hi2 (yH hE.2.1.1 (by omega) (yH hE.2.2.1 (by omega) (jG (by rw[List.length_take]; omega) (hnx _ ⟨hi,?_⟩))))); unfold fu; rw[tM _ hi]; congr 2; unfold eR; rw[hg]; simp only[ak.mk.injEq]; refine⟨by simp[hi],trivial,?_,?_⟩
  ·simp[show a.host.graph.au[i].src.toNat<a.nodes.length by omega]
  ·simp[show a.host.graph.au[i].dst.toNat<a.nodes.length by omega]
 ·rintro s ⟨_,rfl⟩; refine Ok.mk ?_; rw[List.take_of_length_le (by rw[jZ]; exact Nat.le_refl _)]
theorem axc (h:jo t a) {i:Nat} (hi:i<a.nodes.length) (hv:∀l∈a.host.values,l.length<=1000000):gh a (i:Int)=some (bI a i):=by
 have h1:i<a.host.graph.nodes.length:=by rw[<-h.vH]; exact hi
 have h2:i<a.host.values.length:=by rw[h.host.aol]; exact h1
 unfold gh; rw[fQ (by omega) (by simpa using hi),fQ (by omega) (by simpa using h1),fQ (by omega) (by simpa using h2)]; have:=hv _ (List.getElem_mem h2); simp only[Int.toNat_natCast]; rw[br (by omega)]; unfold bI; simp[hi,h1,h2]
theorem aiL (h:jo t a) {i:Nat} (hi:i<a.au.length):cZ a (i:Int)=some (eR a i):=by
 have hi2:i<a.host.graph.au.length:=by rw[<-h.asQ]; exact hi
 have hg:a.host.graph.au.getD i default=a.host.graph.au[i]:=by simp[hi2]
 have hE:=h.host.graph.je i hi2; rw[hg] at hE; rw[<-h.vH] at hE; unfold cZ; rw[fQ (by omega) (by simpa using hi2),fQ (by omega) (by simpa using hi)]; simp only[Int.toNat_natCast]; rw[fQ hE.2.1.1 (by omega),fQ hE.2.2.1 (by omega)]; unfold eR; rw[hg]; simp only[Option.some.injEq,ak.mk.injEq]; refine⟨by simp[hi],trivial,?_,?_⟩
 ·simp[show a.host.graph.au[i].src.toNat<a.nodes.length by omega]
 ·simp[show a.host.graph.au[i].dst.toNat<a.nodes.length by omega]
theorem axd (h:jo t a) (hv:∀l∈a.host.values,l.length<=1000000):fC a=some ⟨bZ a,fu a⟩:=by
 have hn:=h.n40; have he:=h.e80; refine Ok.eq ?_; unfold fC; refine jG (bk (by omega)) ?_; refine sB (λi s=>i<=a.nodes.length/\s=(bZ a).take i) (Nat.zero_le _) ⟨Nat.zero_le _,rfl⟩ ?_ ?_
 ·rintro i s cv _ hi ⟨_,rfl⟩ hnx; refine ok_eq (axc h hi hv) (jG (by rw[List.length_take]; omega) (hnx _ ⟨hi,?_⟩)); unfold bZ; rw[tM _ hi]
 ·rintro s ⟨_,rfl⟩; refine jG (bk (by omega)) ?_; refine sB (λi s=>i<=a.au.length/\s=(fu a).take i) (Nat.zero_le _) ⟨Nat.zero_le _,rfl⟩ ?_ ?_
  ·rintro i s cv _ hi ⟨_,rfl⟩ hnx; refine ok_eq (aiL h hi) (jG (by rw[List.length_take]; omega) (hnx _ ⟨hi,?_⟩)); unfold fu; rw[tM _ hi]
  ·rintro s ⟨_,rfl⟩; refine Ok.mk ?_; rw[List.take_of_length_le (by rw[kL]; exact Nat.le_refl _),List.take_of_length_le (by rw[jZ]; exact Nat.le_refl _)]
end
theorem ab6 {α:Type} [Inhabited α] (l:List α) (q:α->Bool):(List.range l.length).find? (λj=>q (l.getD j default))=l.findIdx? q:=by
 have hg:∀k,(hk:k<l.length)->l.getD k default=l[k]:=λk hk=>by simp[hk]
 cases h:l.findIdx? q with
 | none=>rw[List.find?_eq_none]; intro j hj; have hj:=List.mem_range.1 hj; rw[hg j hj]; have:=List.findIdx?_eq_none_iff.1 h _ (List.getElem_mem hj); rw[this]; simp
 | some i=>obtain⟨hi,h1,h2⟩:=List.findIdx?_eq_some_iff_getElem.1 h; rw[List.find?_range_eq_some]; refine⟨by rw[hg i hi]; exact h1,List.mem_range.2 hi,λj hj=>?_⟩; rw[hg j (by omega)]; have:=h2 j hj; simpa using this
theorem asR (s:aP) (e:ak) (hl:s.au.length<=1000000):cL s e=some (⟨s.nodes,(vF rB s.au e).1⟩,(vF rB s.au e).2):=by
 unfold cL; rw[br (bk (by omega))]; rw[tK (λj=>!rB (s.au.getD j default) e) (λj=>some (⟨s.nodes,s.au.take j++s.au.drop (j+1)⟩,true)) ?_]
 ·simp only[Bool.not_not]; rw[ab6 s.au (λm=>rB m e)]; unfold vF; cases s.au.findIdx? λm=>rB m e<;>rfl
 ·intro j hj cv; have hg:s.au.getD j default=s.au[j]:=by simp[hj]
  rw[bL hj,hg,ir]; show cond (rB s.au[j] e) _ _=_; cases rB s.au[j] e with
  | false=>rfl
  | true=>rw[cond_true,cond_true,gT (by omega),br (by omega),br (by rw[List.length_take]; omega),br (by omega),br (by rw[List.length_take,List.length_drop]; omega)]; rfl
theorem wH {a b:List Int} (ha:a.length<=1000000):c9 a b=some (decide (a=b)):=by
 unfold c9; rw[aW]; by_cases hl:a.length=b.length
 ·rw[if_pos (by omega),br (bk (by omega))]; rw[tK (λj=>decide (a.getD j 0=b.getD j 0)) (λ_=>some false) ?_]
  ·rw[oG]; by_cases h:a=b
   ·subst h; rw[if_pos (by simp),decide_eq_true rfl]
   ·rw[if_neg,decide_eq_false h]; intro h2; apply h; refine List.ext_getElem hl λi h3 h4=>?_
    have:=List.all_eq_true.1 h2 i (List.mem_range.2 h3); simpa[h3,h4] using this
  ·intro j hj cv; rw[bL hj,bL (show j<b.length by omega)]; simp[hj,show j<b.length by omega]
 ·rw[if_neg (by omega),decide_eq_false λh=>hl (by rw[h])]
theorem afn (a b:aj) (ha:a.values.length<=1000000):eM a b=some (eB a b):=by
 unfold eM eB; rw[aW,aW,aT (wH ha)]; by_cases h1:a.id=b.id
 ·rw[if_pos h1,decide_eq_true h1,Bool.true_and]; by_cases h2:a.type=b.type
  ·rw[if_pos h2,decide_eq_true h2,Bool.true_and]
  ·rw[if_neg h2,decide_eq_false h2,Bool.false_and]
 ·rw[if_neg h1,decide_eq_false h1,Bool.false_and]
theorem asS (s:aP) (e:aj) (hl:s.nodes.length<=1000000) (hv:∀n∈s.nodes,n.values.length<=1000000):cq s e=some (⟨(vF eB s.nodes e).1,s.au⟩,(vF eB s.nodes e).2):=by
 unfold cq; rw[br (bk (by omega))]; rw[tK (λj=>!eB (s.nodes.getD j default) e) (λj=>some (⟨s.nodes.take j++s.nodes.drop (j+1),s.au⟩,true)) ?_]
 ·simp only[Bool.not_not]; rw[ab6 s.nodes (λm=>eB m e)]; unfold vF; cases s.nodes.findIdx? λm=>eB m e<;>rfl
 ·intro j hj cv; have hg:s.nodes.getD j default=s.nodes[j]:=by simp[hj]
  rw[bL hj,aT (afn _ e (hv _ (List.getElem_mem hj))),hg,ir]; cases eB s.nodes[j] e with
  | false=>rfl
  | true=>rw[cond_true,cond_true,gT (by omega),br (by omega),br (by omega),br (by rw[List.length_take]; omega),br (by rw[List.length_take,List.length_drop]; omega)]; rfl
theorem aCG (s:aP) (v:aO) (hl:s.nodes.length<=1000000) (hv:∀n∈s.nodes,n.values.length<=1000000):cD s v=some (⟨s.nodes.map (rF v),s.au⟩,s.nodes.any (lR v)):=by
 unfold cD; rw[br (bk (by omega))]; rw[(qN s.nodes (λ(s:List aj×Bool) n=>(s.1++[rF v n],s.2||lR v n)) (λi s=>s.1.length=i) rfl ?_).1]
 ·have key:∀ (l:List aj) (a:List aj×Bool),l.foldl (λ(s:List aj×Bool) n=>(s.1++[rF v n],s.2||lR v n)) a=(a.1++l.map (rF v),a.2||l.any (lR v)):=by
   intro l
   induction l with
   | nil=>intro a; simp
   | cons n l ih=>intro a; rw[List.foldl_cons,ih]; simp[Bool.or_assoc]
  rw[key]; rfl
 ·rintro i hi ⟨out,b⟩ hlen; simp only at hlen; have hn:=hv _ (List.getElem_mem hi); refine⟨λcv=>?_,by simp[hlen]⟩; rw[bL hi]; generalize s.nodes[i]=n at hn ⊢; simp only; rw[br (show out.length+1<=68719476736 by omega)]; have hno:lR v n=false->cv (out++[n],b)=cv (out++[rF v n],b||lR v n):=λh=>by unfold rF; rw[h]; simp
  rw[aW,aW,aW]; by_cases h1:n.id=v.id; rotate_left
  ·rw[if_neg h1,hno]; unfold lR; rw[decide_eq_false h1]; rfl
  rw[if_pos h1]; by_cases h2:0<=v.attr; rotate_left
  ·rw[if_neg h2,hno]; unfold lR okV; rw[decide_eq_true (show v.attr<0 by omega)]; simp
  rw[if_pos h2]; by_cases h3:v.attr<n.values.length; rotate_left
  ·rw[if_neg h3,hno]; unfold lR okV; rw[decide_eq_true (show (n.values.length:Int)<=v.attr by omega)]; simp
  have hk:v.attr.toNat<n.values.length:=by omega
  have hg:n.values.getD v.attr.toNat default=n.values[v.attr.toNat]:=by simp[hk]
  rw[if_pos h3,fQ h2 hk,aW]; by_cases h4:n.values[v.attr.toNat]=v.old; rotate_left
  ·rw[if_neg h4,hno]; unfold lR okV; rw[hg,decide_eq_false h4]; simp
  rw[if_pos h4,aW]; by_cases h5:v.old=v.new
  ·rw[if_pos h5,hno]; unfold lR okV; rw[decide_eq_true (show v.new=v.old from h5.symm)]; simp
  rw[if_neg h5,br (by omega),br (show out.length+1<=68719476736 by omega)]; have hy:lR v n=true:=by unfold lR okV; rw[hg,decide_eq_true h1,decide_eq_false (show ¬ v.attr<0 by omega),decide_eq_false (show ¬ (n.values.length:Int)<=v.attr by omega),decide_eq_true h4,decide_eq_false (show ¬ v.new=v.old from λh=>h5 h.symm)]; rfl
  unfold rF; rw[hy,if_pos rfl,Bool.or_true]
end Go.Proofs.YtllicmcihlfajaaGreat
namespace Go.Proofs.YtllicmcihlfajaaGreat
open Go.cE
theorem vI {α O:Type} {l:List α} (R:α->α->Prop) [DecidableRel R] (tr:∀a b c,R a b->R b c->R a c) {f:Nat->Unit->(Unit->Option O)->(Unit->Option O)->Option O} {K:Unit->Option O} (y n:Option O) (hy:K ()=y)
  (h:∀i (hi:i<l.length) (_:1<=i) cv,f i () cv K=cond (decide (R (l[i - 1]'(by omega)) l[i])) (cv ()) n):bP f (l.length - 1) 1 () K=if l.Pairwise R then y else n:=by
 rw[ac1 (λj=>decide (∀h:j<l.length,1<=j->R (l[j - 1]'(by omega)) l[j])) (λ_=>n) (l.length - 1) 1 λj h1 h2 cv=>?_]
 ·rw[oG,hy]; congr 1; rw[eq_iff_iff,List.all_eq_true,List.pairwise_iff_getElem]; constructor
  ·intro h; have step:∀k,(hk:k+1<l.length)->R (l[k]'(by omega)) l[k+1]:=λk hk=>of_decide_eq_true (h (k+1) (List.mem_range'_1.2 ⟨by omega,by omega⟩)) hk (by omega)
   have key:∀k i,(hk:i+1+k<l.length)->R (l[i]'(by omega)) l[i+1+k]:=λk=>by
    induction k with
    | zero=>exact λi hi=>step i hi
    | succ k ih=>exact λi hi=>tr _ _ _ (ih i (by omega)) (step (i+1+k) hi)
   intro i j hi hj hij; obtain⟨k,rfl⟩:∃k,j=i+1+k:=⟨j - (i+1),by omega⟩; exact key k i hj
  ·intro h j hj; exact decide_eq_true λh1 h2=>h _ _ _ _ (by omega)
 ·rw[h j (by omega) h1 cv]; congr 1; rw[decide_eq_decide]; exact⟨λh _ _=>h,λh=>h _ h1⟩
instance {α:Type} (f:α->Int) (l:List α):Decidable (iK f l):=inferInstanceAs (Decidable (l.Pairwise λa b=>f a<f b))
def ltV (a b:aO):Prop:=a.id<b.id\/a.id=b.id/\a.attr<b.attr
instance:DecidableRel ltV:=λa b=>inferInstanceAs (Decidable (a.id<b.id\/a.id=b.id/\a.attr<b.attr))
theorem axe (a b c:aO) (h1:ltV a b) (h2:ltV b c):ltV a c:=by unfold ltV at *; omega
structure Ordered (p:aG):Prop where
 rn:iK aj.id p.ax
 re:iK ak.id p.aD
 an:iK aj.id p.aQ
 ae:iK ak.id p.aM
 va:p.values.Pairwise ltV
def qU (p:aG):Int :=
 if 500<p.ax.length\/500<p.aD.length\/500<p.aQ.length\/500<p.aM.length\/500<p.values.length then 3
 else if iK aj.id p.ax/\iK ak.id p.aD/\iK aj.id p.aQ/\iK ak.id p.aM/\p.values.Pairwise ltV then 0 else 12
structure gm (p:aG):Prop where
 rn:p.ax.length<=1000000
 re:p.aD.length<=1000000
 an:p.aQ.length<=1000000
 ae:p.aM.length<=1000000
 va:p.values.length<=1000000
 rv:∀n∈p.ax,n.values.length<=1000
 av:∀n∈p.aQ,n.values.length<=1000
structure Small (p:aG):Prop where
 rn:p.ax.length<=500
 re:p.aD.length<=500
 an:p.aQ.length<=500
 ae:p.aM.length<=500
 va:p.values.length<=500
theorem sH {p:aG} : qU p=0↔Small p/\Ordered p:=by
 unfold qU; constructor
 ·intro h; split at h
  ·cases h
  ·split at h
   ·rename_i h1 h2; exact⟨⟨by omega,by omega,by omega,by omega,by omega⟩,⟨h2.1,h2.2.1,h2.2.2.1,h2.2.2.2.1,h2.2.2.2.2⟩⟩
   ·cases h
 ·rintro⟨h1,h2⟩; have a1:=h1.rn; have a2:=h1.re; have a3:=h1.an; have a4:=h1.ae; have a5:=h1.va; rw[if_neg (by omega),if_pos ⟨h2.rn,h2.re,h2.an,h2.ae,h2.va⟩]
theorem lS {l:List aj} (hl:l.length<=1000000):dG l=some (decide (iK aj.id l)):=by
 unfold dG; rw[br (bk (by omega))]; rw[vI (λa b:aj=>a.id<b.id) (λa b c h1 h2=>by omega) (some true) (some false) rfl λi hi h1 cv=>?_]
 ·by_cases h:l.Pairwise λa b:aj=>a.id<b.id
  ·rw[if_pos h,decide_eq_true (show iK aj.id l from h)]
  ·rw[if_neg h,decide_eq_false (show ¬ iK aj.id l from h)]
 ·have e:l[(((i:Nat):Int) - 1).toNat]'(by omega)=l[i - 1]'(by omega):=by congr 1; omega
  rw[bL hi,gT (by omega),fQ (by omega) (by omega),e,aW,aW]; by_cases h:l[i].id<=(l[i - 1]'(by omega)).id
  ·rw[if_pos h,if_neg (by omega)]
  ·rw[if_neg h,if_pos (by omega)]
theorem lT {l:List ak} (hl:l.length<=1000000):dH l=some (decide (iK ak.id l)):=by
 unfold dH; rw[br (bk (by omega))]; rw[vI (λa b:ak=>a.id<b.id) (λa b c h1 h2=>by omega) (some true) (some false) rfl λi hi h1 cv=>?_]
 ·by_cases h:l.Pairwise λa b:ak=>a.id<b.id
  ·rw[if_pos h,decide_eq_true (show iK ak.id l from h)]
  ·rw[if_neg h,decide_eq_false (show ¬ iK ak.id l from h)]
 ·have e:l[(((i:Nat):Int) - 1).toNat]'(by omega)=l[i - 1]'(by omega):=by congr 1; omega
  rw[bL hi,gT (by omega),fQ (by omega) (by omega),e,aW,aW]; by_cases h:l[i].id<=(l[i - 1]'(by omega)).id
  ·rw[if_pos h,if_neg (by omega)]
  ·rw[if_neg h,if_pos (by omega)]
theorem adV {l:List aO} (hl:l.length<=1000000):ew l=some (decide (l.Pairwise ltV)):=by
 unfold ew; rw[br (bk (by omega))]; rw[vI ltV axe (some true) (some false) rfl λi hi h1 cv=>?_]
 ·by_cases h:l.Pairwise ltV
  ·rw[if_pos h,decide_eq_true h]
  ·rw[if_neg h,decide_eq_false h]
 ·have e:l[(((i:Nat):Int) - 1).toNat]'(by omega)=l[i - 1]'(by omega):=by congr 1; omega
  rw[bL hi,gT (by omega),fQ (by omega) (by omega),e,aW,aW,aW,aW]; generalize l[i]=x; generalize l[i - 1]'(by omega)=y; have hv:ltV y x↔(y.id<x.id\/y.id=x.id/\y.attr<x.attr):=Iff.rfl; by_cases h1:x.id<y.id
  ·rw[if_pos h1,if_neg λh=>by have:=hv.1 h; omega]
  rw[if_neg h1]; by_cases h2:x.id=y.id
  ·rw[if_pos h2]; by_cases h3:x.attr<=y.attr
   ·rw[if_pos h3,if_neg λh=>by have:=hv.1 h; omega]
   ·rw[if_neg h3,if_pos (hv.2 (by omega))]
  ·rw[if_neg h2,if_pos (hv.2 (by omega))]
theorem l_ordered {p:aG} (hp:gm p):gA p=some (qU p):=by
 unfold gA qU; rw[aW,aW,aW,aW,aW]; by_cases h1:500<p.ax.length
 ·rw[if_pos (by omega),if_pos (.inl h1)]
 rw[if_neg (by omega)]; by_cases h2:500<p.aD.length
 ·rw[if_pos (by omega),if_pos (.inr (.inl h2))]
 rw[if_neg (by omega)]; by_cases h3:500<p.aQ.length
 ·rw[if_pos (by omega),if_pos (.inr (.inr (.inl h3)))]
 rw[if_neg (by omega)]; by_cases h4:500<p.aM.length
 ·rw[if_pos (by omega),if_pos (.inr (.inr (.inr (.inl h4))))]
 rw[if_neg (by omega)]; by_cases h5:500<p.values.length
 ·rw[if_pos (by omega),if_pos (.inr (.inr (.inr (.inr h5))))]
 rw[if_neg (by omega),if_neg (show ¬ (_\/_) by omega)]; rw[aT (lS hp.rn),aW]; by_cases g1:iK aj.id p.ax; rotate_left
 ·rw[if_neg g1,if_neg λh=>g1 h.1]
 rw[if_pos g1,aT (lT hp.re),aW]; by_cases g2:iK ak.id p.aD; rotate_left
 ·rw[if_neg g2,if_neg λh=>g2 h.2.1]
 rw[if_pos g2,aT (lS hp.an),aW]; by_cases g3:iK aj.id p.aQ; rotate_left
 ·rw[if_neg g3,if_neg λh=>g3 h.2.2.1]
 rw[if_pos g3,aT (lT hp.ae),aW]; by_cases g4:iK ak.id p.aM; rotate_left
 ·rw[if_neg g4,if_neg λh=>g4 h.2.2.2.1]
 rw[if_pos g4,aT (adV hp.va),aW]; by_cases g5:p.values.Pairwise ltV
 ·rw[if_pos g5,if_pos ⟨g1,g2,g3,g4,g5⟩]
 ·rw[if_neg g5,if_neg λh=>g5 h.2.2.2.2]
theorem aph (a b:Int):gH a b=some (pS a b):=by
 unfold gH; rw[aT (show iM a=some false by unfold iM; simp),aT (show iM b=some false by unfold iM; simp),cond_false,cond_false,aW,aW]; unfold pS; split
 ·rfl
 ·split<;>rfl
theorem aGb (a b:Int):pT [a,b]=some (if a=0 then b else a):=by
 unfold pT; rw[br (bk (by simp))]; show bP _ 2 0 () _=_; simp only[bP,List.getElem?_cons_zero,List.getElem?_cons_succ,mH,aW]; by_cases h:a=0
 ·rw[if_pos h,if_pos h]; by_cases h2:b=0
  ·rw[if_pos h2,h2]
  ·rw[if_neg h2]
 ·rw[if_neg h,if_neg h]
theorem ab7 {a b:Int} : ¬ (0<=pS a b)↔a<b:=by
 unfold pS; split
 ·omega
 ·split<;>omega
theorem axf (a b:aj):gb a b=some (pS a.id b.id):=by unfold gb; rw[aT (aph _ _)]
theorem axg (a b:ak):gd a b=some (pS a.id b.id):=by unfold gd; rw[aT (aph _ _)]
theorem asT (a b:aO):iB a b=some (if pS a.id b.id=0 then pS a.attr b.attr else pS a.id b.id):=by unfold iB; rw[aT (aph _ _),aT (aph _ _),aT (aGb _ _)]
theorem xy {l:List aj} (hl:l.length<=1000000):dK l (λa b=>gb a b)=some (decide (iK aj.id l)):=by
 unfold dK; rw[br (bk (by omega))]; rw[vI (λa b:aj=>a.id<b.id) (λa b c h1 h2=>by omega) (some true) (some false) rfl λi hi h1 cv=>?_]
 ·by_cases h:l.Pairwise λa b:aj=>a.id<b.id
  ·rw[if_pos h,decide_eq_true (show iK aj.id l from h)]
  ·rw[if_neg h,decide_eq_false (show ¬ iK aj.id l from h)]
 ·have e:l[(((i:Nat):Int) - 1).toNat]'(by omega)=l[i - 1]'(by omega):=by congr 1; omega
  rw[gT (by omega),fQ (by omega) (by omega),bL hi,e]; rw[aT (axf _ _),aW,aW]; by_cases h:(l[i - 1]'(by omega)).id<l[i].id
  ·rw[if_pos h,if_neg (ab7.2 h)]
  ·rw[if_neg h,if_pos (Decidable.of_not_not λh2=>h (ab7.1 h2))]
theorem xz {l:List ak} (hl:l.length<=1000000):dL l (λa b=>gd a b)=some (decide (iK ak.id l)):=by
 unfold dL; rw[br (bk (by omega))]; rw[vI (λa b:ak=>a.id<b.id) (λa b c h1 h2=>by omega) (some true) (some false) rfl λi hi h1 cv=>?_]
 ·by_cases h:l.Pairwise λa b:ak=>a.id<b.id
  ·rw[if_pos h,decide_eq_true (show iK ak.id l from h)]
  ·rw[if_neg h,decide_eq_false (show ¬ iK ak.id l from h)]
 ·have e:l[(((i:Nat):Int) - 1).toNat]'(by omega)=l[i - 1]'(by omega):=by congr 1; omega
  rw[gT (by omega),fQ (by omega) (by omega),bL hi,e]; rw[aT (axg _ _),aW,aW]; by_cases h:(l[i - 1]'(by omega)).id<l[i].id
  ·rw[if_pos h,if_neg (ab7.2 h)]
  ·rw[if_neg h,if_pos (Decidable.of_not_not λh2=>h (ab7.1 h2))]
theorem ac4 {l:List aO} (hl:l.length<=1000000):eG l (λa b=>iB a b)=some (decide (l.Pairwise ltV)):=by
 unfold eG; rw[br (bk (by omega))]; rw[vI ltV axe (some true) (some false) rfl λi hi h1 cv=>?_]
 ·by_cases h:l.Pairwise ltV
  ·rw[if_pos h,decide_eq_true h]
  ·rw[if_neg h,decide_eq_false h]
 ·have e:l[(((i:Nat):Int) - 1).toNat]'(by omega)=l[i - 1]'(by omega):=by congr 1; omega
  rw[gT (by omega),fQ (by omega) (by omega),bL hi,e]; rw[aT (asT _ _),aW,aW]; generalize l[i]=x; generalize l[i - 1]'(by omega)=y; have hv:ltV y x↔(y.id<x.id\/y.id=x.id/\y.attr<x.attr):=Iff.rfl; have hc:(0<=if pS y.id x.id=0 then pS y.attr x.attr else pS y.id x.id)↔¬ ltV y x:=by
   rw[hv]; unfold pS; by_cases h1:y.id<x.id
   ·rw[if_pos h1,if_neg (by omega)]; omega
   ·rw[if_neg h1]; by_cases h2:y.id > x.id
    ·rw[if_pos h2,if_neg (by omega)]; omega
    ·rw[if_neg h2,if_pos rfl]; split
     ·omega
     ·split<;>omega
  by_cases h:ltV y x
  ·rw[if_pos h,if_neg λh2=>hc.1 h2 h]
  ·rw[if_neg h,if_pos (hc.2 h)]
theorem axh {p:aG} (hp:gm p):lG p=some (qU p):=by
 unfold lG qU; rw[aW]; by_cases h0:500<p.ax.length\/500<p.aD.length\/500<p.aQ.length\/500<p.aM.length\/500<p.values.length
 ·rw[if_pos (by omega),if_pos h0]
 rw[if_neg (by omega),if_neg h0]; rw[aT (xy hp.rn),aW]; by_cases g1:iK aj.id p.ax; rotate_left
 ·rw[if_neg g1,if_neg λh=>g1 h.1]
 rw[if_pos g1,aT (xy hp.an),aW]; by_cases g3:iK aj.id p.aQ; rotate_left
 ·rw[if_neg g3,if_neg λh=>g3 h.2.2.1]
 rw[if_pos g3,aT (xz hp.re),aW]; by_cases g2:iK ak.id p.aD; rotate_left
 ·rw[if_neg g2,if_neg λh=>g2 h.2.1]
 rw[if_pos g2,aT (xz hp.ae),aW]; by_cases g4:iK ak.id p.aM; rotate_left
 ·rw[if_neg g4,if_neg λh=>g4 h.2.2.2.1]
 rw[if_pos g4,aT (ac4 hp.va),aW]; by_cases g5:p.values.Pairwise ltV
 ·rw[if_pos g5,if_pos ⟨g1,g2,g3,g4,g5⟩]
 ·rw[if_neg g5,if_neg λh=>g5 h.2.2.2.2]
end Go.Proofs.YtllicmcihlfajaaGreat
namespace Go.Proofs.YtllicmcihlfajaaGreat
open Go.cE
theorem afo {α:Type} {q:α->α->Bool} {l:List α} {n:α} : ((vF q l n).1).Sublist l:=by
 unfold vF; split
 ·exact List.Sublist.refl _
 ·rw[<-List.eraseIdx_eq_take_drop_succ]; exact List.eraseIdx_sublist ..
theorem afp (x:List aj):∀ (r y:List ak),nD (λ(x:List aj) y e=>((x,(vF rB y e).1),(vF rB y e).2)) x y r=((x,(gX rB y r).1),(gX rB y r).2)
 | [],y=>rfl
 | e :: r,y=>by
  rw[nD,gX]; simp only; split
  ·exact afp x r _
  ·rename_i h; simp only[Bool.not_eq_true] at h; rw[h]
theorem afq (y:List ak):∀ (r x:List aj),nD (λx (y:List ak) e=>(((vF eB x e).1,y),(vF eB x e).2)) x y r=(((gX eB x r).1,y),(gX eB x r).2)
 | [],x=>rfl
 | e :: r,x=>by
  rw[nD,gX]; simp only; split
  ·exact afq y r _
  ·rename_i h; simp only[Bool.not_eq_true] at h; rw[h]
theorem aha (y:List ak):∀ (r:List aO) (x:List aj),nD (λx (y:List ak) v=>((x.map (rF v),y),x.any (lR v))) x y r=(((gl x r).1,y),(gl x r).2)
 | [],x=>rfl
 | e :: r,x=>by
  rw[nD,gl]; simp only; split
  ·exact aha y r _
  ·rename_i h; simp only[Bool.not_eq_true] at h; rw[h]
def axi (s:aP) (p:aG):aP×Bool :=
 if (gX rB s.au p.aD).2=true then
  if (gX eB s.nodes p.ax).2=true then (⟨(gl (gX eB s.nodes p.ax).1 p.values).1,(gX rB s.au p.aD).1⟩,(gl (gX eB s.nodes p.ax).1 p.values).2)
  else (⟨(gX eB s.nodes p.ax).1,(gX rB s.au p.aD).1⟩,false)
 else (⟨s.nodes,(gX rB s.au p.aD).1⟩,false)
def Rows (l:List aj):Prop:=∀n∈l,n.values.length<=1000
theorem ac5 {l:List aj} (h:Rows l) (v:aO):Rows (l.map (rF v)):=λn hn=>by obtain⟨m,hm,rfl⟩:=List.mem_map.1 hn; rw[afi]; exact h m hm
def u7 {α O:Type} (l:List α) (f:aP->α->Option (aP×Bool)) (s:Bool×Int×List aj×List ak) (cv brk:Bool×Int×List aj×List ak->Option O):Option O :=
  cond (decide (s.2.1<((l.length:Nat):Int))) (
   cond s.1 (
    thn (oI l s.2.1) λe =>
    thn (f (⟨s.2.2.1,s.2.2.2⟩:aP) e) λr =>
    cv (r.2,(IntKind.i64.wrap (s.2.1+1)),r.1.nodes,r.1.au)) <|
   brk (s.1,s.2.1,s.2.2.1,s.2.2.2)) <|
  brk (s.1,s.2.1,s.2.2.1,s.2.2.2)
theorem yP {α O:Type} {K:Bool×Int×List aj×List ak->Option O} (l:List α) (f:aP->α->Option (aP×Bool)) (step:List aj->List ak->α->(List aj×List ak)×Bool) (inv:List aj->List ak->Prop) (hl:l.length<=1000000)
  (h:∀x y e,inv x y->f ⟨x,y⟩ e=some (⟨(step x y e).1.1,(step x y e).1.2⟩,(step x y e).2)/\inv (step x y e).1.1 (step x y e).1.2) (b:Bool) (x:List aj) (y:List ak) (hv:inv x y) :
  ∃j,iter (u7 l f) fuel (b,0,x,y) K=K (if b=true then (nD step x y l).2 else false,j,if b=true then (nD step x y l).1.1 else x,if b=true then (nD step x y l).1.2 else y)/\(b=true->inv (nD step x y l).1.1 (nD step x y l).1.2):=by
 refine axa l step inv hl (λi x y cv=>?_) (λx y cv=>?_) (λi hi x y cv hxy=>?_) b x y hv
 ·unfold u7; simp only; cases decide (i<((l.length:Nat):Int))<;>rfl
 ·unfold u7; simp
 ·obtain⟨h1,h2⟩:=h x y l[i] hxy; unfold u7; simp only; rw[decide_eq_true (by omega),cond_true,cond_true,fQ (by omega) (by simpa using hi),gT (by omega)]; exact⟨by rw[show l[((i:Nat):Int).toNat]'(by simpa using hi)=l[i] from rfl,aT h1]; rfl,h2⟩
theorem aAZ (s:aP) (p:aG) (hn:s.nodes.length<=1000000) (he:s.au.length<=1000000) (hv:Rows s.nodes) (hp:gm p):fm s p=some (axi s p):=by
 unfold fm; show iter (u7 p.aD cL) fuel (true,0,s.nodes,s.au) (λs1=>iter (u7 p.ax cq) fuel (s1.1,0,s1.2.2.1,s1.2.2.2) λs2=>iter (u7 p.values cD) fuel (s2.1,0,s2.2.2.1,s2.2.2.2) λs3=>some ((⟨s3.2.2.1,s3.2.2.2⟩:aP),s3.1))=_; obtain⟨j1,e1,_⟩:=yP (K:=λs1=>iter (u7 p.ax cq) fuel (s1.1,0,s1.2.2.1,s1.2.2.2) λs2=>iter (u7 p.values cD) fuel (s2.1,0,s2.2.2.1,s2.2.2.2) λs3=>some ((⟨s3.2.2.1,s3.2.2.2⟩:aP),s3.1)) p.aD cL (λ(x:List aj) y e=>((x,(vF rB y e).1),(vF rB y e).2)) (λx y=>y.length<=1000000) hp.re
  (λx y e hy=>⟨asR ⟨x,y⟩ e hy,Nat.le_trans (afo (q:=rB)).length_le hy⟩) true s.nodes s.au he
 rw[e1]; simp only[if_true,afp]; obtain⟨j2,e2,i2⟩:=yP (K:=λs2=>iter (u7 p.values cD) fuel (s2.1,0,s2.2.2.1,s2.2.2.2) λs3=>some ((⟨s3.2.2.1,s3.2.2.2⟩:aP),s3.1)) p.ax cq (λx (y:List ak) e=>(((vF eB x e).1,y),(vF eB x e).2)) (λx y=>x.length<=1000000/\Rows x) hp.rn
  (λx y e hy=>⟨asS ⟨x,y⟩ e hy.1 λn hn=>by have:=hy.2 n hn; omega,Nat.le_trans (afo (q:=eB)).length_le hy.1,λn hn=>hy.2 n (afo.mem hn)⟩) (gX rB s.au p.aD).2 s.nodes (gX rB s.au p.aD).1 ⟨hn,hv⟩
 rw[e2]; simp only[afq] at i2 ⊢; obtain⟨j3,e3,_⟩:=yP (K:=λs3=>some ((⟨s3.2.2.1,s3.2.2.2⟩:aP),s3.1)) p.values cD (λx (y:List ak) v=>((x.map (rF v),y),x.any (lR v))) (λx y=>x.length<=1000000/\Rows x) hp.va
  (λx y v hy=>⟨aCG ⟨x,y⟩ v hy.1 λn hn=>by have:=hy.2 n hn; omega,by simpa using hy.1,ac5 hy.2 _⟩) (if (gX rB s.au p.aD).2=true then (gX eB s.nodes p.ax).2 else false) (if (gX rB s.au p.aD).2=true then (gX eB s.nodes p.ax).1 else s.nodes) (if (gX rB s.au p.aD).2=true then (gX rB s.au p.aD).1 else (gX rB s.au p.aD).1) (by
  split
  ·rename_i h; exact i2 h
  ·exact⟨hn,hv⟩)
 rw[e3]; simp only[aha]; unfold axi; cases h1:(gX rB s.au p.aD).2 with
 | false=>simp
 | true =>
  simp only[if_true]; cases h2:(gX eB s.nodes p.ax).2 with
  | false=>simp
  | true=>simp
theorem azZ (s:aP) (id:Int) (hn:s.nodes.length<=1000000) (he:s.au.length<=1000000):eo s id=some (kI s.nodes s.au id):=by
 unfold eo kI; rw[br (bk (by omega))]; rw[nP s.nodes (λn=>!decide (n.id=id)) (λ_=>some true) (λi hi cv=>by rw[bL hi,ir]),oG]; by_cases h1:(s.nodes.all λn=>!decide (n.id=id))=true
 ·rw[if_pos h1,br (bk (by omega))]; rw[nP s.au (λn=>!decide (n.id=id)) (λ_=>some true) (λi hi cv=>by rw[bL hi,ir]),oG]; rw[List.all_eq_not_any_not] at h1 ⊢; simp only[Bool.not_not] at h1 ⊢; rw[show (s.nodes.any λn=>decide (n.id=id))=false by simpa using h1,Bool.false_or]; cases s.au.any λn=>decide (n.id=id)<;>rfl
 ·rw[if_neg h1]; rw[List.all_eq_not_any_not] at h1; simp only[Bool.not_not] at h1; rw[show (s.nodes.any λn=>decide (n.id=id))=true by simpa using h1]; rfl
def axj (s:aP) (p:aG):aP×Bool:=if gr s.nodes s.au p=true then (s,false) else (⟨kR (s.nodes++p.aQ),nW (s.au++p.aM)⟩,true)
theorem aA0 (s:aP) (p:aG) (hn:s.nodes.length<=1000000) (he:s.au.length<=1000000) (aN:iK aj.id s.nodes) (aE:iK ak.id s.au) (hp:gm p) (ho:Ordered p):fo s p=some (axj s p):=by
 have hpn:=hp.an; have hpe:=hp.ae; unfold fo axj; rw[br (bk (by omega))]; rw[nP p.aQ (λn=>!kI s.nodes s.au n.id) (λ_=>some (s,false)) (λi hi cv=>by rw[bL hi,aT (azZ s _ hn he),ir]),oG]; by_cases h1:(p.aQ.all λn=>!kI s.nodes s.au n.id)=true; rotate_left
 ·rw[if_neg h1]; rw[List.all_eq_not_any_not] at h1; simp only[Bool.not_not] at h1; have e:gr s.nodes s.au p=true:=by unfold gr; rw[show (p.aQ.any λn=>kI s.nodes s.au n.id)=true by simpa using h1]; rfl
  rw[if_pos e]
 rw[if_pos h1,br (bk (by omega))]; rw[List.all_eq_not_any_not] at h1; simp only[Bool.not_not] at h1; have sr:(p.aQ.any λn=>kI s.nodes s.au n.id)=false:=by simpa using h1
 rw[nP p.aM (λn=>!kI s.nodes s.au n.id) (λ_=>some (s,false)) (λi hi cv=>by rw[bL hi,aT (azZ s _ hn he),ir]),oG]; by_cases h2:(p.aM.all λn=>!kI s.nodes s.au n.id)=true; rotate_left
 ·rw[if_neg h2]; rw[List.all_eq_not_any_not] at h2; simp only[Bool.not_not] at h2; have e:gr s.nodes s.au p=true:=by unfold gr; rw[show (p.aM.any λn=>kI s.nodes s.au n.id)=true by simpa using h2,Bool.or_true]
  rw[if_pos e]
 rw[if_pos h2]; rw[List.all_eq_not_any_not] at h2; simp only[Bool.not_not] at h2; have h2':(p.aM.any λn=>kI s.nodes s.au n.id)=false:=by simpa using h2
 have ht:gr s.nodes s.au p=false:=by unfold gr; rw[sr,h2']; rfl
 rw[if_neg (by rw[ht]; simp)]; obtain⟨f1,f2⟩:=aaW ht; have dN:∀a∈s.nodes,∀b∈p.aQ,a.id≠b.id:=λa ha b hb=>(f1 b hb).1 a ha
 have dE:∀a∈s.au,∀b∈p.aM,a.id≠b.id:=λa ha b hb=>(f2 b hb).2 a ha
 refine Ok.eq ?_; refine adw aj.id s.nodes p.aQ aN ho.an dN hn hp.an λout axb hmem _ _=>?_
 have e1:out=kR (s.nodes++p.aQ):=axb.ext (ac2 (lQ aN ho.an dN)) λx=>by rw[hmem,sS,List.mem_append]
 refine adw ak.id s.au p.aM aE ho.ae dE he hp.ae λaGc aCH aCI _ _=>?_
 have e2:aGc=nW (s.au++p.aM):=aCH.ext (ac3 (lQ aE ho.ae dE)) λx=>by rw[aCI,vG,List.mem_append]
 subst e1 e2; exact Ok.mk rfl
end Go.Proofs.YtllicmcihlfajaaGreat
namespace Go.Proofs.YtllicmcihlfajaaGreat
open Go.cE
def cr (ids:List Int) (n:Int):Int:=wD (λy=>decide (y=n)) ids
def u9 (ids:List Int) (e:ak):Edge:=⟨e.type,cr ids e.src,cr ids e.dst⟩
def gD (N:List aj) (E:List ak) (next:Int):az:=⟨⟨⟨N.map aj.type,E.map (u9 (N.map aj.id))⟩,N.map aj.values⟩,N.map aj.id,E.map ak.id,next⟩
theorem aaZ:∀ (l:List aj) (a:List Int×List (List Int)×List Int),l.foldl (λ(s:List Int×List (List Int)×List Int) n=>(s.1++[n.type],s.2.1++[n.values],s.2.2++[n.id])) a=(a.1++l.map aj.type,a.2.1++l.map aj.values,a.2.2++l.map aj.id)
 | [],a=>by simp
 | n :: l,a=>by rw[List.foldl_cons,aaZ l]; simp
theorem afr (ids:List Int):∀ (l:List ak) (a:List Edge×List Int),l.foldl (λ(s:List Edge×List Int) e=>(s.1++[u9 ids e],s.2++[e.id])) a=(a.1++l.map (u9 ids),a.2++l.map ak.id)
 | [],a=>by simp
 | n :: l,a=>by rw[List.foldl_cons,afr ids l]; simp
theorem adW (s:aP) (next:Int) (hn:s.nodes.length<=1000000) (he:s.au.length<=1000000) (hv:Rows s.nodes):ez s next=some (gD s.nodes s.au next):=by
 unfold ez; rw[br (bk (by omega))]; rw[(qN s.nodes (λ(s:List Int×List (List Int)×List Int) n=>(s.1++[n.type],s.2.1++[n.values],s.2.2++[n.id])) (λi s=>s.1.length=i/\s.2.1.length=i/\s.2.2.length=i) ⟨rfl,rfl,rfl⟩ ?_).1]
 ·rw[aaZ]; simp only[List.nil_append]; rw[br (bk (by omega))]; rw[(qN s.au (λ(s1:List Edge×List Int) e=>(s1.1++[u9 (s.nodes.map aj.id) e],s1.2++[e.id])) (λi s=>s.1.length=i/\s.2.length=i) ⟨rfl,rfl⟩ ?_).1]
  ·rw[afr]; rfl
  ·rintro i hi ⟨a,b⟩ ⟨h1,h2⟩; simp only at h1 h2; refine⟨λcv=>?_,by simp[h1],by simp[h2]⟩; rw[bL hi,br (by simp only; omega),aT (cN (by simpa using hn) _),aT (cN (by simpa using hn) _),br (by simp only; omega)]; rfl
 ·rintro i hi ⟨a,b,c⟩ ⟨h1,h2,h3⟩; simp only at h1 h2 h3; refine⟨λcv=>?_,by simp[h1],by simp[h2],by simp[h3]⟩; have:=hv _ (List.getElem_mem hi); rw[bL hi,br (by simp only; omega),br (by simp only; omega),br (by omega),br (by simp only; omega)]
def yQ (ids:List Int) (e:ak):Bool:=decide (0<=cr ids e.src)&&decide (0<=cr ids e.dst)
theorem adx {l:List Int} (h:l.length<=1000000):mh l=some l:=ql h
theorem ab8 (N:List aj) (E:List ak) (next:Int) (hn:N.length<=1000000) (he:E.length<=1000000) (hv:Rows N):kC N E next=some (if E.all (yQ (N.map aj.id))=true then (gD N E next,true) else (jy,false)):=by
 unfold kC; rw[br (bk (by omega))]; rw[(qN N (λ(s:List Int×List (List Int)×List Int) n=>(s.1++[n.type],s.2.1++[n.values],s.2.2++[n.id])) (λi s=>s.1.length=i/\s.2.1.length=i/\s.2.2.length=i) ⟨rfl,rfl,rfl⟩ ?_).1]
 ·rw[aaZ]; simp only[List.nil_append]; rw[br (bk (by omega))]; refine Ok.eq ?_; refine sB (λj s=>j<=E.length/\s=((E.take j).map (u9 (N.map aj.id)),(E.take j).map ak.id)/\(E.take j).all (yQ (N.map aj.id))=true) (Nat.zero_le _) ⟨Nat.zero_le _,by simp,by simp⟩ ?_ ?_
  ·rintro j s cv _ hj ⟨_,rfl,ha⟩ hnx; refine mV hj (ok_eq (oS (by simpa using hn) _) (ok_eq (oS (by simpa using hn) _) ?_)); have hno:yQ (N.map aj.id) E[j]=false->(if E.all (yQ (N.map aj.id))=true then (gD N E next,true) else (jy,false))=(jy,false):=λh=>by rw[if_neg]; intro h2; rw[List.all_eq_true.1 h2 _ (List.getElem_mem hj)] at h; cases h
   refine iw (λhc=>?_) λhc=>?_
   ·refine Ok.mk ?_; rw[hno]
    ·rfl
    ·unfold yQ cr; have:=of_decide_eq_true hc; rw[decide_eq_false (by omega),Bool.false_and]
   refine iw (λyz=>?_) λyz=>?_
   ·refine Ok.mk ?_; rw[hno]
    ·rfl
    ·unfold yQ cr; have:=of_decide_eq_true yz; rw[decide_eq_false (p:=0<=wD (λy=>decide (y=E[j].dst)) (N.map aj.id)) (by omega),Bool.and_false]
   have c1:=of_decide_eq_false hc; have c2:=of_decide_eq_false yz; have he2:yQ (N.map aj.id) E[j]=true:=by unfold yQ; rw[Bool.and_eq_true]; exact⟨decide_eq_true (Int.not_lt.1 c1),decide_eq_true (Int.not_lt.1 c2)⟩
   refine jG (by simp; omega) (jG (by simp; omega) (hnx _ ⟨hj,?_,?_⟩))
   ·rw[List.take_add_one,List.getElem?_eq_getElem hj,Option.toList_some,List.map_append,List.map_append]; rfl
   ·rw[List.take_add_one,List.getElem?_eq_getElem hj,Option.toList_some,List.all_append,ha]; simpa using he2
  ·rintro s ⟨_,rfl,ha⟩; rw[List.take_length] at ha ⊢; rw[if_pos ha]; exact Ok.mk rfl
 ·rintro i hi ⟨a,b,c⟩ ⟨h1,h2,h3⟩; simp only at h1 h2 h3; refine⟨λcv=>?_,by simp[h1],by simp[h2],by simp[h3]⟩; have:=hv _ (List.getElem_mem hi); rw[bL hi,br (by simp only; omega),br (by simp only; omega),aT (adx (by omega)),br (by simp only; omega)]
theorem afs {t:Types} {N:List aj} {E:List ak} {next:Int} (h:jo t (gD N E next)):E.all (yQ (N.map aj.id))=true:=by
 rw[List.all_eq_true]; intro e he; obtain⟨j,hj,rfl⟩:=List.getElem_of_mem he; have:=h.host.graph.je j (by simpa[gD] using hj); simp only[gD] at this; have hg:(E.map (u9 (N.map aj.id))).getD j default=u9 (N.map aj.id) E[j]:=by simp[hj]
 rw[hg] at this; unfold yQ; rw[Bool.and_eq_true]; exact⟨decide_eq_true this.2.1.1,decide_eq_true this.2.2.1⟩
def aft (a:az) (p:aG):Option (List aj×List ak) :=
 if ni eB (bZ a) p.ax=true/\ni rB (fu a) p.aD=true then
  if (gl (less eB (bZ a) p.ax) p.values).2=true then
   if gr (gl (less eB (bZ a) p.ax) p.values).1 (less rB (fu a) p.aD) p=true then none
   else some (kR ((gl (less eB (bZ a) p.ax) p.values).1++p.aQ),nW (less rB (fu a) p.aD++p.aM))
  else none
 else none
def wI (t:Types) (a:az) (p:aG):az×Int :=
 if qU p≠0 then (jy,qU p) else if p.next.x0≠a.next then (jy,11) else match aft a p with
 | none=>(jy,11)
 | some s=>if kK t (gD s.1 s.2 p.next.x1)≠0 then (jy,1) else (gD s.1 s.2 p.next.x1,0)
def mU (t:Types) (a:az) (p:aG):az×Int:=if kK t a≠0 then (jy,kK t a) else wI t a p
section
variable {t:Types} {a:az} {p:aG}
theorem o9 (ha:jo t a) (hb:tU a.host):Rows (bZ a):=λn hn=>by
 obtain⟨i,hi,rfl⟩:=List.mem_map.1 hn; have hi:i<a.nodes.length:=by simpa using hi
 refine hb.row _ ?_; have:i<a.host.values.length:=by rw[ha.host.aol,<-ha.vH]; exact hi
 simp[bI,this]
theorem afu {α:Type} {q:α->α->Bool} {l r:List α} : (less q l r).length<=l.length:=List.length_filter_le _ _
theorem ady:∀ (r:List aO) (l:List aj),Rows l->Rows (gl l r).1
 | [],l,h=>h
 | v :: r,l,h=>by
  rw[gl]; split
  ·exact ady r _ (ac5 h v)
  ·exact ac5 h v
theorem asU {N:List aj} {E:List ak} {next:Int} (h1:N.length<=1000) (h2:E.length<=1000) (h3:Rows N):jJ (gD N E next) :=
 ⟨⟨⟨by simpa[gD] using h1,by simpa[gD] using h2⟩,by simpa[gD] using h1,λl hl=>by
  obtain⟨n,hn,rfl⟩:=List.mem_map.1 hl; exact h3 n hn⟩,by simp[gD]; omega,by simp[gD]; omega⟩
structure Mid (a:az) (p:aG):Prop where
 n:(gl (less eB (bZ a) p.ax) p.values).1.length<=40
 e:(less rB (fu a) p.aD).length<=80
 rows:Rows (gl (less eB (bZ a) p.ax) p.values).1
 agc:iK aj.id (gl (less eB (bZ a) p.ax) p.values).1
 ald:iK ak.id (less rB (fu a) p.aD)
theorem aom (ha:jo t a) (hb:tU a.host):Mid a p:=by have h1:=ha.n40; have h2:=ha.e80; have l1:=afu (q:=eB) (l:=bZ a) (r:=p.ax); have l2:=afu (q:=rB) (l:=fu a) (r:=p.aD); rw[kL] at l1; rw[jZ] at l2; exact⟨by rw[(yO _ _).len]; omega,by omega,ady _ _ λn hn=>o9 ha hb n (List.mem_filter.1 hn).1,aaV _ _ (yN ha.agc),yN ha.ald⟩
theorem Small.add (hs:Small p) (hm:Mid a p) (hp:gm p) (next:Int):jJ (gD (kR ((gl (less eB (bZ a) p.ax) p.values).1++p.aQ)) (nW (less rB (fu a) p.aD++p.aM)) next):=by
 have h1:=hm.n; have h2:=hm.e; have h3:=hs.an; have h4:=hs.ae; refine asU (by rw[asO,List.length_append]; omega) (by rw[asP,List.length_append]; omega) λn hn=>?_
 rcases List.mem_append.1 (sS.1 hn) with h | h
 ·exact hm.rows n h
 ·exact hp.av n h
theorem ale (ho:Ordered p):p.ax.Pairwise λa b=>a.id≠b.id:=List.Pairwise.imp (λh=>by omega) ho.rn
theorem alf (ho:Ordered p):p.aD.Pairwise λa b=>a.id≠b.id:=List.Pairwise.imp (λh=>by omega) ho.re
theorem asV (ht:ga t) (ha:jo t a) (hb:tU a.host) (hp:gm p):eX t a p=some (wI t a p):=by
 have h1:=ha.n40; have h2:=ha.e80; unfold eX wI; rw[aT (l_ordered hp),aW]; by_cases hsh:qU p=0; rotate_left
 ·rw[if_neg hsh,if_pos hsh]; rfl
 obtain⟨hs,ho⟩:=sH.1 hsh; rw[if_pos hsh,if_neg (λh=>h hsh),aW]; by_cases hx:p.next.x0=a.next
 rotate_left
 ·rw[if_neg hx,if_pos hx]; rfl
 rw[if_pos hx,if_neg (λh=>h hx),aT (show fC ⟨a.host,a.nodes,a.au,a.next⟩=_ from axd ha λl hl=>by have:=hb.row l hl; omega)]; rw[aT (aAZ ⟨bZ a,fu a⟩ p (by rw[kL]; omega) (by rw[jZ]; omega) (o9 ha hb) hp)]; obtain⟨c1,c2⟩:=yM (q:=eB) (λ_ _=>sR) p.ax (bZ a) ha.agc (ale ho); obtain⟨d1,d2⟩:=yM (q:=rB) (λ_ _=>ape) p.aD (fu a) ha.ald (alf ho); unfold axi aft; simp only[c1,d1] at c2 d2 ⊢; by_cases g1:ni rB (fu a) p.aD=true; rotate_left
 ·rw[if_neg g1,cond_false,if_neg λh=>g1 h.2]; rfl
 by_cases g2:ni eB (bZ a) p.ax=true; rotate_left
 ·rw[if_pos g1,if_neg g2,cond_false,if_neg λh=>g2 h.1]; rfl
 rw[if_pos g1,if_pos g2,if_pos ⟨g2,g1⟩,c2 g2,d2 g1]; have hm:=aom (p:=p) ha hb; have m1:=hm.n; have m2:=hm.e; by_cases g3:(gl (less eB (bZ a) p.ax) p.values).2=true; rotate_left
 ·rw[if_neg g3]; simp only[Bool.not_eq_true] at g3; simp only[g3,cond_false]; try rfl
 rw[if_pos g3]; simp only[g3,cond_true]; rw[aT (aA0 _ p (by simp only; omega) (by simp only; omega) hm.agc hm.ald hp ho)]; unfold axj; simp only; by_cases g4:gr (gl (less eB (bZ a) p.ax) p.values).1 (less rB (fu a) p.aD) p=true
 ·rw[if_pos g4,if_pos g4]; rfl
 rw[if_neg g4,if_neg g4]; simp only[cond_true]; have hbt:=hs.add hm hp p.next.x1
 have e1:=hbt.nodes; have e2:=hbt.au; have e3:=hbt.host.row; rw[aT (adW _ _ (by simpa[gD] using e1) (by simpa[gD] using e2) λn hn=>e3 _ (List.mem_map_of_mem hn))]; rw[aT (show cg ⟨t.nodes,t.au⟩ _=_ from nQ ht hbt),aW]; by_cases g5:kK t (gD (kR ((gl (less eB (bZ a) p.ax) p.values).1++p.aQ)) (nW (less rB (fu a) p.aD++p.aM)) p.next.x1)=0
 ·rw[if_pos g5,if_neg (λh=>h g5)]
 ·rw[if_neg g5,if_pos g5]; rfl
theorem tN (ht:ga t) (hb:jJ a) (hp:gm p):bE t a p=some (mU t a p):=by
 unfold bE mU; rw[aT (show cg ⟨t.nodes,t.au⟩ ⟨a.host,a.nodes,a.au,a.next⟩=_ from nQ ht hb),aW]; by_cases h:kK t a=0
 ·rw[if_pos h,if_neg (λh2=>h2 h),aT (show eX ⟨t.nodes,t.au⟩ ⟨a.host,a.nodes,a.au,a.next⟩ p=_ from asV ht (ef.1 h) hb.host hp)]
 ·rw[if_neg h,if_pos h]; rfl
theorem axk (ht:ga t) (ha:jo t a) (hb:tU a.host) (hp:gm p):jR t a p=some (wI t a p):=by
 have h1:=ha.n40; have h2:=ha.e80; unfold jR wI; rw[aT (axh hp),ir,aW]; by_cases hsh:qU p=0; rotate_left
 ·rw[if_neg hsh,if_pos hsh]
 obtain⟨hs,ho⟩:=sH.1 hsh; have s1:=hs.rn; have s2:=hs.re; have s3:=hs.an; have s4:=hs.ae; have s5:=hs.va; rw[if_pos hsh,if_neg (λh=>h hsh)]; rw[aT (ql ⟨by rw[ha.vH]; exact Nat.le_refl _,by rw[ha.host.aol,ha.vH]; exact Nat.le_refl _,by omega,λl hl=>by have:=hb.row l hl; omega,by omega,by omega,by omega,by omega,by omega,λn hn=>by have:=hp.rv n hn; omega⟩)]; rw[aT (rX ha),aT (ql (by rw[jZ]; omega)),ir,aW]; by_cases hx:p.next.x0=a.next
 rotate_left
 ·rw[if_neg hx,if_pos hx]
 rw[if_pos hx,if_neg (λh=>h hx)]; obtain⟨c1,c2⟩:=aff (q:=eB) (λ_ _=>sR) p.ax (bZ a) 0 ha.agc (ale ho); obtain⟨d1,d2⟩:=aff (q:=rB) (λ_ _=>ape) p.aD (fu a) 0 ha.ald (alf ho); rw[afg,afh,c1,d1,ir]; unfold aft; by_cases g1:ni eB (bZ a) p.ax=true/\ni rB (fu a) p.aD=true; rotate_left
 ·rw[if_neg g1]; have:(ni eB (bZ a) p.ax&&ni rB (fu a) p.aD)=false:=by rw[Bool.eq_false_iff]; intro h; exact g1 (by rw[Bool.and_eq_true] at h; exact h)
  rw[this,cond_false]
 rw[if_pos g1,g1.1,g1.2,Bool.and_true,cond_true,c2 (c1.trans g1.1),d2 (d1.trans g1.2)]; have hm:=aom (p:=p) ha hb; have m1:=hm.n; have m2:=hm.e; have l1:=afu (q:=eB) (l:=bZ a) (r:=p.ax); rw[kL] at l1; rw[aT (ql ⟨by omega,by omega⟩)]; obtain⟨v1,v2⟩:=afj p.values (less eB (bZ a) p.ax) (yN ha.agc); rw[v1,ir]; by_cases g3:(gl (less eB (bZ a) p.ax) p.values).2=true; rotate_left
 ·rw[if_neg g3]; simp only[Bool.not_eq_true] at g3; rw[g3,cond_false]
 rw[if_pos g3,g3,cond_true,v2 (v1.trans g3)]; rw[aT (ql ⟨by omega,λhf=>⟨alc (lQ hm.agc ho.an λa ha b hb=>((aaW hf).1 b hb).1 a ha),alc (lQ hm.ald ho.ae λa ha b hb=>((aaW hf).2 b hb).2 a ha)⟩⟩)]; by_cases g4:gr (gl (less eB (bZ a) p.ax) p.values).1 (less rB (fu a) p.aD) p=true
 ·rw[if_pos g4,g4,cond_true]
 rw[if_neg g4]; simp only[Bool.not_eq_true] at g4; rw[g4,cond_false]; have hbt:=hs.add hm hp p.next.x1
 have e1:=hbt.nodes; have e2:=hbt.au; have e3:=hbt.host.row; rw[aT (ab8 _ _ _ (by simpa[gD] using e1) (by simpa[gD] using e2) λn hn=>e3 _ (List.mem_map_of_mem hn)),ir]; simp only; by_cases g5:kK t (gD (kR ((gl (less eB (bZ a) p.ax) p.values).1++p.aQ)) (nW (less rB (fu a) p.aD++p.aM)) p.next.x1)=0
 ·rw[if_pos (afs (ef.1 g5)),if_neg (λh=>h g5),cond_true,aT (mK ht hbt),ir,aW,if_pos g5]
 ·rw[if_pos (c:=_≠_) g5]; split
  ·rw[cond_true,aT (mK ht hbt),ir,aW,if_neg g5]
  ·rw[cond_false]
theorem ab9 (ht:ga t) (hb:jJ a) (hp:gm p):eD t a p=some (mU t a p):=by
 unfold eD mU; rw[aT (show fh ⟨t.nodes,t.au⟩ ⟨a.host,a.nodes,a.au,a.next⟩=_ from mK ht hb),aW]; by_cases h:kK t a=0
 ·rw[if_pos h,if_neg (λh2=>h2 h),aT (show jR ⟨t.nodes,t.au⟩ ⟨a.host,a.nodes,a.au,a.next⟩ p=_ from axk ht (ef.1 h) hb.host hp)]
 ·rw[if_neg h,if_pos h]; rfl
end
end Go.Proofs.YtllicmcihlfajaaGreat
namespace Go.Proofs.YtllicmcihlfajaaGreat
open Go.cE
def mo (a:az) (p:aG):List aj:=(gl (less eB (bZ a) p.ax) p.values).1
def pE (a:az) (p:aG):List ak:=less rB (fu a) p.aD
def bU (a:az) (p:aG):az:=gD (kR (mo a p++p.aQ)) (nW (pE a p++p.aM)) p.next.x1
structure cQ (t:Types) (a:az) (p:aG):Prop where
 tk:jo t a
 small:Small p
 ord:Ordered p
 next:p.next.x0=a.next
 rn:ni eB (bZ a) p.ax=true
 re:ni rB (fu a) p.aD=true
 va:(gl (less eB (bZ a) p.ax) p.values).2=true
 free:gr (mo a p) (pE a p) p=false
 ok:jo t (bU a p)
theorem nR {t:Types} {a:az} {p:aG} (h:cQ t a p):mU t a p=(bU a p,0):=by unfold mU wI aft; rw[if_neg (λh2=>h2 (ef.2 h.tk)),if_neg (λh2=>h2 (sH.2 ⟨h.small,h.ord⟩)),if_neg (λh2=>h2 h.next),if_pos ⟨h.rn,h.re⟩,if_pos h.va,if_neg (λh2=>by have h3:=h.free; unfold mo pE at h3; rw[h3] at h2; cases h2)]; exact if_neg (λh2=>h2 (ef.2 h.ok))
theorem mQ {t:Types} {a:az} {p:aG} : (mU t a p).2=0↔cQ t a p:=by
 constructor
 ·intro h; unfold mU at h; split at h
  ·rename_i h1; exact absurd h h1
  rename_i h1; unfold wI at h; split at h
  ·rename_i h2; exact absurd h h2
  rename_i h2; split at h
  ·cases h
  rename_i h3; obtain⟨s1,s2⟩:=sH.1 (Decidable.of_not_not h2); split at h
  ·cases h
  rename_i s hs; split at h
  ·cases h
  rename_i h4; unfold aft at hs; split at hs; rotate_left
  ·cases hs
  rename_i h5; split at hs; rotate_left
  ·cases hs
  rename_i h6; split at hs
  ·cases hs
  rename_i h7; cases hs; exact⟨ef.1 (Decidable.of_not_not h1),s1,s2,Decidable.of_not_not h3,h5.1,h5.2,h6,Bool.eq_false_iff.2 h7,ef.1 (Decidable.of_not_not h4)⟩
 ·intro h; rw[nR h]
theorem asW {α:Type} {q:α->α->Bool} (hq:∀a b,q a b=true↔a=b) {l r:List α} (h:ni q l r=true):∀x∈r,x∈l:=λx hx=>by obtain⟨m,hm,e⟩:=List.any_eq_true.1 (List.all_eq_true.1 h x hx); rw[<- (hq _ _).1 e]; exact hm
theorem api:∀ (r:List aO) (l:List aj),(gl l r).2=true->∀v∈r,∃n∈l,n.id=v.id/\0<=v.attr/\v.attr<n.values.length
 | [],l,_,v,hv=>by cases hv
 | w :: r,l,h,v,hv=>by
  rw[gl] at h; split at h; rotate_left
  ·cases h
  rename_i ha; rcases List.mem_cons.1 hv with e | hv
  ·subst e; obtain⟨n,hn,hf⟩:=List.any_eq_true.1 ha; unfold lR okV at hf; simp only[Bool.and_eq_true,Bool.not_eq_true',decide_eq_true_eq,decide_eq_false_iff_not] at hf; exact⟨n,hn,hf.1,by omega,by omega⟩
  ·obtain⟨n,hn,h1,h2,h3⟩:=api r _ h v hv; obtain⟨m,hm,rfl⟩:=List.mem_map.1 hn; rw[ad6] at h1; rw[afi] at h3; exact⟨m,hm,h1,h2,h3⟩
section
variable {t:Types} {a:az} {p q:aG}
theorem cQ.apj (h:cQ t a p) {n:aj} (hn:n∈p.ax):n∈bZ a:=asW (q:=eB) (λ_ _=>sR) h.rn n hn
theorem aon {n:aj} (hn:n∈bZ a):n.id∈a.nodes:=by rw[<-aaX]; exact List.mem_map_of_mem hn
theorem azs {n:ak} (hn:n∈fu a):n.id∈a.au:=by rw[<-aaY]; exact List.mem_map_of_mem hn
theorem cQ.value (h:cQ t a p) {v:aO} (hv:v∈p.values):∃n∈bZ a,n.id=v.id/\0<=v.attr/\v.attr<n.values.length/\n ∉ p.ax:=by obtain⟨n,hn,h1,h2,h3⟩:=api p.values _ h.va v hv; obtain⟨hn1,hn2⟩:=List.mem_filter.1 hn; refine⟨n,hn1,h1,h2,h3,λhm=>?_⟩; have:(p.ax.any λm=>eB n m)=true:=List.any_eq_true.2 ⟨n,hm,sR.2 rfl⟩; rw[this] at hn2; cases hn2
theorem cQ.n1 (h:cQ t a p):0<=p.next.x1/\p.next.x1<=1000000:=h.ok.next
theorem cQ.n0 (h:cQ t a p):0<=p.next.x0/\p.next.x0<=1000000:=by rw[h.next]; exact h.tk.next
theorem cQ.ids (h:cQ t a p):(∀n∈p.aQ,0<=n.id/\n.id<p.next.x1)/\∀e∈p.aM,0<=e.id/\e.id<p.next.x1:=⟨λn hn=>h.ok.nid.1 _ (List.mem_map_of_mem (sS.2 (List.mem_append_right _ hn))),λn hn=>h.ok.eid.1 _ (List.mem_map_of_mem (vG.2 (List.mem_append_right _ hn)))⟩
end
def rY (p:aG):Bool:=decide (p.next.x0<=p.next.x1)&&(!(p.aQ.any λn=>decide (n.id<p.next.x0)) && !(p.aM.any λn=>decide (n.id<p.next.x0)))
theorem apk {p:aG} (hp:gm p):mP p=some (rY p):=by
 unfold mP rY; rw[aW]; by_cases h:p.next.x0<=p.next.x1
 ·rw[if_pos h,aT (kV (p:=λx=>mB x p) (λn=>decide (n.id<p.next.x0)) hp.an λn _=>rfl),decide_eq_true h,Bool.true_and]; cases p.aQ.any λn=>decide (n.id<p.next.x0) with
  | true=>rfl
  | false=>rw[cond_false,aT (qc (p:=λx=>mC x p) (λn=>decide (n.id<p.next.x0)) hp.ae λn _=>rfl)]; rfl
 ·rw[if_neg h,decide_eq_false h]; rfl
theorem alg {p:aG} (hp:gm p):fP p=some (rY p):=by
 have h1:=hp.an; have h2:=hp.ae; unfold fP rY; rw[br (bk (by omega)),nP p.aQ (λn=>!decide (n.id<p.next.x0)) (λ_=>some false) (λi hi cv=>by rw[bL hi,ir]),oG,List.all_eq_not_any_not]; simp only[Bool.not_not]; cases p.aQ.any λn=>decide (n.id<p.next.x0) with
 | true=>simp
 | false=>simp only[Bool.not_false,if_true,Bool.true_and]; rw[br (bk (by omega)),nP p.aM (λn=>!decide (n.id<p.next.x0)) (λ_=>some false) (λi hi cv=>by rw[bL hi,ir]),oG,List.all_eq_not_any_not]; simp only[Bool.not_not]; cases p.aM.any λn=>decide (n.id<p.next.x0)<;>simp
structure ahb (p:aG):Prop where
 next:p.next.x0<=p.next.x1
 n:∀n∈p.aQ,p.next.x0<=n.id
 e:∀n∈p.aM,p.next.x0<=n.id
theorem wJ {p:aG} : rY p=true↔ahb p:=by unfold rY; simp only[Bool.and_eq_true,Bool.not_eq_true',List.any_eq_false,decide_eq_true_eq,Int.not_lt]; exact⟨λh=>⟨h.1,h.2.1,h.2.2⟩,λh=>⟨h.next,h.n,h.e⟩⟩
def kM (t:Types) (a:az) (p q:aG):Int :=
 if (mU t a p).2≠0 then (mU t a p).2 else if (mU t a q).2≠0 then (mU t a q).2
 else if rY p=true then if rY q=true then if 1000000<p.next.x1+q.next.x1 - q.next.x0 then 6 else 0 else 8 else 8
theorem afv {σ O:Type} {f:Nat->σ->(σ->Option O)->(σ->Option O)->Option O} {K:σ->Option O} {s:σ} : bP f (2 - 0) 0 s K=f 0 s (λs'=>f 1 s' K K) K:=rfl
section
variable {t:Types} {a:az} {p q:aG}
theorem az0 {p q:aG} (h1:cQ t a p) (h2:cQ t a q):IntKind.i64.wrap (IntKind.i64.wrap (p.next.x1+q.next.x1) - q.next.x0)=p.next.x1+q.next.x1 - q.next.x0:=by have a1:=h1.n1; have a2:=h2.n1; have a3:=h2.n0; rw[gT (n:=p.next.x1+q.next.x1) (by omega),gT (by omega)]
theorem aiM (ht:ga t) (hb:jJ a) (hp:gm p) (hq:gm q):dm t a p q=some (kM t a p q):=by
 unfold dm kM; rw[aT (show bE ⟨t.nodes,t.au⟩ ⟨a.host,a.nodes,a.au,a.next⟩ p=_ from tN ht hb hp),aW]; by_cases h1:(mU t a p).2=0; rotate_left
 ·rw[if_neg h1,if_pos h1]
 rw[if_pos h1,if_neg (λh=>h h1),aT (show bE ⟨t.nodes,t.au⟩ ⟨a.host,a.nodes,a.au,a.next⟩ q=_ from tN ht hb hq),aW]; by_cases h2:(mU t a q).2=0; rotate_left
 ·rw[if_neg h2,if_pos h2]
 rw[if_pos h2,if_neg (λh=>h h2),aT (alg hp),aT (alg hq),az0 (mQ.1 h1) (mQ.1 h2),aW]; cases rY p with
 | false=>simp
 | true =>
  cases rY q with
  | false=>simp
  | true=>simp only[cond_true,if_true]; split<;>rfl
theorem vb (ht:ga t) (hb:jJ a) (hp:gm p) (hq:gm q):jg t a p q=some (kM t a p q):=by
 unfold jg kM; rw[mH,br (bk (by omega)),afv]; rw[show ([p,q][0]?)=some p from rfl,mH]; rw[aT (show eD ⟨t.nodes,t.au⟩ ⟨a.host,a.nodes,a.au,a.next⟩ p=_ from ab9 ht hb hp),aW]; by_cases h1:(mU t a p).2=0; rotate_left
 ·rw[if_neg h1,if_pos h1]
 rw[if_pos h1,if_neg (λh=>h h1),show ([p,q][1]?)=some q from rfl,mH]; rw[aT (show eD ⟨t.nodes,t.au⟩ ⟨a.host,a.nodes,a.au,a.next⟩ q=_ from ab9 ht hb hq),aW]; by_cases h2:(mU t a q).2=0; rotate_left
 ·rw[if_neg h2,if_pos h2]
 rw[if_pos h2,if_neg (λh=>h h2),aT (apk hp),aT (apk hq),az0 (mQ.1 h1) (mQ.1 h2),aW]; cases rY p with
 | false=>simp
 | true =>
  cases rY q with
  | false=>simp
  | true=>simp only[cond_true,if_true]; split<;>rfl
structure wK (t:Types) (a:az) (p q:aG):Prop where
 ap:cQ t a p
 aq:cQ t a q
 gp:ahb p
 gq:ahb q
 next:p.next.x1+q.next.x1 - q.next.x0<=1000000
theorem jq:kM t a p q=0↔wK t a p q:=by
 unfold kM; constructor
 ·intro h; split at h
  ·rename_i h1; exact absurd h h1
  rename_i h1; split at h
  ·rename_i h2; exact absurd h h2
  rename_i h2; split at h; rotate_left
  ·cases h
  rename_i h3; split at h; rotate_left
  ·cases h
  rename_i h4; split at h
  ·cases h
  exact⟨mQ.1 (Decidable.of_not_not h1),mQ.1 (Decidable.of_not_not h2),wJ.1 h3,wJ.1 h4,by omega⟩
 ·intro h; rw[if_neg (λh2=>h2 (mQ.2 h.ap)),if_neg (λh2=>h2 (mQ.2 h.aq)),if_pos (wJ.2 h.gp),if_pos (wJ.2 h.gq),if_neg (by have:=h.next; omega)]
end
end Go.Proofs.YtllicmcihlfajaaGreat
namespace Go.Proofs.YtllicmcihlfajaaGreat
open Go.cE
def ltC (a b:aI):Prop:=a.id<b.id\/a.id=b.id/\a.attr<b.attr
theorem azt (a:aI):¬ ltC a a:=by unfold ltC; omega
theorem axl (a b c:aI) (h1:ltC a b) (h2:ltC b c):ltC a c:=by unfold ltC at *; omega
theorem ahc {K:Int} {l:List aI} (hk:∀x∈l,x.kind=K) (hs:l.Pairwise λa b=>leC a b=true):∀j,j<=l.length->(kept l j).Pairwise ltC/\(∀x,x∈kept l j↔x∈l.take j)/\∀x∈kept l j,∀i,(hi:i<l.length)->j<=i+1->x=l[i]\/ltC x l[i]
 | 0,_=>⟨List.Pairwise.nil,λx=>by simp[kept],λx hx=>by cases hx⟩
 | j+1,hj=>by
  obtain⟨h1,h2,h3⟩:=ahc hk hs j (by omega); have hg:l.getD j default=l[j]:=by simp[show j<l.length by omega]
  have le_or:∀x∈l,∀i,(hi:i<l.length)->leC x l[i]=true->x=l[i]\/ltC x l[i]:=λx hx i hi h=>by
   have k1:=hk x hx; have k2:=hk _ (List.getElem_mem hi); unfold leC at h; have h:=of_decide_eq_true h; by_cases he:x.id=l[i].id/\x.attr=l[i].attr
   ·left; generalize l[i]=y at *; cases x; cases y; simp only[aI.mk.injEq] at *; exact⟨by omega,he.1,he.2⟩
   ·right; unfold ltC; omega
  have up:∀i,(hi:i<l.length)->j<=i->l[j]=l[i]\/ltC l[j] l[i]:=λi hi hji=>by
   rcases Nat.lt_or_eq_of_le hji with h | h
   ·exact le_or _ (List.getElem_mem _) i hi (List.pairwise_iff_getElem.1 hs j i (by omega) hi h)
   ·subst h; exact .inl rfl
  have trans:∀x,(x=l[j]\/ltC x l[j])->∀i,(hi:i<l.length)->j<=i->x=l[i]\/ltC x l[i]:=λx hx i hi hji=>by
   rcases hx with rfl | hx
   ·exact up i hi hji
   ·rcases up i hi hji with h | h
    ·rw[<-h]; exact .inr hx
    ·exact .inr (axl _ _ _ hx h)
  rw[kept,hg]; have kN:l.take (j+1)=l.take j++[l[j]]:=by rw[List.take_add_one,List.getElem?_eq_getElem (by omega),Option.toList_some]
  by_cases hf:fresh l j=true
  ·rw[if_pos hf]; have hlt:∀x∈kept l j,ltC x l[j]:=λx hx=>by
    rcases h3 x hx j (by omega) (by omega) with h | h
    ·-- x is the element at j: then so is the one ahead of it
     exfalso; unfold fresh at hf; rcases Nat.eq_zero_or_pos j with h0 | h0
     ·subst h0; simp[kept] at hx
     ·rw[decide_eq_false (by omega),Bool.false_or,hg] at hf; have hg2:l.getD (j - 1) default=l[j - 1]:=by simp[show j - 1<l.length by omega]
      rw[hg2] at hf; have hne:l[j]≠l[j - 1]:=λe=>by rw[(awH _ _).2 e] at hf; cases hf
      rcases h3 x hx (j - 1) (by omega) (by omega) with h4 | h4
      ·exact hne (by rw[<-h,<-h4])
      ·rw[h] at h4; have h5:=List.pairwise_iff_getElem.1 hs (j - 1) j (by omega) (by omega) (by omega); unfold leC at h5; have h5:=of_decide_eq_true h5; unfold ltC at h4; omega
    ·exact h
   refine⟨List.pairwise_append.2 ⟨h1,List.pairwise_singleton _ _,λx hx y hy=>?_⟩,λx=>?_,λx hx i hi hji=>?_⟩
   ·rw[List.mem_singleton.1 hy]; exact hlt x hx
   ·rw[kN,List.mem_append,List.mem_append,h2]
   ·rcases List.mem_append.1 hx with hx | hx
    ·exact trans x (.inr (hlt x hx)) i hi (by omega)
    ·exact trans x (.inl (List.mem_singleton.1 hx)) i hi (by omega)
  ·rw[if_neg hf]; unfold fresh at hf; have h0:0<j:=by
    rcases Nat.eq_zero_or_pos j with h0 | h0
    ·subst h0; simp at hf
    ·exact h0
   rw[decide_eq_false (by omega),Bool.false_or,hg] at hf; have hg2:l.getD (j - 1) default=l[j - 1]:=by simp[show j - 1<l.length by omega]
   rw[hg2] at hf; have he:l[j]=l[j - 1]:=(awH _ _).1 (by simpa using hf); refine⟨h1,λx=>?_,λx hx i hi hji=>trans x (h3 x hx j (by omega) (by omega)) i hi (by omega)⟩; rw[h2,kN,List.mem_append,List.mem_singleton]; constructor
   ·exact .inl
   ·rintro (h | h)
    ·exact h
    ·rw[h,he]; have:l[j - 1]=(l.take j)[j - 1]'(by simp; omega):=by simp
     rw[this]; exact List.getElem_mem _
theorem aaj {K:Int} {l:List aI} (hk:∀x∈l,x.kind=K):(gn l).Pairwise ltC/\∀x,x∈gn l↔x∈l:=by
 unfold gn; have hp:=List.mergeSort_perm l leC; have hs:(l.mergeSort leC).Pairwise λa b=>leC a b=true:=List.pairwise_mergeSort (λa b c h1 h2=>by unfold leC at *; simp at *; omega) (λa b=>by unfold leC; simp; omega) l
 obtain⟨h1,h2,_⟩:=ahc (l:=l.mergeSort leC) (λx hx=>hk x (hp.mem_iff.1 hx)) hs l.length (by rw[List.length_mergeSort]; exact Nat.le_refl _); refine⟨h1,λx=>?_⟩; rw[h2,List.take_of_length_le (by rw[List.length_mergeSort]; exact Nat.le_refl _)]; exact hp.mem_iff
theorem wL {K:Int} {l m:List aI} (hk:∀x∈l,x.kind=K) (hm:m.Pairwise ltC) (h:∀x,x∈l↔x∈m):gn l=m:=by obtain⟨h1,h2⟩:=aaj hk; exact aiJ azt axl h1 hm λx=>(h2 x).trans (h x)
def dy (p:aG) (id:Int):Bool:=p.ax.any λn=>decide (n.id=id)
def xA (p:aG) (id:Int):Bool:=p.aM.any λe=>decide (e.src=id)||decide (e.dst=id)
def oT (p:aG) (id attr:Int):Option aO:=p.values.find? λv=>decide (v.id=id)&&decide (v.attr=attr)
def apl (p:aG) (id:Int):Bool:=p.aD.any λn=>decide (n.id=id)
section
variable {p q:aG}
theorem ze (hp:p.ax.length<=1000000) (id:Int):iN p id=some (dy p id):=by unfold iN; rw[aT (kV (p:=λx=>kE x id) (λn=>decide (n.id=id)) hp λn _=>rfl)]; rfl
theorem acd {α:Type} {l:List α} {b:α->Bool} {f:Nat->Unit->(Unit->Option Bool)->(Unit->Option Bool)->Option Bool} {K:Unit->Option Bool} (h:∀i (hi:i<l.length) cv,f i () cv K=cond (b l[i]) (some true) (cv ())) (hK:K ()=some false):bP f (l.length - 0) 0 () K=some (l.any b):=by rw[nP l (λa=>!b a) (λ_=>some true) (λi hi cv=>by rw[h i hi cv,ir]),oG,List.all_eq_not_any_not,hK]; simp only[Bool.not_not]; cases l.any b<;>simp
theorem tO (hp:p.ax.length<=1000000) (id:Int):bA p id=some (dy p id):=by unfold bA; rw[br (bk (by omega))]; exact acd (λi hi cv=>by rw[bL hi]) rfl
theorem aA1 (hp:p.aD.length<=1000000) (id:Int):iD p id=some (apl p id):=by unfold iD; rw[br (bk (by omega))]; exact acd (λi hi cv=>by rw[bL hi]) rfl
theorem axm (hp:p.aM.length<=1000000) (id:Int):fc p id=some (xA p id):=by unfold fc; rw[br (bk (by omega))]; refine acd (λi hi cv=>?_) rfl; rw[bL hi]; cases decide (p.aM[i].src=id)<;>rfl
theorem ad7 (hp:p.values.length<=1000000) (id attr:Int):bX p id attr=some (match oT p id attr with | some v=>(v,true) | none=>(⟨0,0,0,0⟩,false)):=by
 unfold bX oT; rw[br (bk (by omega)),nP p.values (λv=>!(decide (v.id=id)&&decide (v.attr=attr))) (λv=>some (v,true)) (λi hi cv=>by
  rw[bL hi,ir]; cases decide (p.values[i].id=id)<;>rfl)]
 simp only[Bool.not_not]; unfold yL; cases p.values.find? λv=>decide (v.id=id)&&decide (v.attr=attr)<;>rfl
theorem adz {id attr:Int} {v:aO} (h:oT p id attr=some v):v∈p.values/\v.id=id/\v.attr=attr:=by have h1:=List.mem_of_find?_eq_some h; have h2:=List.find?_some h; simp only[Bool.and_eq_true,decide_eq_true_eq] at h2; exact⟨h1,h2⟩
theorem mR {id attr:Int} : (oT p id attr).isSome=true↔∃v∈p.values,v.id=id/\v.attr=attr:=by unfold oT; rw[List.find?_isSome]; simp only[Bool.and_eq_true,decide_eq_true_eq]
theorem azu {l:List aO} (h:l.Pairwise ltV) {v w:aO} (hv:v∈l) (hw:w∈l) (h1:v.id=w.id) (h2:v.attr=w.attr):v=w:=by
 induction l with
 | nil=>cases hv
 | cons c r ih =>
  rw[List.pairwise_cons] at h; rcases List.mem_cons.1 hv with e1 | e1<;>rcases List.mem_cons.1 hw with e2 | e2
  ·rw[e1,e2]
  ·have:=h.1 w e2; unfold ltV at this; rw[e1] at h1 h2; omega
  ·have:=h.1 v e1; unfold ltV at this; rw[e2] at h1 h2; omega
  ·exact ih h.2 e1 e2
theorem asX (ho:p.values.Pairwise ltV) {v:aO} (hv:v∈p.values):oT p v.id v.attr=some v:=by
 cases h:oT p v.id v.attr with
 | none =>
  have:=mR (p:=p) (id:=v.id) (attr:=v.attr) |>.2 ⟨v,hv,rfl,rfl⟩
  rw[h] at this; cases this
 | some w=>obtain⟨h1,h2,h3⟩:=adz h; rw[azu ho h1 hv h2 h3]
end
def aoo (x:aG) (e:ak):List aI:=([e.src,e.dst].filter (dy x)).map λid=>⟨1,id,-1⟩
def vc (x y:aG):List aI:=y.aM.flatMap (aoo x)
def ve (x y:aG):List aI:=(y.values.filter λv=>dy x v.id).map λv=>⟨2,v.id,v.attr⟩
def aop (q:aG) (v:aO):List aI:=(q.values.filter λw=>decide (v.id=w.id)&&(decide (v.attr=w.attr) && !decide (v.new=w.new))).map λ_=>⟨3,v.id,v.attr⟩
def afw (p q:aG):List aI:=p.values.flatMap (aop q)
def ahd (p q:aG):List aI:=gn (vc p q++vc q p)++gn (ve p q++ve q p)++gn (afw p q)
theorem sU {α β:Type} (g:α->List β):∀ (l:List α) (s:List β),l.foldl (λs a=>s++g a) s=s++l.flatMap g
 | [],s=>by simp
 | a :: l,s=>by rw[List.foldl_cons,sU g l]; simp
theorem ace {α β:Type} (g:α->List β) (l:List α) (s:List β) (k:Nat) (h:∀a∈l,(g a).length<=k):(l.foldl (λs a=>s++g a) s).length<=s.length+k * l.length:=by
 induction l generalizing s with
 | nil=>simp
 | cons a l ih =>
  rw[List.foldl_cons]; have h1:=ih (s++g a) λb hb=>h b (List.mem_cons_of_mem _ hb)
  have h2:=h a (List.mem_cons_self ..); rw[List.length_append] at h1; rw[List.length_cons,Nat.mul_add]; omega
theorem jr {α β O:Type} {f:Nat->List β->(List β->Option O)->(List β->Option O)->Option O} {K:List β->Option O} {s:List β} (l:List α) (g:α->List β) (k:Nat) (hg:∀a∈l,(g a).length<=k)
  (h:∀i (hi:i<l.length) (s':List β),s'.length<=s.length+k * i->∀cv,f i s' cv K=cv (s'++g l[i])):bP f (l.length - 0) 0 s K=K (s++l.flatMap g):=by
 rw[(qN l (λs a=>s++g a) (λi s'=>s'.length<=s.length+k * i) (by simp) λi hi s' hs'=>⟨λcv=>h i hi s' hs' cv,by
  have:=hg _ (List.getElem_mem hi); rw[List.length_append,Nat.mul_add]; omega⟩).1,sU]
section
variable {p q:aG}
theorem alh (x:aG) (e:ak):(aoo x e).length<=2:=by unfold aoo; rw[List.length_map]; exact List.length_filter_le _ _
theorem ali (q:aG) (hq:Small q) (v:aO):(aop q v).length<=500:=by unfold aop; rw[List.length_map]; exact Nat.le_trans (List.length_filter_le _ _) hq.va
theorem acf (hq:Small q):(vc p q).length<=1000:=by
 have:=ace (aoo p) q.aM [] 2 λa _=>alh p a
 rw[sU] at this; have h2:=hq.ae; simp only[List.nil_append,List.length_nil] at this; unfold vc; omega
theorem acg (hq:Small q):(ve p q).length<=500:=by unfold ve; rw[List.length_map]; exact Nat.le_trans (List.length_filter_le _ _) hq.va
theorem alj (hp:Small p) (hq:Small q):(afw p q).length<=250000:=by
 have:=ace (aop q) p.values [] 500 λa _=>ali q hq a
 rw[sU] at this; have h2:=hp.va; simp only[List.nil_append,List.length_nil] at this; unfold afw; omega
end
end Go.Proofs.YtllicmcihlfajaaGreat
namespace Go.Proofs.YtllicmcihlfajaaGreat
open Go.cE
theorem ac6 {n:Int} (h:0<=n/\n<=1000000):lF ([]:List aI) n=some []:=ql ⟨rfl,by omega⟩
theorem asY (x y z:List aI) (h:x.length<=300000/\y.length<=300000/\z.length<=300000):gz [x,y,z]=some (x++y++z):=by unfold gz; rw[br (bk (by simp))]; show bP _ 3 0 0 _=_; simp only[bP,List.getElem?_cons_zero,List.getElem?_cons_succ,mH]; rw[gT (n:=0+((x.length:Nat):Int)) (by omega),decide_eq_false (by omega),cond_false]; rw[gT (n:=0+((x.length:Nat):Int)+((y.length:Nat):Int)) (by omega),decide_eq_false (by omega),cond_false]; rw[gT (n:=0+((x.length:Nat):Int)+((y.length:Nat):Int)+((z.length:Nat):Int)) (by omega),decide_eq_false (by omega),cond_false]; rw[aT (ac6 (by omega)),br (bk (by simp))]; show bP _ 3 0 [] _=_; simp only[bP,List.getElem?_cons_zero,List.getElem?_cons_succ,mH]; rw[br (by simp; omega),br (by simp; omega),br (by simp; omega)]; simp
theorem jD {β O:Type} {f:Nat->List β->(List β->Option O)->(List β->Option O)->Option O} {K:List β->Option O} {s:List β} (n:Nat) (g:Nat->List β) (k:Nat) (hg:∀i,i<n->(g i).length<=k)
  (h:∀i (hi:i<n) (s':List β),s'.length<=s.length+k * i->∀cv,f i s' cv K=cv (s'++g i)):bP f (n - 0) 0 s K=K (s++(List.range n).flatMap g):=by
 have:=jr (f:=f) (K:=K) (s:=s) (List.range n) g k (λi hi=>hg i (List.mem_range.1 hi)) λi hi s' hs' cv=>by rw[List.getElem_range]; exact h i (by simpa using hi) s' hs' cv
 rwa [List.length_range] at this
theorem afx {σ O:Type} {f:Nat->σ->(σ->Option O)->(σ->Option O)->Option O} {K:σ->Option O} {s r1 r2:σ} (h0:∀cv,f 0 s cv K=cv r1) (h1:∀cv,f 1 r1 cv K=cv r2):bP f (2 - 0) 0 s K=K r2:=by rw[afv,h0,h1]
section
variable {t:Types} {a:az} {p q:aG}
theorem jK {α β:Type} (b:α->Bool) (f:α->β) (l:List α):(l.flatMap λa=>if b a=true then [f a] else [])=(l.filter b).map f:=by
 induction l with
 | nil=>rfl
 | cons x l ih=>rw[List.flatMap_cons,ih,List.filter_cons]; split<;>simp
theorem wM {id:Int} : dy p id=true↔∃n∈p.ax,n.id=id:=by unfold dy; rw[List.any_eq_true]; simp only[decide_eq_true_eq]
theorem asZ {id:Int} : xA p id=true↔∃e∈p.aM,e.src=id\/e.dst=id:=by unfold xA; rw[List.any_eq_true]; simp only[Bool.or_eq_true,decide_eq_true_eq]
theorem rH {x:aI} : x∈vc p q↔∃id,dy p id=true/\xA q id=true/\x=⟨1,id,-1⟩:=by
 unfold vc aoo; simp only[List.mem_flatMap,List.mem_map,List.mem_filter,asZ]; constructor
 ·rintro⟨e,he,id,⟨h1,h2⟩,rfl⟩; refine⟨id,h2,⟨e,he,?_⟩,rfl⟩; simp at h1; rcases h1 with h1 | h1
  ·exact .inl h1.symm
  ·exact .inr h1.symm
 ·rintro⟨id,h1,⟨e,he,h2⟩,rfl⟩; refine⟨e,he,id,⟨?_,h1⟩,rfl⟩; rcases h2 with h2 | h2<;>simp[h2]
theorem rI {x:aI} : x∈ve p q↔∃v∈q.values,dy p v.id=true/\x=⟨2,v.id,v.attr⟩:=by
 unfold ve; simp only[List.mem_map,List.mem_filter]; constructor
 ·rintro⟨v,⟨h1,h2⟩,rfl⟩; exact⟨v,h1,h2,rfl⟩
 ·rintro⟨v,h1,h2,rfl⟩; exact⟨v,⟨h1,h2⟩,rfl⟩
theorem yR {x:aI} : x∈afw p q↔∃v∈p.values,∃w∈q.values,v.id=w.id/\v.attr=w.attr/\v.new≠w.new/\x=⟨3,v.id,v.attr⟩:=by
 unfold afw aop; simp only[List.mem_flatMap,List.mem_map,List.mem_filter,Bool.and_eq_true,decide_eq_true_eq,Bool.not_eq_true',decide_eq_false_iff_not]; constructor
 ·rintro⟨v,hv,w,⟨h1,h2,h3,h4⟩,rfl⟩; exact⟨v,hv,w,h1,h2,h3,h4,rfl⟩
 ·rintro⟨v,hv,w,h1,h2,h3,h4,rfl⟩; exact⟨v,hv,w,⟨h1,h2,h3,h4⟩,rfl⟩
theorem cQ.rid (h:cQ t a p) {id:Int} (hr:dy p id=true):id∈a.nodes:=by obtain⟨n,hn,rfl⟩:=wM.1 hr; exact aon (h.apj hn)
theorem jo.small (h:jo t a) {id:Int} (hi:id∈a.nodes):0<=id/\id<=1000000:=by
 have h1:=h.nid.1 id hi; have h2:=h.next
 omega
theorem cQ.aoq (h:cQ t a p) (hb:tU a.host) {v:aO} (hv:v∈p.values):(0<=v.id/\v.id<=1000000)/\0<=v.attr/\v.attr<=1000000:=by obtain⟨n,hn,h1,h2,h3,_⟩:=h.value hv; have h4:=o9 h.tk hb n hn; have h5:=h.tk.small (aon hn); rw[h1] at h5; exact⟨h5,h2,by omega⟩
theorem oU (hp:cQ t a p) (hq:cQ t a q) (hb:tU a.host):gW p q=some (ahd p q):=by
  have p1:=hp.small.rn; have p2:=hp.small.ae; have p3:=hp.small.va; have q1:=hq.small.rn; have q2:=hq.small.ae; have q3:=hq.small.va
  have round : ∀ (x y : aG) (u v : List aI) (cv : List aI × List aI → Option (List aI)), x.ax.length ≤ 500 → y.aM.length ≤ 500 → y.values.length ≤ 500 → u.length ≤ 1000000 → v.length ≤ 1000000 →
      (cU (y.aM.length<=fuel) <|
      bP (λaGd (aA2:(List aI)) azv aEz =>
       thn (y.aM[aGd]?) λaz1 =>
       thn (some [az1.src,az1.dst]) λaCJ =>
       cU (2<=fuel) <|
       bP (λaCK (alk:(List aI)) alm aCL =>
        thn (aCJ[aCK]?) λaz2 =>
        thn (iN x az2) λaCM =>
        cond aCM (
         cU (alk.length+1<=68719476736) <|
         alm (alk++[(⟨1,az2,(-1)⟩:aI)])) <|
        alm alk)
       (2 - 0) 0 aA2 λalk =>
       azv alk)
      (y.aM.length - 0) 0 u λaA2 =>
      cU (y.values.length<=fuel) <|
      bP (λaCN (aln:(List aI)) alo aCO =>
       thn (y.values[aCN]?) λaxn =>
       thn (iN x axn.id) λaCP =>
       cond aCP (
        cU (aln.length+1<=68719476736) <|
        alo (aln++[(⟨2,axn.id,axn.attr⟩:aI)])) <|
       alo aln)
      (y.values.length - 0) 0 v λaln =>
      cv (aA2,aln))=cv (u++vc x y,v++ve x y):=by
    intro x y u v cv h1 h2 h3 h4 h5; rw[br (bk (by omega))]; rw[jr y.aM (aoo x) 2 (λe _=>alh x e) ?_]
    · rw[br (bk (by omega))]; rw[jr y.values (λv=>if dy x v.id=true then [(⟨2,v.id,v.attr⟩:aI)] else []) 1 (λv _=>by split<;>simp) ?_,jK]
      · rfl
      · intro i hi s' hs' cv; rw[bL hi,aT (ze (by omega) _)]; cases dy x y.values[i].id with
        | true=>rw[cond_true,br (by omega),if_pos rfl]
        | false=>rw[cond_false,if_neg (by simp),List.append_nil]
    · intro i hi s' hs' cv; rw[bL hi,mH,br (bk (by omega)),afv]; unfold aoo; simp only[List.getElem?_cons_zero,List.getElem?_cons_succ,mH]; rw[aT (ze (by omega) _)]; cases h6:dy x y.aM[i].src with
      | true =>
        rw[cond_true,br (by omega),aT (ze (by omega) _)]; cases h7:dy x y.aM[i].dst with
        | true=>rw[cond_true,br (by simp; omega)]; simp[h6,h7]
        | false=>rw[cond_false]; simp[h6,h7]
      | false =>
        rw[cond_false,aT (ze (by omega) _)]; cases h7:dy x y.aM[i].dst with
        | true=>rw[cond_true,br (by omega)]; simp[h6,h7]
        | false=>rw[cond_false]; simp[h6,h7]
  have u1:=acf (p:=p) hq.small; have u2:=acf (p:=q) hp.small; have c1:=acg (p:=p) hq.small; have c2:=acg (p:=q) hp.small; have v1:=alj hp.small hq.small; unfold gW ahd; rw[mH,br (bk (by omega)),afx (r1:=(vc p q,ve p q)) (r2:=(vc p q++vc q p,ve p q++ve q p)) (λcv=>round p q [] [] cv p1 q2 q3 (by simp) (by simp)) (λcv=>round q p (vc p q) (ve p q) cv q1 p2 p3 (by omega) (by omega))]; rw[br (bk (by omega))]; rw[jr p.values (aop q) 500 (λv _=>ali q hq.small v) ?_]
  · simp only[List.nil_append]; have o1:∀x∈vc p q++vc q p,x.kind=1/\od x:=λx hx=>by
      rcases List.mem_append.1 hx with h | h
      · obtain⟨id,h1,_,rfl⟩:=rH.1 h; have:=hp.tk.small (hp.rid h1); exact⟨rfl,by unfold od; simp only; omega⟩
      · obtain⟨id,h1,_,rfl⟩:=rH.1 h; have:=hp.tk.small (hq.rid h1); exact⟨rfl,by unfold od; simp only; omega⟩
    have o2:∀x∈ve p q++ve q p,x.kind=2/\od x:=λx hx=>by
      rcases List.mem_append.1 hx with h | h
      · obtain⟨v,h1,_,rfl⟩:=rI.1 h; have:=hq.aoq hb h1; exact⟨rfl,by unfold od; simp only; omega⟩
      · obtain⟨v,h1,_,rfl⟩:=rI.1 h; have:=hp.aoq hb h1; exact⟨rfl,by unfold od; simp only; omega⟩
    have o3:∀x∈afw p q,x.kind=3/\od x:=λx hx=>by obtain⟨v,h1,_,_,_,_,_,rfl⟩:=yR.1 hx; have:=hp.aoq hb h1; exact⟨rfl,by unfold od; simp only; omega⟩
    have kl:∀l:List aI,(gn l).length<=l.length:=λl=>by unfold gn; exact abT _ _
    have k1:=kl (vc p q++vc q p); have k2:=kl (ve p q++ve q p); have k3:=kl (afw p q); rw[List.length_append] at k1 k2; rw[aT (show gQ (vc p q++vc q p)=_ from ql ⟨by rw[List.length_append]; omega,1,o1⟩),aT (show gQ (ve p q++ve q p)=_ from ql ⟨by rw[List.length_append]; omega,2,o2⟩)]; rw[aT (show gQ (p.values.flatMap (aop q))=_ from ql ⟨by show (afw p q).length<=_; omega,3,o3⟩)]; rw[aT (asY _ _ _ ⟨by omega,by omega,by show (gn (afw p q)).length<=_; omega⟩)]; rfl
  · intro i hi s' hs' cv; have hbase:s'.length<=250000:=by simp at hs'; omega
    rw[bL hi,br (bk (by omega))]; generalize p.values[i]=v; rw[jr q.values (λw=>if (decide (v.id=w.id)&&(decide (v.attr=w.attr) && !decide (v.new=w.new)))=true then [(⟨3,v.id,v.attr⟩:aI)] else []) 1 (λw _=>by split<;>simp) ?_,jK]
    · rfl
    · intro j hj s2 hs2 cv; rw[bL hj]; generalize q.values[j]=w; cases decide (v.id=w.id) with
      | false=>rw[cond_false,if_neg (by simp),List.append_nil]
      | true =>
        rw[cond_true]; cases decide (v.attr=w.attr) with
        | false=>rw[cond_false,if_neg (by simp),List.append_nil]
        | true =>
          rw[cond_true]; cases decide (v.new=w.new) with
          | true=>rw[cond_true,if_neg (by simp),List.append_nil]
          | false=>rw[cond_false,br (by omega),if_pos (by rfl)]
end
def aiN (p q:aG) (id:Int):Bool:=(dy p id&&xA q id)||(dy q id&&xA p id)
def aor (p q:aG) (id k:Int):Bool:=(dy p id&&(oT q id k).isSome)||(dy q id&&(oT p id k).isSome)
def ac7 (a:az) (p q:aG) (i:Nat):List aI:=((List.range (a.host.values.getD i default).length).filter λk:Nat=>aor p q (a.nodes.getD i default) (k:Int)).map λk:Nat=>⟨2,a.nodes.getD i default,(k:Int)⟩
def as0 (q:aG) (v:aO):Bool:=match oT q v.id v.attr with
 | some w=>!decide (w.new=v.new)
 | none=>false
def pe (a:az) (p q:aG):List aI:=(a.nodes.filter (aiN p q)).map (λid=>⟨1,id,-1⟩)++(List.range a.nodes.length).flatMap (ac7 a p q)++(p.values.filter (as0 q)).map λv=>⟨3,v.id,v.attr⟩
section
variable {t:Types} {a:az} {p q:aG}
theorem vf (ha:jo t a) (hb:tU a.host) (hp:gm p) (hq:gm q):cK a p q=some (pe a p q):=by
  have hn:=ha.n40; have hvl:a.host.values.length=a.nodes.length:=by rw[ha.host.aol,ha.vH]
  unfold cK pe; rw[br (bk (by omega))]; rw[jr a.nodes (λid=>if aiN p q id=true then [(⟨1,id,-1⟩:aI)] else []) 1 (λv _=>by split<;>simp) ?_,jK]; rotate_left
  · intro i hi s hs cv; simp only[List.length_nil] at hs; simp only[bL hi,tO hp.rn,axm hq.ae,tO hq.rn,axm hp.ae,mH,br (show s.length+1<=68719476736 by omega)]; unfold aiN; cases dy p a.nodes[i]<;>cases xA q a.nodes[i]<;>cases dy q a.nodes[i]<;>cases xA p a.nodes[i]<;>simp
  have aCQ:((a.nodes.filter (aiN p q)).map λid=>(⟨1,id,-1⟩:aI)).length<=40:=by rw[List.length_map]; exact Nat.le_trans (List.length_filter_le _ _) hn
  rw[List.nil_append,br (bk (by omega))]; generalize (a.nodes.filter (aiN p q)).map (λid=>(⟨1,id,-1⟩:aI))=u at aCQ ⊢; have hI:∀i∈List.range a.nodes.length,(ac7 a p q i).length<=1000:=λi hi=>by have hi:=List.mem_range.1 hi; unfold ac7; rw[List.length_map]; refine Nat.le_trans (List.length_filter_le _ _) ?_; rw[List.length_range]; refine hb.row _ ?_; simp[show i<a.host.values.length by omega]
  rw[jD a.nodes.length (ac7 a p q) 1000 (λi hi=>hI i (List.mem_range.2 hi)) ?_]
  · rw[br (bk (by have:=hp.va; omega))]; have aCR:(u++(List.range a.nodes.length).flatMap (ac7 a p q)).length<=1000000:=by have:=ace (ac7 a p q) (List.range a.nodes.length) u 1000 hI; rw[sU,List.length_range] at this; omega
    generalize u++(List.range a.nodes.length).flatMap (ac7 a p q)=w at aCR ⊢; rw[jr p.values (λv=>if as0 q v=true then [(⟨3,v.id,v.attr⟩:aI)] else []) 1 (λv _=>by split<;>simp) ?_,jK]; intro i hi s hs cv; have:=hp.va; rw[bL hi,aT (show bX ⟨q.ax,q.aD,q.aQ,q.aM,q.values,q.next⟩ _ _=_ from ad7 hq.va _ _),br (by omega)]; unfold as0; cases oT q p.values[i].id p.values[i].attr with
    | none=>simp
    | some w=>simp only[cond_true]; by_cases hw:w.new=p.values[i].new<;>simp[hw]
  · intro i hi s hs cv; have hi':i<a.nodes.length:=hi; have hv:i<a.host.values.length:=by omega
    have hgn:a.nodes.getD i default=a.nodes[i]:=by simp[hi']
    have hgv:a.host.values.getD i default=a.host.values[i]:=by simp[hv]
    have hrow:=hb.row _ (List.getElem_mem hv); have yY:s.length<=100000:=by have:1000 * i<=1000 * 40:=Nat.mul_le_mul_left _ (by omega); omega
    rw[bL hi']; unfold ac7; rw[hgn,hgv]; generalize a.nodes[i]=id at *; generalize hvv:a.host.values[i]=vals at *; have inner:∀ (m k n:Nat) (z:List aI),k+m=vals.length->m+1<=n->z.length<=100000+k->iter (λ(lU:Int×(List aI)) tP axo =>
   thn (a.host.values[i]?) λaCS =>
   cond (decide (lU.1<((aCS.length:Nat):Int))) (
    thn (bX (⟨p.ax,p.aD,p.aQ,p.aM,p.values,p.next⟩:aG) id lU.1) λaz3 =>
    thn (bX (⟨q.ax,q.aD,q.aQ,q.aM,q.values,q.next⟩:aG) id lU.1) λaCT =>
    thn (bA (⟨p.ax,p.aD,p.aQ,p.aM,p.values,p.next⟩:aG) id) λaCU =>
    cond aCU (
     cond aCT.2 (
      cU (lU.2.length+1<=68719476736) <|
      tP ((IntKind.i64.wrap (lU.1+1)),(lU.2++[(⟨2,id,lU.1⟩:aI)]))) <|
     thn (bA (⟨q.ax,q.aD,q.aQ,q.aM,q.values,q.next⟩:aG) id) λaCV =>
     cond aCV (
      cond az3.2 (
       cU (lU.2.length+1<=68719476736) <|
       tP ((IntKind.i64.wrap (lU.1+1)),(lU.2++[(⟨2,id,lU.1⟩:aI)]))) <|
      tP ((IntKind.i64.wrap (lU.1+1)),lU.2)) <|
     tP ((IntKind.i64.wrap (lU.1+1)),lU.2)) <|
    thn (bA (⟨q.ax,q.aD,q.aQ,q.aM,q.values,q.next⟩:aG) id) λaCW =>
    cond aCW (
     cond az3.2 (
      cU (lU.2.length+1<=68719476736) <|
      tP ((IntKind.i64.wrap (lU.1+1)),(lU.2++[(⟨2,id,lU.1⟩:aI)]))) <|
     tP ((IntKind.i64.wrap (lU.1+1)),lU.2)) <|
    tP ((IntKind.i64.wrap (lU.1+1)),lU.2)) <|
   axo (lU.1, lU.2)) n ((k : Int), z) (fun lU => cv lU.2) = cv (z ++ ((List.range' k m).filter fun k : Nat => aor p q id (k : Int)).map fun k : Nat => ⟨2, id, (k : Int)⟩) := by
      intro m
      induction m with
      | zero=>intro k n z hk hn hz; obtain⟨n,rfl⟩:∃n',n=n'+1:=⟨n - 1,by omega⟩; rw[iter,bL hv,hvv,decide_eq_false (by simp only; omega),cond_false]; simp
      | succ m ih=>intro k n z hk hn hz; obtain⟨n,rfl⟩:∃n',n=n'+1:=⟨n - 1,by omega⟩; rw[iter,bL hv,hvv,decide_eq_true (by simp only; omega),cond_true]; rw[aT (show bX ⟨p.ax,p.aD,p.aQ,p.aM,p.values,p.next⟩ _ _=_ from ad7 hp.va _ _),aT (show bX ⟨q.ax,q.aD,q.aQ,q.aM,q.values,q.next⟩ _ _=_ from ad7 hq.va _ _)]; have r1:bA ⟨p.ax,p.aD,p.aQ,p.aM,p.values,p.next⟩ id=_:=tO hp.rn id; have r2:bA ⟨q.ax,q.aD,q.aQ,q.aM,q.values,q.next⟩ id=_:=tO hq.rn id; rw[aT r1,aT r2]; dsimp only; rw[br (show z.length+1<=68719476736 by omega),gT (n:=((k:Nat):Int)+1) (by omega),show ((k:Nat):Int)+1=((k+1:Nat):Int) from rfl]; rw[ih (k+1) n _ (by omega) (by omega) (by rw[List.length_append,List.length_singleton]; omega),ih (k+1) n z (by omega) (by omega) (by omega)]; rw[List.range'_succ,List.filter_cons]; unfold aor; cases dy p id<;>cases dy q id<;>cases oT p id (k:Int)<;>cases oT q id (k:Int)<;>simp
    have:=inner vals.length 0 fuel s (by omega) (by unfold fuel; omega) (by omega); rw[List.range_eq_range']; exact this
theorem as1 {n:aj} (h:n∈bZ a):∃i,i<a.nodes.length/\n=bI a i:=by obtain⟨i,hi,rfl⟩:=List.mem_map.1 h; exact⟨i,by simpa using hi,rfl⟩
theorem vJ (hp:cQ t a p) (hq:cQ t a q):ahd p q=pe a p q:=by
 have ha:=hp.tk; unfold ahd pe; have e1:gn (vc p q++vc q p)=(a.nodes.filter (aiN p q)).map λid=>⟨1,id,-1⟩:=by
  refine wL (K:=1) (λx hx=>?_) ?_ λx=>?_
  ·rcases List.mem_append.1 hx with h | h<;>(obtain⟨id,_,_,rfl⟩:=rH.1 h; rfl)
  ·rw[List.pairwise_map]; exact (ha.nid.2.sub List.filter_sublist).imp λh=>.inl h
  ·rw[List.mem_append,rH,rH,List.mem_map]; constructor
   ·rintro (⟨id,h1,h2,rfl⟩ | ⟨id,h1,h2,rfl⟩)
    ·exact⟨id,List.mem_filter.2 ⟨hp.rid h1,by unfold aiN; rw[h1,h2]; rfl⟩,rfl⟩
    ·exact⟨id,List.mem_filter.2 ⟨hq.rid h1,by unfold aiN; rw[h1,h2]; simp⟩,rfl⟩
   ·rintro⟨id,h,rfl⟩; have h:=(List.mem_filter.1 h).2; unfold aiN at h; rw[Bool.or_eq_true,Bool.and_eq_true,Bool.and_eq_true] at h; rcases h with h | h
    ·exact .inl ⟨id,h.1,h.2,rfl⟩
    ·exact .inr ⟨id,h.1,h.2,rfl⟩
 have e2:gn (ve p q++ve q p)=(List.range a.nodes.length).flatMap (ac7 a p q):=by
  have mem:∀x,x∈(List.range a.nodes.length).flatMap (ac7 a p q)↔∃i,i<a.nodes.length/\∃k:Nat,k<(a.host.values.getD i default).length/\aor p q (a.nodes.getD i default) (k:Int)=true/\x=⟨2,a.nodes.getD i default,(k:Int)⟩:=λx=>by
   unfold ac7; simp only[List.mem_flatMap,List.mem_range,List.mem_map,List.mem_filter]; constructor
   ·rintro⟨i,hi,k,⟨h1,h2⟩,rfl⟩; exact⟨i,hi,k,h1,h2,rfl⟩
   ·rintro⟨i,hi,k,h1,h2,rfl⟩; exact⟨i,hi,k,⟨h1,h2⟩,rfl⟩
  have into:∀ {x y:aG},cQ t a y->∀v∈y.values,∃i,i<a.nodes.length/\∃k:Nat,k<(a.host.values.getD i default).length/\v.id=a.nodes.getD i default/\v.attr=(k:Int):=λ{x y} hy v hv=>by obtain⟨n,hn,h1,h2,h3,_⟩:=hy.value hv; obtain⟨i,hi,rfl⟩:=as1 hn; exact⟨i,hi,v.attr.toNat,by simp only[bI] at h3; omega,h1.symm,by omega⟩
  refine wL (K:=2) (λx hx=>?_) ?_ λx=>?_
  ·rcases List.mem_append.1 hx with h | h<;>(obtain⟨id,_,_,rfl⟩:=rI.1 h; rfl)
  ·rw[List.pairwise_flatMap]; constructor
   ·intro i _; unfold ac7; rw[List.pairwise_map]; exact (List.Pairwise.sublist List.filter_sublist List.pairwise_lt_range).imp λh=>.inr ⟨rfl,by simp only; omega⟩
   ·refine List.Pairwise.imp_of_mem ?_ (List.pairwise_lt_range (n:=a.nodes.length)); intro i j hi hj hij x hx y hy; have hi:=List.mem_range.1 hi; have hj:=List.mem_range.1 hj; unfold ac7 at hx hy; obtain⟨k,_,rfl⟩:=List.mem_map.1 hx; obtain⟨m,_,rfl⟩:=List.mem_map.1 hy; left; have:=ha.nid.2.ab4 hij hj; simpa[hi,hj] using this
  ·rw[mem,List.mem_append,rI,rI]; constructor
   ·rintro (⟨v,hv,h1,rfl⟩ | ⟨v,hv,h1,rfl⟩)
    ·obtain⟨i,hi,k,hk,e1,e2⟩:=into (x:=p) hq v hv; refine⟨i,hi,k,hk,?_,by rw[e1,e2]⟩; unfold aor; rw[<-e1,h1,mR.2 ⟨v,hv,rfl,e2⟩]; rfl
    ·obtain⟨i,hi,k,hk,e1,e2⟩:=into (x:=q) hp v hv; refine⟨i,hi,k,hk,?_,by rw[e1,e2]⟩; unfold aor; rw[<-e1,h1,mR (p:=p) |>.2 ⟨v,hv,rfl,e2⟩]; simp
   ·rintro⟨i,hi,k,hk,h,rfl⟩; unfold aor at h; rw[Bool.or_eq_true,Bool.and_eq_true,Bool.and_eq_true] at h; rcases h with h | h
    ·obtain⟨v,hv,e1,e2⟩:=mR.1 h.2; exact .inl ⟨v,hv,by rw[e1]; exact h.1,by rw[e1,e2]⟩
    ·obtain⟨v,hv,e1,e2⟩:=mR.1 h.2; exact .inr ⟨v,hv,by rw[e1]; exact h.1,by rw[e1,e2]⟩
 have e3:gn (afw p q)=(p.values.filter (as0 q)).map λv=>⟨3,v.id,v.attr⟩:=by
  refine wL (K:=3) (λx hx=>?_) ?_ λx=>?_
  ·obtain⟨v,_,_,_,_,_,_,rfl⟩:=yR.1 hx; rfl
  ·rw[List.pairwise_map]; exact (List.Pairwise.sublist List.filter_sublist hp.ord.va).imp λh=>h
  ·rw[yR,List.mem_map]; constructor
   ·rintro⟨v,hv,w,hw,h1,h2,h3,rfl⟩; refine⟨v,List.mem_filter.2 ⟨hv,?_⟩,rfl⟩; unfold as0; rw[h1,h2,asX hq.ord.va hw]; simp only[Bool.not_eq_true',decide_eq_false_iff_not]; exact λe=>h3 e.symm
   ·rintro⟨v,hv,rfl⟩; obtain⟨hv,h⟩:=List.mem_filter.1 hv; unfold as0 at h; split at h
    ·rename_i w hw; obtain⟨h1,h2,h3⟩:=adz hw; refine⟨v,hv,w,h1,h2.symm,h3.symm,λe=>?_,rfl⟩; rw[e] at h; simp at h
    ·cases h
 rw[e1,e2,e3]
end
end Go.Proofs.YtllicmcihlfajaaGreat
namespace Go.Proofs.YtllicmcihlfajaaGreat
open Go.cE
section
variable {t:Types} {a:az} {p q:aG}
theorem ahe {ids:List Int} {n:Int} : 0<=cr ids n↔n∈ids:=by
 unfold cr; have:=wE (q:=λy=>decide (y=n)) (l:=ids); constructor
 ·intro h; rw[decide_eq_true h] at this; obtain⟨y,hy,e⟩:=List.any_eq_true.1 this.symm; rw[<-of_decide_eq_true e]; exact hy
 ·intro h; rw[List.any_eq_true.2 ⟨n,h,decide_eq_true rfl⟩] at this; exact of_decide_eq_true this
theorem cQ.ends (h:cQ t a p) {e:ak} (he:e∈pE a p++p.aM):e.src∈(kR (mo a p++p.aQ)).map aj.id/\e.dst∈(kR (mo a p++p.aQ)).map aj.id:=by have:=List.all_eq_true.1 (afs (N:=kR (mo a p++p.aQ)) (E:=nW (pE a p++p.aM)) (next:=p.next.x1) h.ok) e (vG.2 he); unfold yQ at this; rw[Bool.and_eq_true] at this; exact⟨ahe.1 (of_decide_eq_true this.1),ahe.1 (of_decide_eq_true this.2)⟩
theorem cQ.aGe (h:cQ t a p) {e:ak} (he:e∈pE a p++p.aM):(0<=e.src/\e.src<p.next.x1)/\0<=e.dst/\e.dst<p.next.x1:=by obtain⟨h1,h2⟩:=h.ends he; exact⟨h.ok.nid.1 _ h1,h.ok.nid.1 _ h2⟩
end
def iP (x0 d id:Int):Int:=if x0<=id then id+d else id
def oe (x0 d:Int) (n:aj):aj:=⟨iP x0 d n.id,n.type,n.values⟩
def nE (x0 d:Int) (e:ak):ak:=⟨iP x0 d e.id,e.type,iP x0 d e.src,iP x0 d e.dst⟩
def jL (p q:aG):aG:=⟨q.ax,q.aD,q.aQ.map (oe q.next.x0 (p.next.x1 - p.next.x0)),q.aM.map (nE q.next.x0 (p.next.x1 - p.next.x0)),q.values,⟨p.next.x1,p.next.x1+q.next.x1 - q.next.x0⟩⟩
structure azw (p q:aG):Prop where
 x0:0<=p.next.x0/\p.next.x0<=1000000
 x1:0<=p.next.x1/\p.next.x1<=1000000
 y0:0<=q.next.x0/\q.next.x0<=1000000
 y1:0<=q.next.x1/\q.next.x1<=1000000
 n:∀n∈q.aQ,0<=n.id/\n.id<=1000000
 e:∀e∈q.aM,(0<=e.id/\e.id<=1000000)/\(0<=e.src/\e.src<=1000000)/\0<=e.dst/\e.dst<=1000000
theorem wK.azx {t:Types} {a:az} {p q:aG} (h:wK t a p q):azw p q :=
 ⟨h.ap.n0,h.ap.n1,h.aq.n0,h.aq.n1,λn hn=>by have:=h.aq.ids.1 n hn; have:=h.aq.n1; omega,λe he=>by
  have h1:=h.aq.ids.2 e he; have h2:=h.aq.aGe (List.mem_append_right _ he); have h3:=h.aq.n1; omega⟩
theorem afy {x0 d id:Int} (h1 : -1000000<=d/\d<=1000000) (h2:0<=id/\id<=1000000):(if x0<=id then some (IntKind.i64.wrap (id+d)) else some id)=some (iP x0 d id):=by
 unfold iP; split
 ·rw[gT (by omega)]
 ·rfl
theorem aak {l:List aj} (h:l.length<=1000000) (hv:Rows l):dM l=some l:=by
 unfold dM; rw[br (bk (by omega))]; rw[jr l (λn=>[n]) 1 (λn _=>by simp) λi hi s hs cv=>?_]
 ·simp
 ·have:=hv _ (List.getElem_mem hi); simp only[List.length_nil] at hs; rw[bL hi,br (by omega),br (by omega)]
theorem jj {p:aG} (hp:gm p):bB p=some p:=by have h1:=hp.re; have h2:=hp.ae; have h3:=hp.va; unfold bB; rw[aT (aak hp.rn hp.rv),br (by omega),aT (aak hp.an hp.av),br (by omega),br (by omega)]
theorem afz {α O:Type} (g:α->α) {F:Int×List α->(Int×List α->Option O)->(Int×List α->Option O)->Option O} {K:Int×List α->Option O} (l:List α) (hl:l.length<=1000000)
  (h:∀ (i:Nat) (s:List α) (hi:i<s.length) (hi2:i<l.length),s.length=l.length->s[i]=l[i]->∀cv,F ((i:Int),s) cv K=cv (((i+1:Nat):Int),s.set i (g l[i])))
  (he:∀ (s:List α),s.length=l.length->∀cv,F (((l.length:Nat):Int),s) cv K=K (((l.length:Nat):Int),s)):iter F fuel (0,l) K=K (((l.length:Nat):Int),l.map g):=by
 have key:∀ (m i n:Nat),i+m=l.length->m+1<=n->iter F n ((i:Int),(l.take i).map g++l.drop i) K=K (((l.length:Nat):Int),l.map g):=by
  intro m
  induction m with
  | zero =>
   intro i n hi hn; obtain⟨n,rfl⟩:∃k,n=k+1:=⟨n - 1,by omega⟩; have:i=l.length:=by omega
   subst this; rw[iter,List.take_length,List.drop_length,List.append_nil,he _ (by simp)]
  | succ m ih =>
   intro i n hi hn; obtain⟨n,rfl⟩:∃k,n=k+1:=⟨n - 1,by omega⟩; have hlt:i<l.length:=by omega
   have hs:((l.take i).map g++l.drop i).length=l.length:=by simp; omega
   have hg:((l.take i).map g++l.drop i)[i]'(by omega)=l[i]:=by rw[List.getElem_append_right (by simp; omega)]; simp[Nat.min_eq_left (Nat.le_of_lt hlt)]
   rw[iter,h i _ (by omega) hlt hs hg,<-ih (i+1) n (by omega) (by omega)]; congr 2; rw[List.set_append_right _ _ (by simp; omega),List.take_add_one,List.getElem?_eq_getElem hlt,Option.toList_some,List.map_append]; simp[Nat.min_eq_left (Nat.le_of_lt hlt)]; rw[List.drop_eq_getElem_cons hlt]; rfl
 have:=key l.length 0 fuel (by omega) (by unfold fuel; omega); simpa using this
theorem aiO {α:Type} {l:List α} {i:Nat} (hi:i<l.length):l[((i:Nat):Int).toNat]'(by simpa using hi)=l[i]:=rfl
theorem uG {α β:Type} (f:α->β) (l:List α):(l.flatMap λa=>[f a])=l.map f:=by
 induction l with
 | nil=>rfl
 | cons x l ih=>rw[List.flatMap_cons,ih]; rfl
section
variable {p q:aG}
theorem ad8 {x0 d id:Int} (h1 : -1000000<=d/\d<=1000000) (h2:0<=id/\id<=1000000):dO id x0 d=some (iP x0 d id):=by unfold dO; rw[aW,afy h1 h2]
theorem uH {d id:Int} (h1 : -1000000<=d/\d<=1000000) (h2:0<=id/\id<=1000000):gI id q d=some (iP q.next.x0 d id):=by unfold gI; rw[aW,afy h1 h2]
theorem ahf (h:azw p q):IntKind.i64.wrap (p.next.x1 - p.next.x0)=p.next.x1 - p.next.x0/\IntKind.i64.wrap (IntKind.i64.wrap (p.next.x1+q.next.x1) - q.next.x0)=p.next.x1+q.next.x1 - q.next.x0:=by have h1:=h.x0; have h2:=h.x1; have h3:=h.y0; have h4:=h.y1; exact⟨gT (by omega),by rw[gT (n:=p.next.x1+q.next.x1) (by omega),gT (by omega)]⟩
theorem ahg (h:azw p q) (hq:gm q):dV p q=some (jL p q):=by
 obtain⟨w1,w2⟩:=ahf h; have h1:=h.x0; have h2:=h.x1; have qn:=hq.an; have qe:=hq.ae; unfold dV jL; rw[aT (jj hq),w1,w2]; rw[afz (oe q.next.x0 (p.next.x1 - p.next.x0)) q.aQ hq.an]
 ·rw[afz (nE q.next.x0 (p.next.x1 - p.next.x0)) q.aM hq.ae]
  ·intro i s hi hi2 hs hg cv; have hr:=h.e _ (List.getElem_mem hi2); dsimp only; rw[decide_eq_true (by omega),cond_true,fQ (by omega) (by simpa using hi),aiO hi,hg,aT (ad8 (by omega) hr.1),aT (ad8 (by omega) hr.2.1),aT (ad8 (by omega) hr.2.2),gT (by omega)]; rfl
  ·intro s hs cv; dsimp only; rw[decide_eq_false (by omega),cond_false]
 ·intro i s hi hi2 hs hg cv; have hr:=h.n _ (List.getElem_mem hi2); dsimp only; rw[decide_eq_true (by omega),cond_true,fQ (by omega) (by simpa using hi),aiO hi,hg,aT (ad8 (by omega) hr),gT (by omega)]; rfl
 ·intro s hs cv; dsimp only; rw[decide_eq_false (by omega),cond_false]
theorem xB (h:azw p q) (hq:gm q):kg p q=some (jL p q):=by
 obtain⟨w1,w2⟩:=ahf h; have h1:=h.x0; have h2:=h.x1; have qn:=hq.an; have qe:=hq.ae; unfold kg jL; rw[w1,w2,br (bk (by omega))]; rw[jr q.aQ (λn=>[oe q.next.x0 (p.next.x1 - p.next.x0) n]) 1 (λn _=>by simp) λi hi s hs cv=>?_]
 ·rw[br (bk (by omega))]; rw[jr q.aM (λn=>[nE q.next.x0 (p.next.x1 - p.next.x0) n]) 1 (λn _=>by simp) λi hi s hs cv=>?_]
  ·simp only[List.nil_append,uG]
  ·have hr:=h.e _ (List.getElem_mem hi); simp only[List.length_nil] at hs; rw[bL hi,aT (uH (by omega) hr.1),aT (uH (by omega) hr.2.1),aT (uH (by omega) hr.2.2),br (by omega)]; rfl
 ·have hr:=h.n _ (List.getElem_mem hi); simp only[List.length_nil] at hs; rw[bL hi,aT (uH (by omega) hr),br (by omega)]; rfl
theorem adX (hp:gm p) (hq:gm q):rR p q=some (nA p q):=ql ⟨hp.rn,hp.re,hp.va,hq.rn,hq.re,hq.va⟩
theorem ac8 {α:Type} (b:α->Bool) (l:List α):(l.flatMap λa=>if b a=true then [] else [a])=l.filter λa=>!b a:=by
 induction l with
 | nil=>rfl
 | cons x l ih=>rw[List.flatMap_cons,ih,List.filter_cons]; cases b x<;>simp
theorem aA3 (hp:gm p) (hq:gm q):gi p q=some (nA p q):=by
 have q1:=hq.rn; have q2:=hq.re; have q3:=hq.va; unfold gi; rw[aT (jj hq),br (bk (by omega))]; rw[jr q.ax (λn=>if dy p n.id=true then [] else [n]) 1 (λn _=>by split<;>simp) λi hi s hs cv=>?_,ac8]
 ·rw[br (bk (by omega))]; rw[jr q.aD (λn=>if apl p n.id=true then [] else [n]) 1 (λn _=>by split<;>simp) λi hi s hs cv=>?_,ac8]
  ·rw[br (bk (by omega))]; rw[jr q.values (λv=>if (oT p v.id v.attr).isSome=true then [] else [v]) 1 (λn _=>by split<;>simp) λi hi s hs cv=>?_,ac8]
   ·unfold nA; simp only[List.nil_append,Option.some.injEq,aG.mk.injEq,true_and]; refine⟨rfl,?_,?_⟩
    ·refine List.filter_congr λx _=>?_
     unfold apl; congr 2; funext y; rw[decide_eq_decide]; exact⟨λh=>h.symm,λh=>h.symm⟩
    ·refine⟨List.filter_congr λv _=>?_,trivial⟩; congr 1; rw[Bool.eq_iff_iff,mR,List.any_eq_true]; simp only[Bool.and_eq_true,decide_eq_true_eq]; exact⟨λ⟨w,h1,h2,h3⟩=>⟨w,h1,h2.symm,h3.symm⟩,λ⟨w,h1,h2,h3⟩=>⟨w,h1,h2.symm,h3.symm⟩⟩
   ·simp only[List.length_nil] at hs; rw[bL hi,aT (ad7 hp.va _ _),br (by omega)]; cases oT p q.values[i].id q.values[i].attr<;>simp
  ·simp only[List.length_nil] at hs; rw[bL hi,aT (aA1 hp.re _),br (by omega)]; cases apl p q.aD[i].id<;>simp
 ·simp only[List.length_nil] at hs; rw[bL hi,aT (tO hp.rn _),br (by omega)]; cases dy p q.ax[i].id<;>simp
theorem adY (hq:gm q) {x:az} (hx:x.nodes.length<=1000000) (hv:x.host.values.length=x.nodes.length) (hs:∀n∈q.ax,∀k,(hk:k<x.nodes.length)->x.nodes[k]=n.id->x.host.values[k]'(by omega)=n.values):dA q x=some q:=by
  have q1:=hq.rn; unfold dA; rw[aT (jj hq)]; rw[afz (λn=>n) q.ax hq.rn]
  · simp
  · intro i s hi hi2 hs' hg cv; dsimp only; rw[decide_eq_true (by omega),cond_true,br (bk (by omega))]; have aCX:s.set i q.ax[i]=s:=by rw[<-hg]; exact List.set_getElem_self hi
    have key:=(qN (O:=aG) (K:=λalp=>cv ((IntKind.i64.wrap (((i:Nat):Int)+1)),alp)) (s:=s) (f:=λaz4 (alp:(List aj)) alq aCY =>
    thn (x.nodes[az4]?) λaCZ =>
    thn (oI alp ((i:Nat):Int)) λaxp =>
    cond (decide (aCZ=axp.id)) (
     thn (x.host.values[az4]?) λaz5 =>
     cU (az5.length<=68719476736) <|
     alq (alp.set ((i:Nat):Int).toNat (⟨axp.id,axp.type,az5⟩:aj))) <|
    alq alp) x.nodes (λs' _=>s') (λ_ s'=>s'=s) rfl λk hk s' e=>by
      subst e; refine⟨λcv=>?_,rfl⟩; rw[bL hk,fQ (by omega) (by simpa using hi),aiO hi,hg,aW]; split
      · rename_i he; have hval:=hs _ (List.getElem_mem hi2) k hk he; have hr:=hq.rv _ (List.getElem_mem hi2); rw[bL (show k<x.host.values.length by omega),hval,br (by omega)]; congr 1
      · rfl).1
    rw[key]; have:x.nodes.foldl (λ(s':List aj) _=>s') s=s:=by
      induction x.nodes with
      | nil=>rfl
      | cons a l ih=>rw[List.foldl_cons]; exact ih
    rw[this,aCX,gT (by omega)]; rfl
  · intro s hs' cv; dsimp only; rw[decide_eq_false (by omega),cond_false]
end
end Go.Proofs.YtllicmcihlfajaaGreat
namespace Go.Proofs.YtllicmcihlfajaaGreat
open Go.cE
def ac9 (g:dI) (k i:Int) (out:Bool):Int:=(((g.au.filter λe=>decide (e.type=k)&&(if out=true then decide (e.src=i) else decide (e.dst=i))).length:Nat):Int)
def axq (t:Types) (g:dI) (k:Int) (out:Bool) (kind low high:Int) (i:Nat):Bool:=isB t (g.nodes.getD i default) kind&&(decide (ac9 g k (i:Int) out<low)||(decide (0<=high)&&decide (high<ac9 g k (i:Int) out)))
def p0 (t:Types) (g:dI) (k:Int) (out:Bool) (kind low high:Int):List cu:=((List.range g.nodes.length).filter (axq t g k out kind low high)).map λi:Nat=>⟨k,(i:Int),ac9 g k (i:Int) out,out⟩
def adZ (t:Types) (g:dI) (k:Nat):List cu:=p0 t g (k:Int) true (t.au.getD k default).src (t.au.getD k default).lB (t.au.getD k default).jd++p0 t g (k:Int) false (t.au.getD k default).dst (t.au.getD k default).qi (t.au.getD k default).mg
def afA (t:Types) (h:Host):List cu:=(List.range t.au.length).flatMap (adZ t h.graph)
theorem alr {O:Type} {f:Nat->Int->(Int->Option O)->(Int->Option O)->Option O} {K:Int->Option O} (l:List Edge) (hl:l.length<=1000000) (b:Edge->Bool)
  (h:∀i (hi:i<l.length) (s:Int) cv,f i s cv K=cv (if b l[i]=true then IntKind.i64.wrap (s+1) else s)):bP f (l.length - 0) 0 0 K=K (((l.filter b).length:Nat):Int):=by
 have key:∀ (m i:Nat) (s:Nat),i+m=l.length->s<=i->bP f m i (s:Int) K=K (((s+((l.drop i).filter b).length:Nat)):Int):=by
  intro m
  induction m with
  | zero=>intro i s hi hs; rw[List.drop_eq_nil_of_le (by omega)]; rfl
  | succ m ih =>
   intro i s hi hs; have hlt:i<l.length:=by omega
   rw[bP,h i hlt,List.drop_eq_getElem_cons hlt,List.filter_cons]; split
   ·rw[gT (by omega),show ((s:Nat):Int)+1=((s+1:Nat):Int) from rfl,ih (i+1) (s+1) (by omega) (by omega)]; rw[List.length_cons,Nat.add_assoc,Nat.add_comm 1]
   ·exact ih (i+1) s (by omega) (by omega)
 have:=key (l.length - 0) 0 0 (by omega) (Nat.le_refl _); simpa using this
section
variable {t:Types} {h:Host}
theorem tL.okT (hf:ga t) (hh:tL t h):OkT t:=zd hf hh.types
theorem tL.az6 (hh:tL t h) {i:Nat} (hi:i<h.graph.nodes.length):0<=h.graph.nodes[i]/\h.graph.nodes[i]<t.nodes.length:=by
 have h1:=(hh.graph.kind i hi).1; have h2:=hh.node i hi; have hg:h.graph.nodes.getD i default=h.graph.nodes[i]:=by simp[hi]
 rw[hg] at h1 h2; unfold oA at h2; split at h2
 ·cases h2
 ·omega
theorem axr (hf:ga t) (ho:OkT t) {k:Nat} (hk:k<t.au.length):(0<=t.au[k].src/\t.au[k].src<t.nodes.length)/\0<=t.au[k].dst/\t.au[k].dst<t.nodes.length:=by
 have:=ho.ends hk; have hg:t.au.getD k default=t.au[k]:=by simp[hk]
 rw[hg] at this; unfold inB at this; simp only[Bool.and_eq_true,decide_eq_true_eq] at this; exact this
theorem aGf (hf:ga t) (hv:(iz t).2=0) {a b:Int} (ha:0<=a/\a<t.nodes.length) (hb:0<=b/\b<t.nodes.length):tE t a b=some (isB t a b):=by
 unfold tE; have hg:pR t [a,b]=0:=by unfold pR; rw[if_neg (λh=>h hv),if_neg]; simp only[List.any_cons,List.any_nil,Bool.or_false]; unfold inB; rw[decide_eq_true ha.1,decide_eq_true ha.2,decide_eq_true hb.1,decide_eq_true hb.2]; simp
 rw[aT (show uU t [a,b]=_ from ql ⟨hf,by simp⟩),hg,decide_eq_true rfl,cond_true,aT (show aaO t a b=_ from ql ⟨zd hf hv,ha⟩)]
theorem axt (hf:ga t) (hv:(iz t).2=0) {a b:Int} (ha:0<=a/\a<t.nodes.length) (hb:0<=b):gN t a b=some (isB t a b):=ql ⟨hf,zd hf hv,ha.1,ha.2,hb⟩
theorem azy (g:dI) (hg:g.au.length<=1000000) (k i:Int) (out:Bool):eO g k i out=some (ac9 g k i out):=by
 unfold eO ac9; rw[br (bk (by omega)),alr g.au hg (λe=>decide (e.type=k)&&(if out=true then decide (e.src=i) else decide (e.dst=i))) λj hj s cv=>?_]; rw[bL hj]; by_cases h1:g.au[j].type=k
 ·rw[decide_eq_true h1,cond_true,Bool.true_and]; cases out with
  | true=>rw[cond_true,if_pos rfl]; by_cases h2:g.au[j].src=i<;>simp[h2]
  | false=>rw[cond_false]; by_cases h2:g.au[j].dst=i<;>simp[h2]
 ·rw[decide_eq_false h1,cond_false,Bool.false_and,if_neg (by simp)]
theorem kF (g:dI) (k:Int) (out:Bool) (kind low high:Int):(p0 t g k out kind low high).length<=g.nodes.length:=by unfold p0; rw[List.length_map]; refine Nat.le_trans (List.length_filter_le _ _) ?_; rw[List.length_range]; exact Nat.le_refl _
theorem xC (hf:ga t) (hh:tL t h) (k:Int) (out:Bool) {kind low high:Int} (hk:0<=kind/\kind<t.nodes.length):kj t h k out kind low high=some (p0 t h.graph k out kind low high):=by
 have hn:=hh.graph.nodes; have he:=hh.graph.au; unfold kj p0; rw[br (bk (by omega))]; rw[jD h.graph.nodes.length (λi=>if axq t h.graph k out kind low high i=true then [(⟨k,(i:Int),ac9 h.graph k (i:Int) out,out⟩:cu)] else []) 1 (λi _=>by split<;>simp) λi hi s hs cv=>?_,jK]
 ·rfl
 ·simp only[List.length_nil] at hs; have hg:h.graph.nodes.getD i default=h.graph.nodes[i]:=by simp[hi]
  rw[bL hi,aT (aGf hf hh.types (hh.az6 hi) hk)]; unfold axq; rw[hg]; cases isB t h.graph.nodes[i] kind with
  | false=>simp
  | true =>
   rw[cond_true,br (bk (by omega)),alr h.graph.au (by omega) (λe=>decide (e.type=k)&&(if out=true then decide (e.src=(i:Int)) else decide (e.dst=(i:Int)))) λj hj s cv=>?_]
   ·rw[br (by omega)]; show cond (decide (ac9 h.graph k (i:Int) out<low)) _ (cond (decide (0<=high)) (cond (decide (high<ac9 h.graph k (i:Int) out)) _ _) _)=_; cases decide (ac9 h.graph k (i:Int) out<low)<;>cases decide (0<=high)<;>cases decide (high<ac9 h.graph k (i:Int) out)<;>simp<;>rfl
   ·rw[bL hj]; by_cases h1:h.graph.au[j].type=k
    ·rw[decide_eq_true h1,cond_true,Bool.true_and]; cases out with
     | true=>rw[cond_true,if_pos rfl]; by_cases h2:h.graph.au[j].src=(i:Int)<;>simp[h2]
     | false=>rw[cond_false]; by_cases h2:h.graph.au[j].dst=(i:Int)<;>simp[h2]
    ·rw[decide_eq_false h1,cond_false,Bool.false_and,if_neg (by simp)]
theorem aos (hf:ga t) (hh:tL t h) (hb:tU h):mD t h=some (afA t h,0):=by
 have hn:=hh.graph.nodes; have hE:=hf.au; unfold mD afA; rw[aT (show pU t h=some 0 by unfold pU; rw[aT (ab5 hf hb),uF.2 hh]),decide_eq_true rfl,cond_true,br (bk (by omega))]; have hlen:∀k,(adZ t h.graph k).length<=80:=λk=>by unfold adZ; rw[List.length_append]; have h1:=kF (t:=t) h.graph (k:Int) true (t.au.getD k default).src (t.au.getD k default).lB (t.au.getD k default).jd; have h2:=kF (t:=t) h.graph (k:Int) false (t.au.getD k default).dst (t.au.getD k default).qi (t.au.getD k default).mg; omega
 rw[jD t.au.length (adZ t h.graph) 80 (λk _=>hlen k) λi hi s hs cv=>?_]
 ·rfl
 ·simp only[List.length_nil] at hs; have hg:t.au.getD i default=t.au[i]:=by simp[hi]
  obtain⟨r1,r2⟩:=axr hf (hh.okT hf) hi; rw[bL hi,aT (xC hf hh _ _ r1)]; have h1:=kF (t:=t) h.graph (i:Int) true t.au[i].src t.au[i].lB t.au[i].jd; have h2:=kF (t:=t) h.graph (i:Int) false t.au[i].dst t.au[i].qi t.au[i].mg; have:80 * i<=80 * t.au.length:=Nat.mul_le_mul_left _ (by omega); rw[br (by omega),aT (xC hf hh _ _ r2),br (by omega)]; unfold adZ; rw[hg,List.append_assoc]
theorem alu (hf:ga t) (hh:tL t h) (hb:tU h):fT t h=some (afA t h,0):=by
  have hn:=hh.graph.nodes; have he:=hh.graph.au; have hE:=hf.au; unfold fT afA; rw[aT (aai hf hb),uF.2 hh,decide_eq_true rfl,cond_true,br (bk (by omega))]; have hlen:∀k,(adZ t h.graph k).length<=80:=λk=>by unfold adZ; rw[List.length_append]; have h1:=kF (t:=t) h.graph (k:Int) true (t.au.getD k default).src (t.au.getD k default).lB (t.au.getD k default).jd; have h2:=kF (t:=t) h.graph (k:Int) false (t.au.getD k default).dst (t.au.getD k default).qi (t.au.getD k default).mg; omega
  rw[jD t.au.length (adZ t h.graph) 80 (λk _=>hlen k) λi hi s hs cv=>?_]
  · rfl
  · simp only[List.length_nil] at hs; have hg:t.au.getD i default=t.au[i]:=by simp[hi]
    obtain⟨r1,r2⟩:=axr hf (hh.okT hf) hi; have hb1:80 * i<=80 * t.au.length:=Nat.mul_le_mul_left _ (by omega); have hs':s.length<=1000000:=by omega
    have key : ∀ (out : Bool) (kind low high : Int) (s : List cu) (cv : List cu → Option (List cu × Int)), s.length ≤ 2000000 → (0 ≤ kind ∧ kind < t.nodes.length) →
        (cU (h.graph.nodes.length<=fuel) <|
     bP (λapm (ach:(List cu)) yS aC0 =>
      thn (h.graph.nodes[apm]?) λaC1 =>
      thn (gN t aC1 kind) λaC2 =>
      cond aC2 (
       thn (eO h.graph ((i:Nat):Int) ((apm:Nat):Int) out) λapn =>
       cond (decide (apn<low)) (
        cU (ach.length+1<=68719476736) <|
        yS (ach++[(⟨((i:Nat):Int),((apm:Nat):Int),apn,out⟩:cu)])) <|
       cond (decide (0<=high)) (
        cond (decide (high<apn)) (
         cU (ach.length+1<=68719476736) <|
         yS (ach++[(⟨((i:Nat):Int),((apm:Nat):Int),apn,out⟩:cu)])) <|
        yS ach) <|
       yS ach) <|
      yS ach)
     (h.graph.nodes.length - 0) 0 s λach =>
     cv ach)=cv (s++p0 t h.graph (i:Int) out kind low high):=by
      intro out kind low high s cv hs hk; rw[br (bk (by omega))]; rw[jD h.graph.nodes.length (λj=>if axq t h.graph (i:Int) out kind low high j=true then [(⟨(i:Int),(j:Int),ac9 h.graph (i:Int) (j:Int) out,out⟩:cu)] else []) 1 (λi _=>by split<;>simp) λj hj s2 hs2 cv=>?_,jK]
      · rfl
      · have hgj:h.graph.nodes.getD j default=h.graph.nodes[j]:=by simp[hj]
        rw[bL hj,aT (axt hf hh.types (hh.az6 hj) hk.1),aT (azy h.graph (by omega) _ _ _),br (by omega)]; unfold axq; rw[hgj]; cases isB t h.graph.nodes[j] kind with
        | false=>simp
        | true=>simp only[cond_true,Bool.true_and]; all_goals(cases decide (ac9 h.graph (i:Int) (j:Int) out<low)<;>cases decide (0<=high)<;>cases decide (high<ac9 h.graph (i:Int) (j:Int) out)<;>simp<;>rfl)
    have h1:=kF (t:=t) h.graph (i:Int) true t.au[i].src t.au[i].lB t.au[i].jd; rw[bL hi,br (bk (by omega))]; rw[afx (r1:=s++p0 t h.graph (i:Int) true t.au[i].src t.au[i].lB t.au[i].jd) (r2:=s++p0 t h.graph (i:Int) true t.au[i].src t.au[i].lB t.au[i].jd++p0 t h.graph (i:Int) false t.au[i].dst t.au[i].qi t.au[i].mg) (λcv=>key true _ _ _ s cv (by omega) r1) (λcv=>key false _ _ _ _ cv (by rw[List.length_append]; omega) r2)]; unfold adZ; rw[hg,List.append_assoc]
end
end Go.Proofs.YtllicmcihlfajaaGreat
namespace Go.Proofs.YtllicmcihlfajaaGreat
open Go.cE
def fO (p q:aG):aG:=nA p (jL p q)
theorem nF {p q:aG} (hq:gm q):gm (jL p q) :=
 ⟨hq.rn,hq.re,by simp[jL]; exact hq.an,by simp[jL]; exact hq.ae,hq.va,hq.rv,λn hn=>by
  obtain⟨m,hm,rfl⟩:=List.mem_map.1 hn; exact hq.av m hm⟩
theorem uI {p q:aG} (hq:gm q):gm (nA p q):=⟨Nat.le_trans (List.length_filter_le _ _) hq.rn,Nat.le_trans (List.length_filter_le _ _) hq.re,hq.an,hq.ae,Nat.le_trans (List.length_filter_le _ _) hq.va,λn hn=>hq.rv n (List.mem_filter.1 hn).1,hq.av⟩
def tooMany (a:az) (p q:aG):Bool:=decide ((40:Int)<((bU a p).nodes.length:Int)+(fO p q).aQ.length - (fO p q).ax.length)||decide ((80:Int)<((bU a p).au.length:Int)+(fO p q).aM.length - (fO p q).aD.length)
def eS (t:Types) (a:az) (p q:aG):az×Int:=if tooMany a p q=true then (jy,3) else mU t (bU a p) (fO p q)
section
variable {t:Types} {a:az} {p q:aG}
theorem cQ.agd (h:cQ t a p) (hb:tU a.host) (hp:gm p):jJ (bU a p):=h.small.add (aom h.tk hb) hp _
theorem ahh (p q:aG):(fO p q).aQ.length=q.aQ.length/\(fO p q).aM.length=q.aM.length/\(fO p q).ax.length<=q.ax.length/\(fO p q).aD.length<=q.aD.length:=⟨by simp[fO,nA,jL],by simp[fO,nA,jL],List.length_filter_le _ _,List.length_filter_le _ _⟩
theorem tQ (ht:ga t) (h:wK t a p q) (hb:jJ a) (hp:gm p) (hq:gm q):∃x,jW t a p q=some (x,(eS t a p q).1,(eS t a p q).2)/\((eS t a p q).2=0->x=bU a p):=by
 have hx:=h.ap.agd hb.host hp; have e1:=h.ap.ok.n40; have e2:=h.ap.ok.e80; obtain⟨r1,r2,r3,r4⟩:=ahh p q; have s1:=h.aq.small.an; have s2:=h.aq.small.ae; have s3:=h.aq.small.rn; have s4:=h.aq.small.re; unfold jW eS tooMany; rw[aT (ab9 ht hb hp),nR h.ap,decide_eq_true rfl,cond_true,aT (xB h.azx hq),aT (adX hp (nF hq))]; rw[show nA p (jL p q)=fO p q from rfl]; dsimp only; rw[gT (n:=(((bU a p).nodes.length:Nat):Int)+(((fO p q).aQ.length:Nat):Int)) (by omega),gT (n:=(((bU a p).nodes.length:Nat):Int)+(((fO p q).aQ.length:Nat):Int) - (((fO p q).ax.length:Nat):Int)) (by omega)]; rw[gT (n:=(((bU a p).au.length:Nat):Int)+(((fO p q).aM.length:Nat):Int)) (by omega),gT (n:=(((bU a p).au.length:Nat):Int)+(((fO p q).aM.length:Nat):Int) - (((fO p q).aD.length:Nat):Int)) (by omega)]; cases h1:decide ((40:Int)<(((bU a p).nodes.length:Nat):Int)+(((fO p q).aQ.length:Nat):Int) - (((fO p q).ax.length:Nat):Int)) with
 | true=>exact⟨jy,by rw[cond_true]; rfl,λh=>by cases h⟩
 | false =>
  rw[cond_false,Bool.false_or]; cases h2:decide ((80:Int)<(((bU a p).au.length:Nat):Int)+(((fO p q).aM.length:Nat):Int) - (((fO p q).aD.length:Nat):Int)) with
  | true=>exact⟨jy,by rw[cond_true]; rfl,λh=>by cases h⟩
  | false=>rw[cond_false,aT (show eD t (bU a p) (fO p q)=_ from ab9 ht hx (uI (nF hq)))]; exact⟨bU a p,rfl,λ_=>rfl⟩
def axu (p q:aG):Prop:=(∀v∈q.values,dy p v.id=false)/\∀v∈p.values,dy q v.id=false
theorem adA:∀ (r:List aO) (l:List aj) (n:aj),n∈l->(∀v∈r,v.id≠n.id)->n∈(gl l r).1
 | [],l,n,h,_=>h
 | v :: r,l,n,h,hv=>by
  have hp:rF v n=n:=by unfold rF; rw[if_neg]; unfold lR; rw[decide_eq_false λe=>hv v (List.mem_cons_self ..) e.symm,Bool.false_and]; simp
  have h':n∈l.map (rF v):=List.mem_map.2 ⟨n,h,hp⟩; rw[gl]; split
  ·exact adA r _ n h' λw hw=>hv w (List.mem_cons_of_mem _ hw)
  ·exact h'
theorem cQ.keep (h:cQ t a p) {n:aj} (hn:n∈bZ a) (hr:dy p n.id=false) (hv:∀v∈p.values,v.id≠n.id):n∈mo a p:=by
 refine adA _ _ n (List.mem_filter.2 ⟨hn,?_⟩) hv; cases hx:p.ax.any λm=>eB n m with
 | false=>rfl
 | true=>obtain⟨m,hm,e⟩:=List.any_eq_true.1 hx; have:=sR.1 e; subst this; rw[wM.2 ⟨n,hm,rfl⟩] at hr; cases hr
theorem as2 {a:az} {p:aG} {k:Nat} (hk:k<(bU a p).nodes.length):∃h1:k<(kR (mo a p++p.aQ)).length,∃h2:k<(bU a p).host.values.length,(bU a p).nodes[k]=(kR (mo a p++p.aQ))[k].id/\(bU a p).host.values[k]=(kR (mo a p++p.aQ))[k].values:=by
 have h1:k<(kR (mo a p++p.aQ)).length:=by simpa[bU,gD] using hk
 exact⟨h1,by simpa[bU,gD] using h1,by simp[bU,gD],by simp[bU,gD]⟩
theorem cQ.agc (h:cQ t a p):iK aj.id (kR (mo a p++p.aQ)):=iK.apd (f:=id) h.ok.nid.2
theorem cQ.ald (h:cQ t a p):iK ak.id (nW (pE a p++p.aM)):=iK.apd (f:=id) h.ok.eid.2
theorem ada (ht:ga t) (h:wK t a p q) (hb:jJ a) (hp:gm p) (hq:gm q) (hc:axu p q):dF t a p q=some (eS t a p q):=by
 have hx:=h.ap.agd hb.host hp; have e1:=h.ap.ok.n40; have e2:=h.ap.ok.e80; obtain⟨r1,r2,r3,r4⟩:=ahh p q; have s1:=h.aq.small.an; have s2:=h.aq.small.ae; have s3:=h.aq.small.rn; have s4:=h.aq.small.re; unfold dF eS tooMany; rw[aT (tN ht hb hp),nR h.ap,decide_eq_true rfl,cond_true]; rw[aT (show dV ⟨p.ax,p.aD,p.aQ,p.aM,p.values,p.next⟩ q=_ from ahg h.azx hq)]; rw[aT (show gi ⟨p.ax,p.aD,p.aQ,p.aM,p.values,p.next⟩ _=_ from aA3 hp (nF hq))]; rw[show nA p (jL p q)=fO p q from rfl]; dsimp only; have aC3:(bU a p).host.values.length=(bU a p).nodes.length:=by simp[bU,gD]
 have hW:dA (fO p q) (bU a p)=some (fO p q):=adY (uI (nF hq)) (by omega) aC3 λn hn k hk he=>by
  obtain⟨hn1,hn2⟩:=List.mem_filter.1 hn; have hnp:dy p n.id=false:=by simpa[dy] using hn2
  have hmid:n∈mo a p:=h.ap.keep (h.aq.apj hn1) hnp λv hv e=>by have:=hc.2 v hv; rw[e,wM (p:=q) |>.2 ⟨n,hn1,rfl⟩] at this; cases this
  obtain⟨k1,k2,k3,k4⟩:=as2 hk; rw[k4]; rw[k3] at he; rw[h.ap.agc.inj (List.getElem_mem k1) (sS.2 (List.mem_append_left _ hmid)) he]
 rw[aT hW]; rw[gT (n:=(((bU a p).nodes.length:Nat):Int) - (((fO p q).ax.length:Nat):Int)) (by omega),gT (n:=(((bU a p).nodes.length:Nat):Int) - (((fO p q).ax.length:Nat):Int)+(((fO p q).aQ.length:Nat):Int)) (by omega)]; rw[gT (n:=(((bU a p).au.length:Nat):Int) - (((fO p q).aD.length:Nat):Int)) (by omega),gT (n:=(((bU a p).au.length:Nat):Int) - (((fO p q).aD.length:Nat):Int)+(((fO p q).aM.length:Nat):Int)) (by omega)]; rw[show (((bU a p).nodes.length:Nat):Int) - (((fO p q).ax.length:Nat):Int)+(((fO p q).aQ.length:Nat):Int)=(((bU a p).nodes.length:Nat):Int)+(((fO p q).aQ.length:Nat):Int) - (((fO p q).ax.length:Nat):Int) by omega]; rw[show (((bU a p).au.length:Nat):Int) - (((fO p q).aD.length:Nat):Int)+(((fO p q).aM.length:Nat):Int)=(((bU a p).au.length:Nat):Int)+(((fO p q).aM.length:Nat):Int) - (((fO p q).aD.length:Nat):Int) by omega]; cases h1:decide ((40:Int)<(((bU a p).nodes.length:Nat):Int)+(((fO p q).aQ.length:Nat):Int) - (((fO p q).ax.length:Nat):Int)) with
 | true=>rw[cond_true]; rfl
 | false =>
  rw[cond_false,Bool.false_or]; cases h2:decide ((80:Int)<(((bU a p).au.length:Nat):Int)+(((fO p q).aM.length:Nat):Int) - (((fO p q).aD.length:Nat):Int)) with
  | true=>rw[cond_true]; rfl
  | false=>rw[cond_false,aT (show bE ⟨t.nodes,t.au⟩ (bU a p) (fO p q)=_ from tN ht hx (uI (nF hq)))]; rfl
theorem as3 (h:pe a p q=[]) (hp:cQ t a p) (hq:cQ t a q):axu p q/\(∀id,dy p id=true->xA q id=false)/\(∀id,dy q id=true->xA p id=false)/\∀v∈p.values,∀w∈q.values,v.id=w.id->v.attr=w.attr->v.new=w.new:=by
 rw[<-vJ hp hq] at h; unfold ahd at h; obtain⟨h12,h3⟩:=List.append_eq_nil_iff.1 h; obtain⟨h1,h2⟩:=List.append_eq_nil_iff.1 h12; have nil_of:∀ {K:Int} {l:List aI},(∀x∈l,x.kind=K)->gn l=[]->∀x,x ∉ l:=λ{K l} hk ho x hx=>by
  have:=(aaj hk).2 x |>.2 hx
  rw[ho] at this; cases this
 have n1:=nil_of (K:=1) (λx hx=>by rcases List.mem_append.1 hx with h | h<;>(obtain⟨id,_,_,rfl⟩:=rH.1 h; rfl)) h1; have n2:=nil_of (K:=2) (λx hx=>by rcases List.mem_append.1 hx with h | h<;>(obtain⟨id,_,_,rfl⟩:=rI.1 h; rfl)) h2; have n3:=nil_of (K:=3) (λx hx=>by obtain⟨v,_,_,_,_,_,_,rfl⟩:=yR.1 hx; rfl) h3; refine⟨⟨λv hv=>?_,λv hv=>?_⟩,λid hr=>?_,λid hr=>?_,λv hv w hw h1 h2=>?_⟩
 ·cases hr:dy p v.id with
  | false=>rfl
  | true=>exact absurd (List.mem_append_left _ (rI.2 ⟨v,hv,hr,rfl⟩)) (n2 _)
 ·cases hr:dy q v.id with
  | false=>rfl
  | true=>exact absurd (List.mem_append_right _ (rI.2 ⟨v,hv,hr,rfl⟩)) (n2 _)
 ·cases hu:xA q id with
  | false=>rfl
  | true=>exact absurd (List.mem_append_left _ (rH.2 ⟨id,hr,hu,rfl⟩)) (n1 _)
 ·cases hu:xA p id with
  | false=>rfl
  | true=>exact absurd (List.mem_append_right _ (rH.2 ⟨id,hr,hu,rfl⟩)) (n1 _)
 ·by_cases he:v.new=w.new
  ·exact he
  ·exact absurd (yR.2 ⟨v,hv,w,hw,h1,h2,he,rfl⟩) (n3 _)
theorem pg {x0 d:Int} (hd:0<=d) {m n:Int} (h:m<n):iP x0 d m<iP x0 d n:=by unfold iP; split<;>split<;>omega
theorem aa0 {x0 d:Int} (hd:0<=d) {m n:Int} (h:iP x0 d m=iP x0 d n):m=n:=by unfold iP at h; split at h<;>split at h<;>omega
theorem wN {x0 d m:Int} (h:m<x0):iP x0 d m=m:=by unfold iP; rw[if_neg (by omega)]
theorem ahi {l m:List aj} (h1:iK aj.id l) (h2:iK aj.id m) (h:∀a∈l,∀b∈m,a.id<b.id):kR (l++m)=l++m:=(ac2 (lQ h1 h2 λa ha b hb=>by have:=h a ha b hb; omega)).ext (h1.app h2 h) λx=>sS
theorem ahj {l m:List ak} (h1:iK ak.id l) (h2:iK ak.id m) (h:∀a∈l,∀b∈m,a.id<b.id):nW (l++m)=l++m:=(ac3 (lQ h1 h2 λa ha b hb=>by have:=h a ha b hb; omega)).ext (h1.app h2 h) λx=>vG
theorem aok.ids {l m:List aj} (h:aok l m):l.map aj.id=m.map aj.id:=by have:=congrArg (List.map λx:Int×Int×Nat=>x.1) h; rw[List.map_map,List.map_map] at this; exact this
theorem apo {n:aj} (hn:n∈mo a p):n.id∈a.nodes:=by have:n.id∈(mo a p).map aj.id:=List.mem_map_of_mem hn; unfold mo at this; rw[(yO _ _).ids] at this; obtain⟨m,hm,e⟩:=List.mem_map.1 this; rw[<-e]; exact aon (List.mem_filter.1 hm).1
theorem apq {n:ak} (hn:n∈pE a p):n.id∈a.au:=azs (List.mem_filter.1 hn).1
theorem ahk (h:jo t a) {e:ak} (he:e∈pE a p):e.src<a.next/\e.dst<a.next:=by
 obtain⟨i,hi,rfl⟩:=List.mem_map.1 (List.mem_filter.1 he).1; have hi:i<a.au.length:=by simpa using hi
 have hE:=h.host.graph.je i (by rw[<-h.asQ]; exact hi); rw[<-h.vH] at hE; unfold eR; have g:∀n:Int,0<=n->n<(a.nodes.length:Int)->a.nodes.getD n.toNat default<a.next:=λn h0 h1=>by
  have hlt:n.toNat<a.nodes.length:=by omega
  have:=(h.nid.1 _ (List.getElem_mem hlt)).2; simpa[hlt] using this
 exact⟨g _ hE.2.1.1 hE.2.1.2,g _ hE.2.2.1 hE.2.2.2⟩
theorem afB {f:Int->Int} (hf:∀m n,f m=f n->m=n) (ids:List Int) (n:Int):cr (ids.map f) (f n)=cr ids n:=by
 unfold cr wD; rw[List.findIdx?_map]; have:((λy=>decide (y=f n)) ∘ f)=λy=>decide (y=n):=by funext y; simp only[Function.comp,decide_eq_decide]; exact⟨λh=>hf _ _ h,λh=>by rw[h]⟩
 rw[this]
def aiP (p q:aG) (n0:Int):aG:=⟨q.ax,q.aD,q.aQ.map (oe q.next.x0 (p.next.x1 - p.next.x0)),q.aM.map (nE q.next.x0 (p.next.x1 - p.next.x0)),q.values,⟨n0,p.next.x1+q.next.x1 - q.next.x0⟩⟩
def jb (a:az) (p q:aG):az:=bU a (aiP p q 0)
theorem adb (h:wK t a p q):jb a p q=⟨(bU a q).host,(bU a q).nodes.map (iP q.next.x0 (p.next.x1 - p.next.x0)),(bU a q).au.map (iP q.next.x0 (p.next.x1 - p.next.x0)),p.next.x1+q.next.x1 - q.next.x0⟩/\kR (mo a q++q.aQ)=mo a q++q.aQ/\nW (pE a q++q.aM)=pE a q++q.aM:=by
 have hd:0<=p.next.x1 - p.next.x0:=by have:=h.gp.next; omega
 have hN:∀m∈mo a q,m.id<q.next.x0:=λm hm=>by rw[h.aq.next]; exact (h.aq.tk.nid.1 _ (apo hm)).2
 have hE:∀m∈pE a q,m.id<q.next.x0:=λm hm=>by rw[h.aq.next]; exact (h.aq.tk.eid.1 _ (apq hm)).2
 have aN:iK aj.id (mo a q):=aaV _ _ (yN h.aq.tk.agc); have aE:iK ak.id (pE a q):=yN h.aq.tk.ald; have s1:kR (mo a q++q.aQ)=mo a q++q.aQ:=ahi aN h.aq.ord.an λx hx y hy=>by have:=hN x hx; have:=h.gq.n y hy; omega
 have s2:nW (pE a q++q.aM)=pE a q++q.aM:=ahj aE h.aq.ord.ae λx hx y hy=>by have:=hE x hx; have:=h.gq.e y hy; omega
 have mN:iK aj.id (q.aQ.map (oe q.next.x0 (p.next.x1 - p.next.x0))):=iK.map (List.Pairwise.imp (λh=>pg hd h) h.aq.ord.an); have mE:iK ak.id (q.aM.map (nE q.next.x0 (p.next.x1 - p.next.x0))):=iK.map (List.Pairwise.imp (λh=>pg hd h) h.aq.ord.ae); have t1:kR (mo a q++q.aQ.map (oe q.next.x0 (p.next.x1 - p.next.x0)))=mo a q++q.aQ.map (oe q.next.x0 (p.next.x1 - p.next.x0)):=ahi aN mN λx hx y hy=>by obtain⟨z,hz,rfl⟩:=List.mem_map.1 hy; have h1:=hN x hx; have h2:=h.gq.n z hz; simp only[oe,iP]; rw[if_pos h2]; omega
 have t2:nW (pE a q++q.aM.map (nE q.next.x0 (p.next.x1 - p.next.x0)))=pE a q++q.aM.map (nE q.next.x0 (p.next.x1 - p.next.x0)):=ahj aE mE λx hx y hy=>by obtain⟨z,hz,rfl⟩:=List.mem_map.1 hy; have h1:=hE x hx; have h2:=h.gq.e z hz; simp only[nE,iP]; rw[if_pos h2]; omega
 have aGg:(mo a q).map (oe q.next.x0 (p.next.x1 - p.next.x0))=mo a q:=by
  have:∀l:List aj,(∀m∈l,m.id<q.next.x0)->l.map (oe q.next.x0 (p.next.x1 - p.next.x0))=l:=λl hl=>by
   induction l with
   | nil=>rfl
   | cons x l ih=>rw[List.map_cons,ih λm hm=>hl m (List.mem_cons_of_mem _ hm)]; congr 1; unfold oe; rw[wN (hl x (List.mem_cons_self ..))]
  exact this _ hN
 have aGh:(pE a q).map (nE q.next.x0 (p.next.x1 - p.next.x0))=pE a q:=by
  have:∀l:List ak,(∀m∈l,m.id<q.next.x0/\m.src<q.next.x0/\m.dst<q.next.x0)->l.map (nE q.next.x0 (p.next.x1 - p.next.x0))=l:=λl hl=>by
   induction l with
   | nil=>rfl
   | cons x l ih=>rw[List.map_cons,ih λm hm=>hl m (List.mem_cons_of_mem _ hm)]; obtain⟨h1,h2,h3⟩:=hl x (List.mem_cons_self ..); congr 1; unfold nE; rw[wN h1,wN h2,wN h3]
  exact this _ λm hm=>⟨hE m hm,by rw[h.aq.next]; exact (ahk h.aq.tk hm).1,by rw[h.aq.next]; exact (ahk h.aq.tk hm).2⟩
 refine⟨?_,s1,s2⟩; show gD (kR (mo a q++q.aQ.map (oe q.next.x0 (p.next.x1 - p.next.x0)))) (nW (pE a q++q.aM.map (nE q.next.x0 (p.next.x1 - p.next.x0)))) _=_; unfold bU; rw[t1,t2,s1,s2]; have eN:mo a q++q.aQ.map (oe q.next.x0 (p.next.x1 - p.next.x0))=(mo a q++q.aQ).map (oe q.next.x0 (p.next.x1 - p.next.x0)):=by rw[List.map_append,aGg]
 have eE:pE a q++q.aM.map (nE q.next.x0 (p.next.x1 - p.next.x0))=(pE a q++q.aM).map (nE q.next.x0 (p.next.x1 - p.next.x0)):=by rw[List.map_append,aGh]
 rw[eN,eE]; unfold gD; simp only[List.map_map,az.mk.injEq,Host.mk.injEq,dI.mk.injEq]; have ids:((mo a q++q.aQ).map (aj.id ∘ oe q.next.x0 (p.next.x1 - p.next.x0)))=((mo a q++q.aQ).map aj.id).map (iP q.next.x0 (p.next.x1 - p.next.x0)):=by rw[List.map_map]; rfl
 refine⟨⟨⟨rfl,?_⟩,rfl⟩,rfl,rfl,rfl⟩; rw[ids]; refine List.map_congr_left λe _=>?_
 show u9 _ (nE _ _ e)=u9 _ e; unfold u9 nE; simp only[Edge.mk.injEq]; exact⟨trivial,afB (λm n=>aa0 hd) _ _,afB (λm n=>aa0 hd) _ _⟩
theorem vK (h:wK t a p q):jo t (jb a p q):=by
 have hd:0<=p.next.x1 - p.next.x0:=by have:=h.gp.next; omega
 have ho:=h.aq.ok; have n1:=h.aq.n1; have n0:=h.aq.n0; have hg:=h.gq.next
 have hnx:=h.next
 have hp0:=h.ap.n0; have e0:p.next.x0=q.next.x0:=by rw[h.ap.next,h.aq.next]
 rw[(adb h).1]; have bound:∀m,0<=m/\m<q.next.x1->0<=iP q.next.x0 (p.next.x1 - p.next.x0) m/\iP q.next.x0 (p.next.x1 - p.next.x0) m<p.next.x1+q.next.x1 - q.next.x0:=λm hm=>by unfold iP; split<;>omega
 refine⟨ho.host,by simp only[List.length_map]; exact ho.vH,by simp only[List.length_map]; exact ho.asQ,⟨by simp only; omega,by simp only; omega⟩,⟨λm hm=>?_,?_⟩,⟨λm hm=>?_,?_⟩,λe he hn=>?_⟩
 ·obtain⟨x,hx,rfl⟩:=List.mem_map.1 hm; exact bound x (ho.nid.1 x hx)
 ·exact iK.map (List.Pairwise.imp (λh=>pg hd h) ho.nid.2)
 ·obtain⟨x,hx,rfl⟩:=List.mem_map.1 hm; exact bound x (ho.eid.1 x hx)
 ·exact iK.map (List.Pairwise.imp (λh=>pg hd h) ho.eid.2)
 ·obtain⟨x,hx,rfl⟩:=List.mem_map.1 he; obtain⟨y,hy,e⟩:=List.mem_map.1 hn; have:=aa0 hd e; subst this; exact ho.apart y hx hy
theorem aal (h:wK t a p q) {n0:Int} (hT:jo t ⟨a.host,a.nodes,a.au,n0⟩):cQ t ⟨a.host,a.nodes,a.au,n0⟩ (aiP p q n0):=by
 have hd:0<=p.next.x1 - p.next.x0:=by have:=h.gp.next; omega
 have hs:=h.aq.small; have ho:=h.aq.ord; refine⟨hT,⟨hs.rn,hs.re,by simp[aiP]; exact hs.an,by simp[aiP]; exact hs.ae,hs.va⟩,⟨ho.rn,ho.re,iK.map (List.Pairwise.imp (λh=>pg hd h) ho.an),iK.map (List.Pairwise.imp (λh=>pg hd h) ho.ae),ho.va⟩,rfl,h.aq.rn,h.aq.re,h.aq.va,?_,(show jo t (jb a p q) from vK h)⟩; have hN:∀m∈mo a q,m.id<q.next.x0:=λm hm=>by rw[h.aq.next]; exact (h.aq.tk.nid.1 _ (apo hm)).2
 have hE:∀m∈pE a q,m.id<q.next.x0:=λm hm=>by rw[h.aq.next]; exact (h.aq.tk.eid.1 _ (apq hm)).2
 have free:∀m,q.next.x0<=m->kI (mo a q) (pE a q) (iP q.next.x0 (p.next.x1 - p.next.x0) m)=false:=λm hm=>by unfold kI iP; rw[if_pos hm,Bool.or_eq_false_iff]; simp only[List.any_eq_false,decide_eq_true_eq]; exact⟨λx hx e=>by have:=hN x hx; omega,λx hx e=>by have:=hE x hx; omega⟩
 show gr (mo a q) (pE a q) _=false; unfold gr; rw[Bool.or_eq_false_iff]; simp only[List.any_eq_false]; refine⟨λx hx=>?_,λx hx=>?_⟩
 ·obtain⟨z,hz,rfl⟩:=List.mem_map.1 hx; rw[show (oe q.next.x0 (p.next.x1 - p.next.x0) z).id=iP q.next.x0 (p.next.x1 - p.next.x0) z.id from rfl,free _ (h.gq.n z hz)]; simp
 ·obtain⟨z,hz,rfl⟩:=List.mem_map.1 hx; rw[show (nE q.next.x0 (p.next.x1 - p.next.x0) z).id=iP q.next.x0 (p.next.x1 - p.next.x0) z.id from rfl,free _ (h.gq.e z hz)]; simp
theorem age (ht:ga t) (h:wK t a p q) (hb:jJ a) (hp:gm p) (hq:gm q):oD t a p q=some (jb a p q,0):=by have hA:=aal h (n0:=a.next) h.ap.tk; unfold oD; rw[aT (xB h.azx hq)]; have hsb:=nF (p:=p) hq; rw[aT (show eD t a ⟨(jL p q).ax,(jL p q).aD,(jL p q).aQ,(jL p q).aM,(jL p q).values,⟨a.next,(jL p q).next.x1⟩⟩=_ from ab9 ht hb ⟨hsb.rn,hsb.re,hsb.an,hsb.ae,hsb.va,hsb.rv,hsb.av⟩)]; have e:mU t a ⟨(jL p q).ax,(jL p q).aD,(jL p q).aQ,(jL p q).aM,(jL p q).values,⟨a.next,(jL p q).next.x1⟩⟩=(jb a p q,0):=nR hA; rw[e]
theorem axv (ht:ga t) (h:wK t a p q) (hb:jJ a) (hq:gm q):bE t ⟨a.host,a.nodes,a.au,p.next.x1⟩ (jL p q)=some (jb a p q,0):=by
 have ha:=h.ap.tk; have hx:=h.ap.n1; have hg:=h.gp.next
 rw[h.ap.next] at hg; have hT:jo t ⟨a.host,a.nodes,a.au,p.next.x1⟩:=⟨ha.host,ha.vH,ha.asQ,hx,⟨λn hn=>by have:=ha.nid.1 n hn; simp only; omega,ha.nid.2⟩,⟨λn hn=>by have:=ha.eid.1 n hn; simp only; omega,ha.eid.2⟩,ha.apart⟩; have hA:=aal h hT; refine (tN ht (a:=⟨a.host,a.nodes,a.au,p.next.x1⟩) ⟨hb.host,hb.nodes,hb.au⟩ (nF hq)).trans ?_; congr 1; exact nR hA
end
end Go.Proofs.YtllicmcihlfajaaGreat
namespace Go.Proofs.YtllicmcihlfajaaGreat
open Go.cE
def fW (t:Types) (x:az):List bn:=(afA t x.host).map λy=>⟨x.nodes.getD y.node.toNat default,y.je,y.out⟩
def toR (v:bn):bG:=⟨v.id,v.je,v.out⟩
section
variable {t:Types} {x:az}
theorem afC {h:Host} {y:cu} (hy:y∈afA t h):∃k i:Nat,k<t.au.length/\i<h.graph.nodes.length/\y.je=(k:Int)/\y.node=(i:Int):=by
 unfold afA adZ p0 at hy; obtain⟨k,hk,hy⟩:=List.mem_flatMap.1 hy; have hk:=List.mem_range.1 hk; rcases List.mem_append.1 hy with hy | hy
 ·obtain⟨i,hi,rfl⟩:=List.mem_map.1 hy; exact⟨k,i,hk,List.mem_range.1 (List.mem_filter.1 hi).1,rfl,rfl⟩
 ·obtain⟨i,hi,rfl⟩:=List.mem_map.1 hy; exact⟨k,i,hk,List.mem_range.1 (List.mem_filter.1 hi).1,rfl,rfl⟩
theorem afD (hf:ga t) (hx:jo t x):(afA t x.host).length<=100000:=by
 have hE:=hf.au; have hn:=hx.host.graph.nodes; have:=ace (adZ t x.host.graph) (List.range t.au.length) [] 80 λk _=>by unfold adZ; rw[List.length_append]; have h1:=kF (t:=t) x.host.graph (k:Int) true (t.au.getD k default).src (t.au.getD k default).lB (t.au.getD k default).jd; have h2:=kF (t:=t) x.host.graph (k:Int) false (t.au.getD k default).dst (t.au.getD k default).qi (t.au.getD k default).mg; omega
 rw[sU,List.length_range] at this; simp only[List.nil_append,List.length_nil] at this; unfold afA; omega
theorem pK (hf:ga t) (hx:jo t x):(fW t x).length<=100000:=by unfold fW; rw[List.length_map]; exact afD hf hx
theorem apr (hx:jo t x) {v:bn} (hv:v∈fW t x):v.id∈x.nodes/\∃k:Nat,k<t.au.length/\v.je=(k:Int):=by
 unfold fW at hv; obtain⟨y,hy,rfl⟩:=List.mem_map.1 hv; obtain⟨k,i,hk,hi,e1,e2⟩:=afC hy; have hi':i<x.nodes.length:=by rw[hx.vH]; exact hi
 refine⟨?_,k,hk,e1⟩; rw[e2]; simp[hi']
theorem nS (hf:ga t) (hx:jo t x) (hb:jJ x):ig t x=some (fW t x):=by
 have hl:=afD hf hx; unfold ig fW; rw[aT (aos hf hx.host hb.host),br (bk (by simp only; omega))]; rw[jr (afA t x.host) (λy=>[(⟨x.nodes.getD y.node.toNat default,y.je,y.out⟩:bn)]) 1 (λ_ _=>by simp) λi hi s hs cv=>?_,uG]
 ·rfl
 ·obtain⟨k,j,hk,hj,e1,e2⟩:=afC (List.getElem_mem hi); have hj':j<x.nodes.length:=by rw[hx.vH]; exact hj
  simp only[List.length_nil] at hs; rw[bL hi,fQ (by omega) (by omega),br (by omega)]; simp[e2,hj']
theorem uJ (hf:ga t) (hx:jo t x) (hb:jJ x):dc t x=some ((fW t x).map toR):=by
 have hl:=afD hf hx; unfold dc fW; rw[aT (alu hf hx.host hb.host),br (bk (by simp only; omega))]; rw[jr (afA t x.host) (λy=>[(⟨x.nodes.getD y.node.toNat default,y.je,y.out⟩:bG)]) 1 (λ_ _=>by simp) λi hi s hs cv=>?_,uG]
 ·rw[List.map_map]; rfl
 ·obtain⟨k,j,hk,hj,e1,e2⟩:=afC (List.getElem_mem hi); have hj':j<x.nodes.length:=by rw[hx.vH]; exact hj
  simp only[List.length_nil] at hs; rw[bL hi,fQ (by omega) (by omega),br (by omega)]; simp[e2,hj']
end
def eqX (v w:bn):Bool:=decide (v.id=w.id)&&(decide (v.je=w.je)&&(v.out == w.out))
theorem axw (v w:bn):eqX v w=eqX w v:=by unfold eqX; rw[Bool.eq_iff_iff]; simp only[Bool.and_eq_true,decide_eq_true_eq,beq_iff_eq]; exact⟨λ⟨a,b,c⟩=>⟨a.symm,b.symm,c.symm⟩,λ⟨a,b,c⟩=>⟨a.symm,b.symm,c.symm⟩⟩
def qO (t:Types) (a x z:az) (v:bn):Bool:=(fW t a++fW t x++fW t z).any λw=>eqX v w
def aot (t:Types) (a x z y:az):List aI:=((fW t y).filter λv=>!qO t a x z v).map λv=>⟨4,v.id,v.je⟩
def axx (t:Types) (a x z y:az):List aI:=(List.range y.nodes.length).flatMap λi=>((List.range t.au.length).filter λk:Nat=>(fW t y).any λv=>decide (v.id=y.nodes.getD i default)&&(decide (v.je=(k:Int)) && !qO t a x z v)).map λk:Nat=>⟨4,y.nodes.getD i default,(k:Int)⟩
section
variable {t:Types} {a x y z:az} {p q:aG}
theorem alv (hy:jo t y):gn (aot t a x z y)=axx t a x z y:=by
 refine wL (K:=4) (λc hc=>?_) ?_ λc=>?_
 ·obtain⟨v,_,rfl⟩:=List.mem_map.1 hc; rfl
 ·unfold axx; rw[List.pairwise_flatMap]; constructor
  ·intro i _; rw[List.pairwise_map]; exact (List.Pairwise.sublist List.filter_sublist List.pairwise_lt_range).imp λh=>.inr ⟨rfl,by simp only; omega⟩
  ·refine List.Pairwise.imp_of_mem ?_ (List.pairwise_lt_range (n:=y.nodes.length)); intro i j hi hj hij c hc d hd; have hi:=List.mem_range.1 hi; have hj:=List.mem_range.1 hj; obtain⟨k,_,rfl⟩:=List.mem_map.1 hc; obtain⟨m,_,rfl⟩:=List.mem_map.1 hd; left; have:=hy.nid.2.ab4 hij hj; simpa[hi,hj] using this
 ·unfold aot axx; simp only[List.mem_map,List.mem_filter,List.mem_flatMap,List.mem_range,List.any_eq_true,Bool.and_eq_true,decide_eq_true_eq]; constructor
  ·rintro⟨v,⟨hv,hn⟩,rfl⟩; obtain⟨h1,k,hk,h2⟩:=apr hy hv; obtain⟨i,hi,e⟩:=List.getElem_of_mem h1; have hg:y.nodes.getD i default=v.id:=by rw[<-e]; simp[hi]
   exact⟨i,hi,k,⟨hk,v,hv,hg.symm,h2,hn⟩,by rw[hg,h2]⟩
  ·rintro⟨i,hi,k,⟨hk,v,hv,e1,e2,hn⟩,rfl⟩; exact⟨v,⟨hv,hn⟩,by rw[e1,e2]⟩
theorem agf {l:List bn} (hl:l.length<=1000000) (v:bn):eH l v=some (l.any λw=>eqX v w):=by
 unfold eH; rw[aT (show fK l v=some (wD (λw=>eqX v w) l) by
  unfold fK; rw[br (bk (by omega))]; exact vE l _ (λi hi cv=>by rw[bL hi]; rfl) rfl),wE]
theorem aGi {l:List bn} (hl:l.length<=1000000) (v:bn):fU (l.map toR) (toR v)=some (l.any λw=>eqX v w):=by
 unfold fU; rw[br (bk (by rw[List.length_map]; omega))]; rw[acd (b:=λw=>eqX v ⟨w.id,w.je,w.out⟩) (λi hi cv=>?_) rfl,List.any_map]
 ·rfl
 ·rw[bL hi]; congr 1; have:=axw v ⟨(l.map toR)[i].id,(l.map toR)[i].je,(l.map toR)[i].out⟩; rw[this]; rfl
theorem as4 {n:Int} (h:0<=n/\n<=1000000):jV ([]:List bn) n=some []:=ql ⟨rfl,by omega⟩
theorem aou (x y z:List bn) (h:x.length<=300000/\y.length<=300000/\z.length<=300000):fk [x,y,z]=some (x++y++z):=by unfold fk; rw[br (bk (by simp))]; show bP _ 3 0 0 _=_; simp only[bP,List.getElem?_cons_zero,List.getElem?_cons_succ,mH]; rw[gT (n:=0+((x.length:Nat):Int)) (by omega),decide_eq_false (by omega),cond_false]; rw[gT (n:=0+((x.length:Nat):Int)+((y.length:Nat):Int)) (by omega),decide_eq_false (by omega),cond_false]; rw[gT (n:=0+((x.length:Nat):Int)+((y.length:Nat):Int)+((z.length:Nat):Int)) (by omega),decide_eq_false (by omega),cond_false]; rw[aT (as4 (by omega)),br (bk (by simp))]; show bP _ 3 0 [] _=_; simp only[bP,List.getElem?_cons_zero,List.getElem?_cons_succ,mH]; rw[br (by simp; omega),br (by simp; omega),br (by simp; omega)]; simp
theorem wK.alw (h:wK t a p q) (hb:jJ a) (hq:gm q):jJ (jb a p q):=by have:=h.aq.agd hb.host hq; rw[(adb h).1]; exact⟨this.host,by simp only[List.length_map]; exact this.nodes,by simp only[List.length_map]; exact this.au⟩
def ad0 (t:Types) (a:az) (p q:aG) (y:az):List aI:=axx t a (bU a p) (jb a p q) y
theorem yT (ht:ga t) (h:wK t a p q) (hb:jJ a) (hp:gm p) (hq:gm q) (hy:jo t y) (hby:jJ y):lH t a p q (bU a p) y=some (ad0 t a p q y,0):=by
 have hx:=h.ap.agd hb.host hp; have hz:=h.alw hb hq; have n1:=pK ht h.ap.tk; have n2:=pK ht h.ap.ok; have n3:=pK ht (vK h); have n4:=pK ht hy; unfold lH ad0; rw[aT (age ht h hb hp hq),decide_eq_true rfl,cond_true,aT (nS ht h.ap.tk hb),aT (nS ht h.ap.ok hx),aT (nS ht (vK h) hz),aT (aou _ _ _ ⟨by omega,by omega,by omega⟩),aT (nS ht hy hby),br (bk (by omega))]; have hlen:(fW t a++fW t (bU a p)++fW t (jb a p q)).length<=1000000:=by rw[List.length_append,List.length_append]; omega
 rw[jr (fW t y) (λv=>if qO t a (bU a p) (jb a p q) v=true then [] else [(⟨4,v.id,v.je⟩:aI)]) 1 (λ_ _=>by split<;>simp) λi hi s hs cv=>?_]
 ·have e:((fW t y).flatMap λv=>if qO t a (bU a p) (jb a p q) v=true then [] else [(⟨4,v.id,v.je⟩:aI)])=aot t a (bU a p) (jb a p q) y:=by unfold aot; rw[<-jK]; congr 1; funext v; cases qO t a (bU a p) (jb a p q) v<;>rfl
  rw[List.nil_append,e]; rw[aT (show gQ (aot t a (bU a p) (jb a p q) y)=_ from ql ⟨by
   unfold aot; rw[List.length_map]; exact Nat.le_trans (List.length_filter_le _ _) (by omega),4,λc hc=>by
    obtain⟨v,hv,rfl⟩:=List.mem_map.1 hc; obtain⟨h1,k,hk,h2⟩:=apr hy (List.mem_filter.1 hv).1; have h3:=hy.small h1; have hE:=ht.au; exact⟨rfl,by unfold od; simp only; omega⟩⟩),alv hy]
 ·simp only[List.length_nil] at hs; rw[bL hi,aT (agf hlen _),br (by omega)]; show cond (qO t a (bU a p) (jb a p q) (fW t y)[i]) _ _=_; cases qO t a (bU a p) (jb a p q) (fW t y)[i]<;>simp
theorem aci {x:az} (hx:jJ x):dD x=some x:=by
 have h1:=hx.nodes; have h2:=hx.au; have h3:=hx.host.graph.nodes; have h4:=hx.host.graph.au; have h5:=hx.host.values; unfold dD; rw[aT (show gP x.host=some x.host by
  unfold gP; rw[aT (show gO x.host.graph=some x.host.graph by unfold gO; rw[br (by omega),br (by omega)]),br (bk (by omega))]; rw[jr x.host.values (λl=>[l]) 1 (λ_ _=>by simp) λi hi s hs cv=>?_]
  ·simp
  ·have:=hx.host.row _ (List.getElem_mem hi); simp only[List.length_nil] at hs; rw[bL hi,br (by omega),br (by omega)]),br (by omega),br (by omega)]
theorem alx (ht:ga t) (h:wK t a p q) (hb:jJ a) (hp:gm p) (hq:gm q) (hy:jo t y) (hby:jJ y):fD t a p q y=some (ad0 t a p q y):=by
  have hx:=h.ap.agd hb.host hp; have hz:=h.alw hb hq; have n1:=pK ht h.ap.tk; have n2:=pK ht h.ap.ok; have n3:=pK ht (vK h); have n4:=pK ht hy; have hE:=ht.au; have hyn:=hy.n40; unfold fD ad0; rw[aT (tN ht hb hp),nR h.ap,aT (aci hb),aT (ahg h.azx hq),aT (axv ht h hb hq)]; rw[aT (uJ ht h.ap.tk hb),aT (uJ ht h.ap.ok hx),br (by simp only[List.length_map]; omega),aT (uJ ht (vK h) hz),br (by simp only[List.length_map]; omega),aT (uJ ht hy hby),br (bk (by omega))]; have hlen:(fW t a++fW t (bU a p)++fW t (jb a p q)).length<=1000000:=by rw[List.length_append,List.length_append]; omega
  have hmap:(fW t a).map toR++(fW t (bU a p)).map toR++(fW t (jb a p q)).map toR=(fW t a++fW t (bU a p)++fW t (jb a p q)).map toR:=by rw[List.map_append,List.map_append]
  rw[hmap]; unfold axx; rw[jD y.nodes.length (λi=>((List.range t.au.length).filter λk:Nat=>(fW t y).any λv=>decide (v.id=y.nodes.getD i default)&&(decide (v.je=(k:Int)) && !qO t a (bU a p) (jb a p q) v)).map λk:Nat=>(⟨4,y.nodes.getD i default,(k:Int)⟩:aI)) 1000 (λi hi=>by
    rw[List.length_map]; refine Nat.le_trans (List.length_filter_le _ _) ?_; rw[List.length_range]; omega) λi hi s hs cv=>?_]
  · rfl
  · have hg:y.nodes.getD i default=y.nodes[i]:=by simp[hi]
    simp only[List.length_nil] at hs; have hs':s.length<=100000:=by have:1000 * i<=1000 * 40:=Nat.mul_le_mul_left _ (by omega); omega
    rw[hg,br (bk (by omega))]; rw[jD t.au.length (λk=>if ((fW t y).any λv=>decide (v.id=y.nodes[i])&&(decide (v.je=(k:Int)) && !qO t a (bU a p) (jb a p q) v))=true then [(⟨4,y.nodes[i],(k:Int)⟩:aI)] else []) 1 (λ_ _=>by split<;>simp) λk hk s2 hs2 cv=>?_,jK]; rw[br (bk (by rw[List.length_map]; omega))]; have key:=(qN (O:=List aI) (K:=λaxy =>
   cond axy (
    thn (y.nodes[i]?) λaC4 =>
    cU (s2.length+1<=68719476736) <|
    cv (s2++[(⟨4,aC4,((k:Nat):Int)⟩:aI)])) <|
   cv s2) (s:=false) (f:=λaC5 (axy:Bool) acj aC6 =>
    cond axy (
     acj true) <|
    thn (((fW t y).map toR)[aC5]?) λaxz =>
    thn (y.nodes[i]?) λaC7 =>
    cond (decide (axz.id=aC7)) (
     cond (decide (axz.je=((k:Nat):Int))) (
      thn (fU ((fW t a++fW t (bU a p)++fW t (jb a p q)).map toR) axz) λaC8 =>
      acj (!aC8)) <|
     acj false) <|
    acj false) ((fW t y).map toR) (λb e=>b||(decide (e.id=y.nodes[i])&&(decide (e.je=(k:Int)) && !qO t a (bU a p) (jb a p q) ⟨e.id,e.je,e.out⟩))) (λ_ _=>True) trivial λj hj b _=>by
      refine⟨λcv=>?_,trivial⟩; cases b with
      | true=>rfl
      | false =>
        rw[cond_false,bL hj,bL hi,Bool.false_or]; have hin:=aGi hlen ⟨((fW t y).map toR)[j].id,((fW t y).map toR)[j].je,((fW t y).map toR)[j].out⟩; rw[aT (show fU _ ((fW t y).map toR)[j]=_ from hin)]; show cond _ (cond _ (cv (!qO t a (bU a p) (jb a p q) ⟨((fW t y).map toR)[j].id,((fW t y).map toR)[j].je,((fW t y).map toR)[j].out⟩)) _) _=_; cases decide (((fW t y).map toR)[j].id=y.nodes[i])<;>cases decide (((fW t y).map toR)[j].je=(k:Int))<;>rfl).1
    rw[key]; have fold_any:∀ (l:List bG) (b:Bool) (g:bG->Bool),l.foldl (λb e=>b||g e) b=(b||l.any g):=λl b g=>by
      induction l generalizing b with
      | nil=>simp
      | cons e l ih=>rw[List.foldl_cons,ih,List.any_cons,Bool.or_assoc]
    rw[fold_any,Bool.false_or,List.any_map]; show cond ((fW t y).any λv=>decide (v.id=y.nodes[i])&&(decide (v.je=(k:Int)) && !qO t a (bU a p) (jb a p q) v)) _ _=_; rw[bL hi,br (by omega)]; cases (fW t y).any λv=>decide (v.id=y.nodes[i])&&(decide (v.je=(k:Int)) && !qO t a (bU a p) (jb a p q) v)<;>simp
theorem as5 (h:(eS t a p q).2=0):eS t a p q=(bU (bU a p) (fO p q),0)/\cQ t (bU a p) (fO p q):=by
 unfold eS at h ⊢; split at h
 ·cases h
 ·rename_i hn; rw[if_neg hn]; exact⟨nR (mQ.1 h),mQ.1 h⟩
def yU (t:Types) (a:az) (p q:aG):List aI×Int :=
 if kM t a p q≠0 then ([],kM t a p q)
 else if 0<(pe a p q).length then (pe a p q,0)
 else if (eS t a p q).2≠0 then ([],(eS t a p q).2)
 else (ad0 t a p q (eS t a p q).1,0)
def wO (t:Types) (a:az) (p q:aG):az×Int :=
 if (eS t a p q).2≠0 then (jy,(eS t a p q).2)
 else if 0<(ad0 t a p q (eS t a p q).1).length then (jy,11)
 else ((eS t a p q).1,0)
def yV (t:Types) (a:az) (p q:aG):az×Int :=
 if kM t a p q≠0 then (jy,kM t a p q)
 else if 0<(pe a p q).length then (jy,11)
 else wO t a p q
theorem mq (hb:jJ a) (h:wK t a p q) (hp:gm p) (hq:gm q) (hm:(eS t a p q).2=0):jo t (eS t a p q).1/\jJ (eS t a p q).1:=by obtain⟨e,hA⟩:=as5 hm; rw[e]; exact⟨hA.ok,hA.agd (h.ap.agd hb.host hp).host (uI (nF hq))⟩
theorem adB (ht:ga t) (hb:jJ a) (hp:gm p) (hq:gm q):fL t a p q=some (yU t a p q):=by
 unfold fL yU; rw[aT (show jg ⟨t.nodes,t.au⟩ ⟨a.host,a.nodes,a.au,a.next⟩ p q=_ from vb ht hb hp hq),aW]; by_cases h0:kM t a p q=0; rotate_left
 ·rw[if_neg h0,if_pos h0]
 have h:=jq.1 h0; rw[if_pos h0,if_neg (λh=>h h0),aT (oU h.ap h.aq hb.host),vJ h.ap h.aq,aW]; by_cases h1:0<(pe a p q).length
 ·rw[if_pos (by omega),if_pos h1]
 rw[if_neg (by omega),if_neg h1]; obtain⟨x,e,ex⟩:=tQ ht h hb hp hq; rw[aT e,aW]; by_cases h2:(eS t a p q).2=0
 ·rw[if_pos h2,if_neg (λh=>h h2),ex h2]; obtain⟨k1,k2⟩:=mq hb h hp hq h2; rw[aT (yT ht h hb hp hq k1 k2)]
 ·rw[if_neg h2,if_pos h2]
theorem aa1 (h:wK t a p q) (h1:¬ 0<(pe a p q).length):axu p q:=(as3 (List.eq_nil_of_length_eq_zero (by omega)) h.ap h.aq).1
theorem aiQ (ht:ga t) (hb:jJ a) (hp:gm p) (hq:gm q):fM t a p q=some (yU t a p q):=by
 unfold fM yU; rw[aT (show dm ⟨t.nodes,t.au⟩ ⟨a.host,a.nodes,a.au,a.next⟩ p q=_ from aiM ht hb hp hq),aW]; by_cases h0:kM t a p q=0; rotate_left
 ·rw[if_neg h0,if_pos h0]
 have h:=jq.1 h0; rw[if_pos h0,if_neg (λh=>h h0),aT (show cK ⟨a.host,a.nodes,a.au,a.next⟩ ⟨p.ax,p.aD,p.aQ,p.aM,p.values,p.next⟩ q=some (pe a p q) from vf h.ap.tk hb.host hp hq),aW]; by_cases h1:0<(pe a p q).length
 ·rw[if_pos (by omega),if_pos h1]
 rw[if_neg (by omega),if_neg h1]; rw[aT (show dF ⟨t.nodes,t.au⟩ a ⟨p.ax,p.aD,p.aQ,p.aM,p.values,p.next⟩ q=_ from ada ht h hb hp hq (aa1 h h1)),aW]; by_cases h2:(eS t a p q).2=0
 ·rw[if_pos h2,if_neg (λh=>h h2)]; obtain⟨k1,k2⟩:=mq hb h hp hq h2; rw[aT (alx ht h hb hp hq k1 k2)]
 ·rw[if_neg h2,if_pos h2]
theorem aps (ht:ga t) (hb:jJ a) (hp:gm p) (hq:gm q):jh t a p q=some (yV t a p q):=by
 unfold jh yV; rw[aT (vb ht hb hp hq),aW]; by_cases h0:kM t a p q=0; rotate_left
 ·rw[if_neg h0,if_pos h0]; rfl
 have h:=jq.1 h0; rw[if_pos h0,if_neg (λh=>h h0),aT (oU h.ap h.aq hb.host),vJ h.ap h.aq,aW]; by_cases h1:0<(pe a p q).length
 ·rw[if_pos (by omega),if_pos h1]; rfl
 rw[if_neg (by omega),if_neg h1]; rw[aT (show pW t a p q=some (wO t a p q) by
  unfold pW wO; obtain⟨x,e,ex⟩:=tQ ht h hb hp hq; rw[aT e,aW]; by_cases h2:(eS t a p q).2=0
  ·rw[if_pos h2,if_neg (λh=>h h2),ex h2]; obtain⟨k1,k2⟩:=mq hb h hp hq h2; rw[aT (yT ht h hb hp hq k1 k2),decide_eq_true rfl,cond_true,aW]; by_cases h3:0<(ad0 t a p q (eS t a p q).1).length
   ·rw[if_pos (by simp only; omega),if_pos h3]; rfl
   ·rw[if_neg (by simp only; omega),if_neg h3]
  ·rw[if_neg h2,if_pos h2]; rfl)]
theorem axA (ht:ga t) (hb:jJ a) (hp:gm p) (hq:gm q):ij t a p q=some (yV t a p q):=by
 unfold ij yV; rw[aT (aiM ht hb hp hq),aW]; by_cases h0:kM t a p q=0; rotate_left
 ·rw[if_neg h0,if_pos h0]; rfl
 have h:=jq.1 h0; rw[if_pos h0,if_neg (λh=>h h0),aT (vf h.ap.tk hb.host hp hq),aW]; by_cases h1:0<(pe a p q).length
 ·rw[if_pos (by omega),if_pos h1]; rfl
 rw[if_neg (by omega),if_neg h1]; rw[aT (show fV t a p q=some (wO t a p q) by
  unfold fV wO; rw[aT (ada ht h hb hp hq (aa1 h h1)),aW]; by_cases h2:(eS t a p q).2=0
  ·rw[if_pos h2,if_neg (λh=>h h2)]; obtain⟨k1,k2⟩:=mq hb h hp hq h2; rw[aT (alx ht h hb hp hq k1 k2),aW]; by_cases h3:0<(ad0 t a p q (eS t a p q).1).length
   ·rw[if_pos (by omega),if_pos h3]; rfl
   ·rw[if_neg (by omega),if_neg h3]
  ·rw[if_neg h2,if_pos h2]; rfl)]
end
end Go.Proofs.YtllicmcihlfajaaGreat
namespace Go.Proofs.YtllicmcihlfajaaGreat
open Go.cE
theorem ad9 {α:Type} [Inhabited α] {l:List α} {i:Nat} (h:i<l.length):l.getD i default=l[i]:=by simp[h]
theorem azz {α:Type} [Inhabited α] {l:List α} {x:α} (h:x∈l):∃j,j<l.length/\l.getD j default=x:=by obtain⟨j,hj,rfl⟩:=List.getElem_of_mem h; exact⟨j,hj,by simp[hj]⟩
structure aA4 (t:Types):Prop where
 attrs:∀n∈t.nodes,n.attrs.length<=1125899906842624
theorem aA5 {t:Types} (hm:aA4 t):Ok (iS t) (λb=>b=true->ga t):=by
 have no:Ok (some false) (λb=>b=true->ga t):=Ok.mk (λh=>absurd h (by decide)); unfold iS; refine iw (λ_=>no) (λh1=>iw (λ_=>no) (λh2=>?_)); have h1:=of_decide_eq_false h1; have h2:=of_decide_eq_false h2; refine jG (bk (by omega)) ?_; refine sB (λi (s:Int)=>(0<=s/\s<=30)/\∀j,j<i->(t.nodes.getD j default).attrs.length<=30/\(t.nodes.getD j default).name.size<=40/\∀a∈(t.nodes.getD j default).attrs,a.name.size<=40/\a.names.length<=25/\∀s∈a.names,s.size<=40) (Nat.zero_le _) ⟨⟨by omega,by omega⟩,λj hj=>absurd hj (Nat.not_lt_zero j)⟩ ?_ ?_
 ·rintro i s cv _ hi ⟨hs,hq⟩ hn; have hA:=hm.attrs _ (List.getElem_mem hi); refine mV hi ?_; rw[gT (by omega)]; refine iw (λ_=>no) (λh3=>iw (λ_=>no) (λh4=>?_)); have h3:=of_decide_eq_false h3; have h4:=of_decide_eq_false h4; refine jG (bk (by omega)) ?_; refine sB (λk (_:Unit)=>∀j,j<k->((t.nodes[i].attrs.getD j default).name.size<=40/\(t.nodes[i].attrs.getD j default).names.length<=25/\∀s∈(t.nodes[i].attrs.getD j default).names,s.size<=40)) (Nat.zero_le _) (λj hj=>absurd hj (Nat.not_lt_zero j)) ?_ ?_
  ·rintro k _ vL _ hk hq2 hn2; refine mV hk (iw (λ_=>no) (λh5=>iw (λ_=>no) (λh6=>?_))); have h5:=of_decide_eq_false h5; have h6:=of_decide_eq_false h6; refine jG (bk (by omega)) ?_; refine sB (λm (_:Unit)=>∀j,j<m->(t.nodes[i].attrs[k].names.getD j default).size<=40) (Nat.zero_le _) (λj hj=>absurd hj (Nat.not_lt_zero j)) ?_ ?_
   ·rintro m _ nxt3 _ hm3 hq3 hn3; refine mV hm3 (iw (λ_=>no) (λh7=>hn3 _ λj hj=>?_)); have h7:=of_decide_eq_false h7; rcases Nat.lt_succ_iff_lt_or_eq.1 hj with h | h
    ·exact hq3 j h
    ·subst h; rw[ad9 hm3]; omega
   ·rintro _ hq3; refine hn2 _ λj hj=>?_
    rcases Nat.lt_succ_iff_lt_or_eq.1 hj with h | h
    ·exact hq2 j h
    ·subst h; rw[ad9 hk]; refine⟨by omega,by omega,λs hs=>?_⟩; obtain⟨j,hj,rfl⟩:=azz hs; exact hq3 j hj
  ·rintro _ hq2; refine hn _ ⟨⟨by omega,by omega⟩,λj hj=>?_⟩; rcases Nat.lt_succ_iff_lt_or_eq.1 hj with h | h
   ·exact hq j h
   ·subst h; rw[ad9 hi]; refine⟨by omega,by omega,λa ha=>?_⟩; obtain⟨j,hj,rfl⟩:=azz ha; exact hq2 j hj
 ·rintro s ⟨_,hq⟩; refine jG (bk (by omega)) ?_; refine sB (λk (_:Unit)=>∀j,j<k->(t.au.getD j default).name.size<=40) (Nat.zero_le _) (λj hj=>absurd hj (Nat.not_lt_zero j)) ?_ ?_
  ·rintro k _ vL _ hk hq2 hn2; refine mV hk (iw (λ_=>no) (λh5=>hn2 _ λj hj=>?_)); have h5:=of_decide_eq_false h5; rcases Nat.lt_succ_iff_lt_or_eq.1 hj with h | h
   ·exact hq2 j h
   ·subst h; rw[ad9 hk]; omega
  ·rintro _ hq2; have hall:∀n∈t.nodes,n.attrs.length<=30/\n.name.size<=40/\∀a∈n.attrs,a.name.size<=40/\a.names.length<=25/\∀s∈a.names,s.size<=40:=λn hn=>by obtain⟨j,hj,rfl⟩:=azz hn; exact hq j hj
   exact Ok.mk λ_=>⟨by omega,by omega,λn hn=>(hall n hn).1,λn hn=>(hall n hn).2.1,λn hn a ha=>((hall n hn).2.2 a ha).1,λn hn a ha=>((hall n hn).2.2 a ha).2.1,λn hn a ha=>((hall n hn).2.2 a ha).2.2,λe he=>by
    obtain⟨j,hj,rfl⟩:=azz he; exact hq2 j hj⟩
theorem aA6 (g:dI):Ok (iT g) (λb=>b=true->ayX g):=by unfold iT; refine iw (λh1=>Ok.mk λh2=>?_) (λ_=>Ok.mk λh=>absurd h (by decide)); have h1:=of_decide_eq_true h1; have h2:=of_decide_eq_true h2; exact⟨by omega,by omega⟩
theorem vg {α O:Type} {Q:O->Prop} {f:Nat->Unit->(Unit->Option O)->(Unit->Option O)->Option O} {K:Unit->Option O} (l:List α) (p:α->Prop)
  (hr:∀j (cv:Unit->Option O) (hj:j<l.length),(p l[j]->Ok (cv ()) Q)->Ok (f j () cv K) Q) (he:(∀x∈l,p x)->Ok (K ()) Q):Ok (bP f (l.length - 0) 0 () K) Q:=by
 refine sB (λj _=>∀i (h:i<l.length),i<j->p l[i]) (Nat.zero_le _) (λi _ h=>absurd h (Nat.not_lt_zero i)) (λj s cv _ hj hq hn=>?_) (λs hq=>?_)
 ·refine hr j cv hj λhp=>hn () λi h hi=>?_
  rcases Nat.lt_succ_iff_lt_or_eq.1 hi with h' | h'
  ·exact hq i h h'
  ·subst h'; exact hp
 ·refine he λx hx=>?_
  obtain⟨i,hi,rfl⟩:=List.mem_iff_getElem.1 hx; exact hq i hi hi
theorem aA7 (h:Host):Ok (iU h) (λb=>b=true->aAF h):=by
 have no:∀ {Q:Prop},(false=true->Q):=λh=>by cases h
 unfold iU; refine acV (aA6 h.graph) λb hb=>?_
 refine iw (λh1=>?_) (λ_=>.mk no); refine iw (λ_=>.mk no) (λh2=>?_); have h2':=of_decide_eq_false h2; refine jG (bk (by omega)) ?_; refine vg h.values (λl=>l.length<=12) (λi cv hi hn=>?_) (λhall=>.mk λ_=>⟨hb h1,by omega,hall⟩); refine mV hi ?_; refine iw (λ_=>.mk no) (λh7=>?_); have h7':=of_decide_eq_false h7; exact hn (by omega)
structure aA8 (x:az):Prop where
 nodes:x.nodes.length<=1125899906842624
 au:x.au.length<=1125899906842624
theorem aA9 {x:az} (hx:aA8 x):Ok (iV x) (λb=>b=true->jJ x):=by
 have h1:=hx.nodes; have h2:=hx.au; unfold iV; refine acV (aA7 x.host) λb hb=>?_
 refine iw (λh0=>.mk λh=>?_) (λ_=>.mk λh=>by cases h); have h:=of_decide_eq_true h; rw[gT (by omega)] at h; exact⟨(hb h0).big,by omega,by omega⟩
theorem axB (p:aG):Ok (eL p) (λb=>b=true->gm p):=by
  have no:∀ {Q:Prop},(false=true->Q):=λh=>by cases h
  unfold eL; refine iw (λ_=>.mk no) (λh1=>?_); have h1:=of_decide_eq_false h1; have b1:p.ax.length<=510:=by omega
  have b2:p.aD.length<=510:=by omega
  have b3:p.aQ.length<=510:=by omega
  have b4:p.aM.length<=510:=by omega
  have b5:p.values.length<=510:=by omega
  have fin:Ok (cU (p.ax.length<=fuel) <|
 bP (λaC9 (aDa:Unit) axC aDb =>
  thn (p.ax[aC9]?) λaDc =>
  cond (decide (12<((aDc.values.length:Nat):Int))) (
   some false) <|
  axC ())
 (p.ax.length - 0) 0 () λaDa =>
 cU (p.aQ.length<=fuel) <|
 bP (λaDd (aDe:Unit) axD aDf =>
  thn (p.aQ[aDd]?) λaDg =>
  cond (decide (12<((aDg.values.length:Nat):Int))) (
   some false) <|
  axD ())
 (p.aQ.length - 0) 0 () λaDe =>
 some true) (fun b => b = true → gm p) := by
    refine jG (bk (by omega)) ?_; refine vg p.ax (λn=>n.values.length<=12) (λi cv hi hn=>?_) (λh2=>?_)
    · refine mV hi (iw (λ_=>.mk no) (λh7=>?_)); have h7':=of_decide_eq_false h7; exact hn (by omega)
    refine jG (bk (by omega)) ?_; refine vg p.aQ (λn=>n.values.length<=12) (λi cv hi hn=>?_) (λh3=>?_)
    · refine mV hi (iw (λ_=>.mk no) (λh7=>?_)); have h7':=of_decide_eq_false h7; exact hn (by omega)
    exact .mk λ_=>⟨by omega,by omega,by omega,by omega,by omega,λn hn=>by have:=h2 n hn; omega,λn hn=>by have:=h3 n hn; omega⟩
  refine iw (λ_=>iw (λ_=>.mk no) (λ_=>fin)) (λ_=>fin)
structure axE (t:Types) (x:aZ):Prop where
 t:aA4 t
 a:aA8 x.a
theorem aov {t:Types} {x:aZ} (h:axE t x):Ok (cc x t) (λb=>b=true->ga t/\jJ x.a/\gm x.p/\gm x.q):=by
 have no:∀ {Q:Prop},(false=true->Q):=λh=>by cases h
 unfold cc; refine acV (aA5 h.t) λb hb=>?_
 refine iw (λh1=>?_) (λ_=>.mk no); refine acV (aA9 h.a) λc hc=>?_
 refine iw (λh2=>?_) (λ_=>.mk no); refine acV (axB x.p) λd hd=>?_
 refine iw (λh3=>?_) (λ_=>.mk no); refine acV (axB x.q) λe he=>?_
 exact .mk λh4=>⟨hb h1,hc h2,hd h3,he h4⟩
theorem aly {l:List aI} (h:l.length<=1000000):fB l l=some true:=by refine Ok.eq ?_; unfold fB; refine pz (decide_eq_true rfl) (jG (bk (by omega)) ?_); refine vg l (λ_=>True) (λi cv hi hn=>?_) (λ_=>.mk rfl); exact mV hi (mV hi (pz (by simp) (hn trivial)))
theorem adC {l:List Int} (h:l.length<=1000000):fS l l=some true:=by refine Ok.eq ?_; unfold fS; refine pz (decide_eq_true rfl) (jG (bk (by omega)) ?_); refine vg l (λ_=>True) (λi cv hi hn=>?_) (λ_=>.mk rfl); exact mV hi (mV hi (pz (by simp) (hn trivial)))
theorem as6 {a:List Int} (h:a.length<=1000000):gB a a=some 0:=by
 refine Ok.eq ?_; unfold gB; refine aiu (λs:Int=>0<=s/\s<=a.length) (λs:Int=>((a.length:Int) - s).toNat) ⟨by simp,by simp⟩ (by unfold fuel; simp; omega) (λs cv hs hn=>?_); refine iw (λh1=>?_) (λh1=>.mk ?_)
 ·have sr:=of_decide_eq_true h1; refine pz h1 ?_; refine yH hs.1 (by omega) ?_; refine yH hs.1 (by omega) ?_; refine pz (decide_eq_true rfl) ?_; rw[gT (by omega)]; exact hn _ ⟨by omega,by omega⟩ (by omega)
 ·rw[Int.sub_self]; rfl
theorem azA {g:dI} (h:ars g):iE g g=some true:=by have h1:=h.nodes; have h2:=h.au; refine Ok.eq ?_; unfold iE; refine ok_eq (wH (by omega)) (pz (decide_eq_true rfl) (pz (decide_eq_true rfl) (jG (bk (by omega)) ?_))); refine vg g.au (λ_=>True) (λi cv hi hn=>?_) (λ_=>.mk rfl); exact mV hi (mV hi (pz (by simp) (hn trivial)))
theorem azB {h:Host} (hb:tU h):iF h h=some true:=by have h1:=hb.values; refine Ok.eq ?_; unfold iF; refine ok_eq (azA hb.graph) (pz rfl (pz (decide_eq_true rfl) (jG (bk (by omega)) ?_))); refine vg h.values (λ_=>True) (λi cv hi hn=>?_) (λ_=>.mk rfl); exact mV hi (mV hi (ok_eq (as6 (by have:=hb.row _ (List.getElem_mem hi); omega)) (pz rfl (hn trivial))))
theorem aBa {x:az} (hx:jJ x):iG x x=some true:=by have h1:=hx.nodes; have h2:=hx.au; refine Ok.eq ?_; unfold iG; exact ok_eq (azB hx.host) (pz rfl (ok_eq (wH h1) (pz (decide_eq_true rfl) (ok_eq (wH h2) (pz (decide_eq_true rfl) (.mk (decide_eq_true rfl)))))))
theorem zf:jJ jy:=⟨⟨⟨by simp[jy],by simp[jy]⟩,by simp[jy],λl hl=>by cases hl⟩,by simp[jy],by simp[jy]⟩
section
variable {t:Types} {a:az} {p q:aG}
theorem axF (h:wK t a p q) (hb:tU a.host):(pe a p q).length<=1000000:=by
 have kl:∀l:List aI,(gn l).length<=l.length:=λl=>by unfold gn; exact abT _ _
 have u1:=acf (p:=p) h.aq.small; have u2:=acf (p:=q) h.ap.small; have c1:=acg (p:=p) h.aq.small; have c2:=acg (p:=q) h.ap.small; have v1:=alj h.ap.small h.aq.small; have k1:=kl (vc p q++vc q p); have k2:=kl (ve p q++ve q p); have k3:=kl (afw p q); rw[List.length_append] at k1 k2; rw[<-vJ h.ap h.aq]; unfold ahd; rw[List.length_append,List.length_append]; omega
theorem as7 (ht:ga t) (hb:jJ a) (hp:gm p) (hq:gm q):(yU t a p q).1.length<=1000000:=by
 unfold yU; by_cases h0:kM t a p q=0; rotate_left
 ·rw[if_pos h0]; simp
 have h:=jq.1 h0; rw[if_neg (λh=>h h0)]; split
 ·exact axF h hb.host
 ·split
  ·simp
  ·rename_i h2; obtain⟨k1,k2⟩:=mq hb h hp hq (Decidable.of_not_not h2); have kl:∀l:List aI,(gn l).length<=l.length:=λl=>by unfold gn; exact abT _ _
   show (ad0 t a p q _).length<=_; unfold ad0; rw[<-alv k1]; refine Nat.le_trans (kl _) ?_; unfold aot; rw[List.length_map]; exact Nat.le_trans (List.length_filter_le _ _) (by have:=pK ht k1; omega)
theorem aow (hb:jJ a) (hp:gm p) (hq:gm q):jJ (yV t a p q).1:=by
 unfold yV; by_cases h0:kM t a p q=0; rotate_left
 ·rw[if_pos h0]; exact zf
 have h:=jq.1 h0; rw[if_neg (λh=>h h0)]; split
 ·exact zf
 ·unfold wO; split
  ·exact zf
  ·rename_i h2; split
   ·exact zf
   ·exact (mq hb h hp hq (Decidable.of_not_not h2)).2
end
end Go.Proofs.YtllicmcihlfajaaGreat
namespace Go.Proofs.YtllicmcihlfajaaGreat
open Go.cE
theorem aox {l:List aj} (h:iK aj.id l):kR l=l:=(ac2 h.wF).ext h λ_=>sS
theorem aoy {l:List ak} (h:iK ak.id l):nW l=l:=(ac3 h.wF).ext h λ_=>vG
theorem wP {a:az} {p:aG} (h1:iK aj.id (mo a p++p.aQ)) (h2:iK ak.id (pE a p++p.aM)):bU a p=gD (mo a p++p.aQ) (pE a p++p.aM) p.next.x1:=by unfold bU; rw[aox h1,aoy h2]
def exT:Types:=(gy).get rfl
theorem aBb:gy=some exT:=rfl
theorem az7:ga exT:=⟨by decide +kernel,by decide +kernel,by decide +kernel,by decide +kernel,by decide +kernel,by decide +kernel,by decide +kernel,by decide +kernel⟩
def exB:az:=(gf).get rfl
theorem axG:gf=some exB:=rfl
def nH:aG:=⟨[⟨1,1,[10]⟩],[⟨3,0,0,1⟩],[],[],[],⟨5,5⟩⟩
def ri:aG:=⟨[],[],[],[⟨5,1,1,2⟩],[],⟨5,6⟩⟩
def exR:aG:=⟨[],[],[],[],[⟨2,0,5,7⟩],⟨5,5⟩⟩
theorem apt:jJ exB:=⟨⟨⟨by decide,by decide⟩,by decide,by decide⟩,by decide,by decide⟩
theorem aoz:jo exT exB:=ef.1 (by decide +kernel)
theorem apu:gm nH:=⟨by decide,by decide,by decide,by decide,by decide,by decide,by decide⟩
theorem ahl:bU exB nH=gD (mo exB nH++nH.aQ) (pE exB nH++nH.aM) nH.next.x1:=wP (by decide +kernel) (by decide +kernel)
theorem apv:cQ exT exB nH:=⟨aoz,⟨by decide,by decide,by decide,by decide,by decide⟩,⟨by decide,by decide,by decide,by decide,by decide⟩,by decide,by decide +kernel,by decide +kernel,by decide +kernel,by decide +kernel,by rw[ahl]; exact ef.1 (by decide +kernel)⟩
theorem ahm:ahb nH:=⟨by decide,by decide,by decide⟩
theorem azC:gm ri:=⟨by decide,by decide,by decide,by decide,by decide,by decide,by decide⟩
theorem as8:bU exB ri=gD (mo exB ri++ri.aQ) (pE exB ri++ri.aM) ri.next.x1:=wP (by decide +kernel) (by decide +kernel)
theorem azD:cQ exT exB ri:=⟨aoz,⟨by decide,by decide,by decide,by decide,by decide⟩,⟨by decide,by decide,by decide,by decide,by decide⟩,by decide,by decide +kernel,by decide +kernel,by decide +kernel,by decide +kernel,by rw[as8]; exact ef.1 (by decide +kernel)⟩
theorem as9:ahb ri:=⟨by decide,by decide,by decide⟩
theorem azE:gm exR:=⟨by decide,by decide,by decide,by decide,by decide,by decide,by decide⟩
theorem ahn:bU exB exR=gD (mo exB exR++exR.aQ) (pE exB exR++exR.aM) exR.next.x1:=wP (by decide +kernel) (by decide +kernel)
theorem azF:cQ exT exB exR:=⟨aoz,⟨by decide,by decide,by decide,by decide,by decide⟩,⟨by decide,by decide,by decide,by decide,by decide⟩,by decide,by decide +kernel,by decide +kernel,by decide +kernel,by decide +kernel,by rw[ahn]; exact ef.1 (by decide +kernel)⟩
theorem ata:ahb exR:=⟨by decide,by decide,by decide⟩
theorem aGj:wK exT exB nH ri:=⟨apv,azD,ahm,as9,by decide⟩
theorem aDh:wK exT exB nH exR:=⟨apv,azF,ahm,ata,by decide⟩
theorem atb:pe exB nH ri=[⟨1,1,-1⟩]:=by kernel_rfl
theorem atc:pe exB nH exR=[]:=by kernel_rfl
theorem aoA:yU exT exB nH ri=([⟨1,1,-1⟩],0):=by unfold yU; rw[if_neg (λh=>h (jq.2 aGj)),atb]; rfl
def exX:az:=⟨⟨⟨[3,1],[⟨0,0,1⟩]⟩,[[],[5]]⟩,[0,2],[4],5⟩
theorem axH:bU exB nH=exX:=by rw[ahl]; kernel_rfl
def exY:az:=⟨⟨⟨[3,1],[⟨0,0,1⟩]⟩,[[],[7]]⟩,[0,2],[4],5⟩
theorem axI:bU exX (fO nH exR)=exY:=by rw[wP (by decide +kernel) (by decide +kernel)]; kernel_rfl
theorem azG:cQ exT exX (fO nH exR):=⟨ef.1 (by decide +kernel),⟨by decide,by decide,by decide,by decide,by decide⟩,⟨by decide +kernel,by decide +kernel,by decide +kernel,by decide +kernel,by decide +kernel⟩,by decide +kernel,by decide +kernel,by decide +kernel,by decide +kernel,by decide +kernel,by rw[axI]; exact ef.1 (by decide +kernel)⟩
theorem alz:eS exT exB nH exR=(exY,0):=by unfold eS tooMany; rw[axH,if_neg (by decide +kernel),nR azG,axI]
theorem aoB:jb exB nH exR=⟨⟨⟨[3,1,1],[⟨0,0,1⟩,⟨0,0,2⟩]⟩,[[],[10],[7]]⟩,[0,1,2],[3,4],5⟩:=by rw[(adb aDh).1,ahn]; kernel_rfl
theorem axJ:ad0 exT exB nH exR exY=[]:=by unfold ad0; rw[axH,aoB]; kernel_rfl
theorem aoC:yV exT exB nH exR=(exY,0):=by unfold yV wO; rw[if_neg (λh=>h (jq.2 aDh)),atc,alz,axJ]; rfl
theorem qP:bW=some true:=by unfold bW; rw[aT aBb,aT axG]; show thn (fL exT exB nH ri) _=_; rw[aT (show fL exT exB nH ri=_ from adB az7 apt apu azC),aoA]; rw[aT axG]; show thn (jh exT exB nH exR) _=_; rw[aT (show jh exT exB nH exR=_ from aps az7 apt apu azE),aoC]; rw[decide_eq_true rfl,cond_true,aT (aly (by simp)),cond_true,cond_true]; show thn (fS [0,2] [0,2]) _=_; rw[aT (adC (by simp))]; show thn (fS [7] [7]) (λr=>some r)=_; rw[aT (adC (by simp))]
theorem ade (t:Types) (x:aZ) (h:axE t x):ee t x=some true:=by
 unfold ee; rw[aT qP,cond_true]; obtain⟨b,hb,hf⟩:=aov h; rw[aT (show cc ⟨x.a,x.p,x.q⟩ ⟨t.nodes,t.au⟩=_ from hb)]; cases b with
 | false=>rw[cond_false,aT qP]
 | true =>
 obtain⟨ht,ha,hp,hq⟩:=hf rfl; rw[cond_true,aT (aci ha),aT (jj hp),aT (jj hq),aT (show fL ⟨t.nodes,t.au⟩ x.a x.p x.q=_ from adB ht ha hp hq),aT (aiQ ht ha hp hq),decide_eq_true rfl,cond_true,aT (aly (as7 ht ha hp hq))]
theorem aiR (t:Types) (x:aZ) (h:axE t x):fq t x=some true:=by
 unfold fq; rw[aT qP,cond_true]; obtain⟨b,hb,hf⟩:=aov h; rw[aT (show cc ⟨x.a,x.p,x.q⟩ ⟨t.nodes,t.au⟩=_ from hb)]; cases b with
 | false=>rw[cond_false,aT qP]
 | true =>
 obtain⟨ht,ha,hp,hq⟩:=hf rfl; rw[cond_true,aT (aci ha),aT (jj hp),aT (jj hq),aT (show jh ⟨t.nodes,t.au⟩ x.a x.p x.q=_ from aps ht ha hp hq),aT (axA ht ha hp hq),decide_eq_true rfl,cond_true,aT (aBa (aow ha hp hq))]
end Go.Proofs.YtllicmcihlfajaaGreat
namespace Go.Proofs.YtllicmcihlfajaaGreat
open Go.cE
theorem afE:reachBytes<=1125899906842624:=by decide
theorem axK {t:Types} (h:G25 t):aA4 t:=⟨λn hn=>Nat.le_trans (h.1.1 n hn).2.2.2.1.2 afE⟩
theorem axL {x:az} (h:G34 x):aA8 x:=⟨Nat.le_trans h.2.1.2 afE,Nat.le_trans h.2.2.1.2 afE⟩
theorem aBc {t:Types} {x:aZ} (h1:G25 t) (h2:G42 x):axE t x:=⟨axK h1,axL h2.1⟩
end Go.Proofs.YtllicmcihlfajaaGreat
