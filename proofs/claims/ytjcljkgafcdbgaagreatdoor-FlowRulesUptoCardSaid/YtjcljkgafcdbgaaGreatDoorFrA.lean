/- Part A of a proof. -/
import Derived.KernelRfl
import Derived.CallsIn
import Derived.RangeFuncIn
import Derived.OrdersIn
import Derived.Below
import Derived.Deep.AppendSrc
import Derived.Laws.CopyRow
import Derived.Laws.Rows
import Derived.Laws.StructEq
import Derived.Laws.Strings
import Derived.Laws.Tables
import Derived.Laws.Strings2
set_option linter.unusedVariables false
set_option linter.unusedSimpArgs false
set_option linter.unusedSectionVars false
set_option linter.constructorNameAsVariable false
set_option linter.unnecessarySimpa false
set_option maxRecDepth 10000
theorem Va : ∀ {α : Type _} {β : Type _} {f : α → β} {a : α} {l : List α}, List.map f (a :: l) = f a :: List.map f l := @List.map_cons
theorem Vb : ∀ {α : Type _} {β : Type _} {f : α → β}, List.map f [] = [] := @List.map_nil
theorem Vc : ∀ {α : Type _} {β : Type _} {l : List α} (f : α → β), (List.map f l).length = l.length := @List.length_map
theorem Vd : ∀ {α : Type _} (a b : α), (some a = some b) = (a = b) := @Option.some.injEq
theorem Ve : ∀ {α : Type _} {β : Type _} (a : α) (b : β) (c : α) (d : β), ((a, b) = (c, d)) = (a = c ∧ b = d) := @Prod.mk.injEq
theorem Vf : ∀ {α : Type _} {a : α} {l : List α}, (a :: l).length = l.length + 1 := @List.length_cons
theorem Vg : ∀ {α : Type _} {a b : List α}, (a ++ b).length = a.length + b.length := @List.length_append
theorem Vh : ∀ {α : Type _} {a : α} {l : List α}, a ∈ a :: l := @List.mem_cons_self
theorem Vi : ∀ (a b : Bool), ((a && b) = true) = (a = true ∧ b = true) := Bool.and_eq_true
theorem Vj : ∀ {α : Type _} {β : Type _} (a : α) (f : α → β), Option.map f (some a) = some (f a) := @Option.map_some
theorem Vk : ∀ {α : Type _} {l : List α} {n : Nat} (h : n < l.length), l[n] ∈ l := @List.getElem_mem
theorem Vl : ∀ {α : Type _} {l : List α} {i : Nat} (h : i < l.length), l[i]? = some l[i] := @List.getElem?_eq_getElem
theorem Vm : ∀ {α : Type _}, ([] : List α).length = 0 := @List.length_nil
theorem Vn : ∀ {α : Type _} (y : α) {a : α} {l : List α}, a ∈ l → a ∈ y :: l := @List.mem_cons_of_mem
theorem Vo : ∀ {α : Type _} {β : Type _} {f : α → β} {l : List α} {i : Nat}, (List.map f l)[i]? = Option.map f l[i]? := @List.getElem?_map
theorem Vp : ∀ {α : Type _} {a b : α}, (some a).getD b = a := @Option.getD_some
theorem Vq : ∀ {α : Type _} {i : Nat} {l : List α} (h : i < l.length), List.drop i l = l[i] :: List.drop (i + 1) l := @List.drop_eq_getElem_cons
theorem Vr : (!true) = false := Bool.not_true
theorem Vs : (!false) = true := Bool.not_false
theorem Vt : ∀ (b : Bool), (true && b) = b := Bool.true_and
theorem Vu : (false = true) = False := Bool.false_eq_true
theorem Vv : ∀ (n : Nat), ((n : Int)).toNat = n := Int.toNat_natCast
theorem Vw : ∀ {α : Type _} {β : Type _} {f : α → β} {a b : List α}, List.map f (a ++ b) = List.map f a ++ List.map f b := @List.map_append
theorem Vx : ∀ (a b : Bool), ((a || b) = true) = (a = true ∨ b = true) := Bool.or_eq_true
theorem Vy : ∀ {α : Type _} {a b : List α} {i : Nat}, a.length ≤ i → (a ++ b)[i]? = b[i - a.length]? := @List.getElem?_append_right
theorem Vz : ∀ {α : Type _} {a b : List α} {i : Nat}, i < a.length → (a ++ b)[i]? = a[i]? := @List.getElem?_append_left
theorem VA : ∀ {α : Type _} {b : α} {l : List α} {a : α}, a ∈ b :: l ↔ a = b ∨ a ∈ l := @List.mem_cons
theorem VB : ∀ {α : Type _} {i : Nat} {a : α} {l : List α}, l[i]? = some a ↔ ∃ h : i < l.length, l[i] = a := @List.getElem?_eq_some_iff
theorem VC : ∀ {α : Type _} {β : Type _} {b : β} {f : α → β} {l : List α}, b ∈ List.map f l ↔ ∃ a, a ∈ l ∧ f a = b := @List.mem_map
theorem oM{p:Prop}(h:p:=by omega):p:=h
theorem sO{p:Prop}(h:p:=by simp;omega):p:=h
theorem sP{p:Prop}(h:p:=by simp):p:=h
theorem kR{p:Prop}(h:p:=by kernel_rfl):p:=h
theorem sU{p:Prop}(h:p:=by simp[upd]):p:=h
theorem dC{p:Prop}(h:p:=by decide):p:=h
theorem sX{p q:Prop}(h:p)(e:p→q:=by(intro h;simpa using h)):q:=e h
theorem dT{k n:Nat}(h:k<n):decide ((k:Int)<(n:Int))=true:=by simp;omega
theorem dF{k n:Nat}(h:¬k<n):decide ((k:Int)<(n:Int))=false:=by simp;omega
theorem nF{b:Bool}(h:b=false):¬b=true:=by rw[h];exact Bool.false_ne_true
namespace Av
open Go
variable {w w':World}
inductive Dat where
 |bool (b:Bool)
 |int (k:IntKind) (n:Int)
 |str (s:List UInt8)
 |nil (sz:Nat)
 |list (sz:Nat) (xs:List Dat)
 |agg (cs:List Dat)
 |fn (f:Fn) (first cap:List Dat)
 |ptr (cs:List Dat)
 |map (es:List (Dat×Dat))
 |nilFn|nilPtr|nilMap|nilIface
 |iface (t:Nat) (d:Dat)
 |opq
 |glo (g:Nat)
 |own (sz:Nat) (xs:List Dat)
 deriving Inhabited
def Dat.cells:Dat→List Dat
 |.agg cs=>cs
 |x=>[x]
def flat(xs:List Dat):List Dat:=xs.flatMap Dat.cells
structure Hd where
 ver:Nat
 sv:Nat
 p:List (Nat×Nat)
 k:Option (Nat×Nat)
 deriving Inhabited
inductive Av where
 |d (x:Dat)
 |ref (i off:Nat)
 |ms (i ver:Nat)
 |sub (i ver off len:Nat)
 |el (i ver k off:Nat)
 |agg (cs:List Av)
 |tup (cs:List Av)
 |clo (f:Fn) (first cap:List Av)
 |mp (i:Nat)
 |tr (i:Nat) (h:Hd)
 |any
 |und
 |ful (sz:Nat) (xs:List Dat)
 deriving Inhabited
structure Lp where
 tm:List (Nat×Av)
 N:Nat
 ps:Array Nat
 asg:Code
 body:Code
 s:LoopState
 j:Option Code
inductive Obj where
 |box (cs:List Av)
 |row (ver sz:Nat) (xs:List Dat)
 |mapo (es:List (Dat×Dat))
 |lp (l:Lp)
 |sit (s:List UInt8) (p:Nat)
 |tre (ver sv sz:Nat) (xs:List Dat)
 |fbox (ds:List Dat)
 |frz (ver sz:Nat) (xs:List Dat)
 |gone
 deriving Inhabited
def Obj.live:Obj→Bool
 |.box _|.row .. |.mapo _|.lp _|.sit .. |.tre .. =>true
 |_=>false
def get{α:Type}:List (Nat×α)→Nat→Option α
 |[],_=>none
 |(k,v)::r,i=>if k=i then some v else get r i
abbrev Heap:=Nat→Option Obj
abbrev UX:=Nat→Option Av
def Holds(w:World)(b o:Nat)(vs:List Value):Prop:=∀(i:Nat) v,vs[i]? =some v→w.cell? ⟨b,o+i,none⟩=some v
inductive Rep(A:Nat→Prop)(w:World):Dat→Value→Prop
 |bool (b):Rep A w (.bool b) (.bool b)
 |int (k n) (h:k.min≤n∧n≤k.max):Rep A w (.int k n) (.int k n)
 |str (s) (h:s.length≤68719476736):Rep A w (.str s) (.string ⟨s.toArray⟩)
 |nil (sz a):Rep A w (.nil sz) (.slice a 0 0)
 |emp (sz a cap):Rep A w (.list sz []) (.slice a 0 cap)
 |list (sz xs b o n cap vs) (hn:n=xs.length) (hA:A b) (hl:xs.length≤cap) (hc:xs.length≤68719476736) (h1:∀v∈vs,v.oneCell'=true) (hsz:∀x∈xs,x.cells.length=sz)
   (hh:Holds w b o vs) (hvl:(flat xs).length=vs.length) (hv:∀(i:Nat) c v,(flat xs)[i]? =some c→vs[i]? =some v→Rep A w c v):
   Rep A w (.list sz xs) (.slice (some ⟨b,o,none⟩) n cap)
 |agg (cs arr) (hl:cs.length=arr.size) (h1:∀v∈arr.toList,v.oneCell'=true) (hv:∀(i:Nat) c v,cs[i]? =some c→arr[i]? =some v→Rep A w c v):Rep A w (.agg cs) (.agg arr)
 |fn (f fs cs a1 a2) (h1:fs.length=a1.size) (h2:cs.length=a2.size) (hf:∀(i:Nat) c v,fs[i]? =some c→a1[i]? =some v→Rep A w c v)
   (hv:∀(i:Nat) c v,cs[i]? =some c→a2[i]? =some v→Rep A w c v):Rep A w (.fn f fs cs) (.func f a1 a2)
 |ptr (cs b o vs) (hA:A b) (h1:∀v∈vs,v.oneCell'=true) (hh:Holds w b o vs) (hvl:cs.length=vs.length) (hv:∀(i:Nat) c v,cs[i]? =some c→vs[i]? =some v→Rep A w c v):
   Rep A w (.ptr cs) (.pointer (some ⟨b,o,none⟩))
 |map (es r ents clk) (hA:A r) (hr:w.heap[r]? =some (.map ents clk)) (hl:es.length=ents.size)
   (hk:∀(i:Nat) (e:Dat×Dat) (m:MapEntry),es[i]? =some e→ents[i]? =some m→Rep A w e.1 m.key)
   (hv:∀(i:Nat) (e:Dat×Dat) (m:MapEntry),es[i]? =some e→ents[i]? =some m→Rep A w e.2 m.val):Rep A w (.map es) (.map (some r))
 |nilFn:Rep A w .nilFn .nilFunc
 |nilPtr:Rep A w .nilPtr (.pointer none)
 |nilMap:Rep A w .nilMap (.map none)
 |nilIface:Rep A w .nilIface .nilIface
 |iface (t x v) (h:Rep A w x v):Rep A w (.iface t x) (.iface t v)
 |opq (v) (h1:v.oneCell'=true):Rep A w .opq v
 |glo (g):Rep A w (.glo g) (.pointer (some ⟨g,0,none⟩))
def XG(A:Nat→Prop)(w w':World):Prop:=∀b,A b→w'.heap[b]? =w.heap[b]?
theorem cell_of_heap{a:Addr}(h:w'.heap[a.block]? =w.heap[a.block]?):w'.cell? a=w.cell? a:=by
 simp only[World.cell?,h]
theorem Holds.same{b o:Nat}{vs:List Value}(h:Holds w b o vs)(hs:w'.heap[b]? =w.heap[b]?):Holds w' b o vs:=
 fun i v hi=>(cell_of_heap (a:=⟨b,o+i,none⟩) hs).trans (h i v hi)
theorem Rep.mono{A A':Nat→Prop}{x:Dat}{v:Value}(h:Rep A w x v)(hs:XG A w w')(hA:∀b,A b→A' b):Rep A' w' x v:=by
 induction h with
 |bool b=>exact .bool b
 |int k n h=>exact .int k n h
 |str s h=>exact .str s h
 |nil sz a=>exact .nil sz a
 |emp sz a cap=>exact .emp sz a cap
 |list sz xs b o n cap vs hn hAb hl hc h1 hsz hh hvl hv ih=>exact .list sz xs b o n cap vs hn (hA _ hAb) hl hc h1 hsz (hh.same (hs _ hAb)) hvl ih
 |agg cs arr hl h1 hv ih=>exact .agg cs arr hl h1 ih
 |fn f fs cs a1 a2 h1 h2 hf hv ihf ihv=>exact .fn f fs cs a1 a2 h1 h2 ihf ihv
 |ptr cs b o vs hAb h1 hh hvl hv ih=>exact .ptr cs b o vs (hA _ hAb) h1 (hh.same (hs _ hAb)) hvl ih
 |map es r ents clk hAb hr hl hk hv ihk ihv=>exact .map es r ents clk (hA _ hAb) ((hs _ hAb).trans hr) hl ihk ihv
 |nilFn=>exact .nilFn
 |nilPtr=>exact .nilPtr
 |nilMap=>exact .nilMap
 |nilIface=>exact .nilIface
 |iface t x v h ih=>exact .iface t x v ih
 |opq v h1=>exact .opq v h1
 |glo g=>exact .glo g
structure BK where
 r:Option Nat
 s:List Nat
instance:Coe (Option Nat) BK:=⟨fun o=>⟨o,[]⟩⟩
def BK.all(k:BK):List Nat:=k.r.toList++k.s
def BK.has(k:BK)(b:Nat):Prop:=b∈k.all
theorem BK.Jo{o:Option Nat}{b:Nat}:BK.has ⟨o,[]⟩ b↔o=some b:=by
 simp only[BK.has,BK.all,List.append_nil,Option.mem_toList,Option.mem_def]
abbrev JM:=Nat→BK
inductive Own(A:Nat→Prop)(w:World):List Nat→Dat→Value→Prop
 |dat (x u) (h:Rep A w x u):Own A w [] x u
 |nil (sz a) (hs:0<sz):Own A w [] (.own sz []) (.slice a 0 0)
 |row (sz xs b C T cap n) (Fs:List (List Nat)) (hh:w.heap[b]? =some (.cells C T (0,0))) (hC:C.size=cap*sz) (hn:n=xs.length) (hl:xs.length≤cap) (hc:xs.length≤68719476736) (hs:0<sz) (hsz:∀x∈xs,x.cells.length=sz)
   (hF:Fs.length=(flat xs).length) (h1:∀(j:Nat) v,j<(flat xs).length→C[j]? =some v→v.oneCell'=true)
   (hv:∀(j:Nat) c v F,(flat xs)[j]? =some c→C[j]? =some v→Fs[j]? =some F→Own A w F c v):Own A w (b::Fs.flatten) (.own sz xs) (.slice (some ⟨b,0,none⟩) n cap)
def cellAt(xs:List Dat)(k c:Nat):Option Dat:=xs[k]?.bind fun x=>x.cells[c]?
def nodeAt:Dat→List (Nat×Nat)→Option Dat
 |.own sz xs,[]=>some (.own sz xs)
 |.own _ xs,(k,c)::p=>match cellAt xs k c with
  |some y=>nodeAt y p
  |none=>none
 |_,_=>none
def TAt(w:World):Dat→Value→List (Nat×Nat)→Value→Prop
 |.own _ _,u,[],u'=>u'=u
 |.own sz xs,.slice (some a) _ _,(k,c)::p,u'=>∃y v,cellAt xs k c=some y∧w.cell? ⟨a.block,k*sz+c,none⟩=some v∧TAt w y v p u'
 |_,_,_,_=>False
def Xe(β:JM)(w:World)(i sz n:Nat)(u:Value):Prop:=
 ((β i).r=none∧n=0∧∃a,u=.slice a 0 0)∨
 ∃b C T fz cap,(β i).r=some b∧w.heap[b]? =some (.cells C T fz)∧C.size=cap*sz∧n≤cap∧u=.slice (some ⟨b,0,none⟩) n cap
def JBj(β:JM)(w:World)(i sz:Nat)(xs:List Dat)(h:Hd)(u:Value):Prop:=
 ∃u0 u1,Xe β w i sz xs.length u0∧TAt w (.own sz xs) u0 h.p u1∧match h.k with
  |none=>u=u1
  |some (k,off)=>∃b n cap sz' ys,u1=.slice (some ⟨b,0,none⟩) n cap∧nodeAt (.own sz xs) h.p=some (.own sz' ys)∧k<ys.length∧u=.pointer (some ⟨b,k*sz'+off,none⟩)
def JJP(β:JM)(w:World)(i sz n:Nat)(u:Value):Prop:=
 (β i=(none:Option Nat)∧n=0∧∃a,u=.slice a 0 0)∨
 ∃b,∃C T fz cap,β i=(some b:Option Nat)∧w.heap[b]? =some (.cells C T fz)∧C.size=cap*sz∧n≤cap∧u=.slice (some ⟨b,0,none⟩) n cap
def JMj(β:JM)(w:World)(i sz off len:Nat)(u:Value):Prop:=
 (β i=(none:Option Nat)∧off=0∧len=0∧∃a,u=.slice a 0 0)∨
 ∃b,∃C T fz cap ad,β i=(some b:Option Nat)∧w.heap[b]? =some (.cells C T fz)∧C.size=cap*sz∧off+len≤cap∧(off<cap→ad=⟨b,off*sz,none⟩)∧
  u=.slice (some ad) len (cap-off)
inductive VRep(β:JM)(A:Nat→Prop)(w:World)(H:Heap):Av→Value→Prop
 |d (x u) (h:Rep A w x u):VRep β A w H (.d x) u
 |ref (i off b p u) (hu:u=.pointer (some ⟨b,p+off,none⟩)) (h0:(H i).isSome) (h1:∀cs,H i=some (.box cs)→β i=some b∧p=0)
   (h2:∀ds,H i=some (.fbox ds)→Rep A w (.ptr (ds.drop off)) u):VRep β A w H (.ref i off) u
 |ms (i ver u) (hu:u.oneCell'=true) (h0:(H i).isSome) (h1:∀v' sz xs,H i=some (.row v' sz xs)→ver≤v'∧(v'=ver→JJP β w i sz xs.length u))
   (h2:∀sz xs,H i=some (.frz ver sz xs)→Rep A w (.list sz xs) u):VRep β A w H (.ms i ver) u
 |sub (i ver off len u) (hu:u.oneCell'=true) (h0:(H i).isSome) (h1:∀v' sz xs,H i=some (.row v' sz xs)→ver≤v'∧(v'=ver→off+len≤xs.length∧JMj β w i sz off len u))
   (h2:∀sz xs,H i=some (.frz ver sz xs)→Rep A w (.list sz ((xs.drop off).take len)) u):VRep β A w H (.sub i ver off len) u
 |el (i ver k off b p u) (hu:u=.pointer (some ⟨b,p+off,none⟩)) (h0:(H i).isSome) (h1:∀v' sz xs,H i=some (.row v' sz xs)→ver≤v'∧(v'=ver→k<xs.length∧β i=some b∧p=k*sz)):
   VRep β A w H (.el i ver k off) u
 |agg (cs arr) (hl:cs.length=arr.size) (h1:∀v∈arr.toList,v.oneCell'=true) (hv:∀(i:Nat) c v,cs[i]? =some c→arr[i]? =some v→VRep β A w H c v):VRep β A w H (.agg cs) (.agg arr)
 |tup (cs arr) (hl:cs.length=arr.size) (hv:∀(i:Nat) c v,cs[i]? =some c→arr[i]? =some v→VRep β A w H c v):VRep β A w H (.tup cs) (.tuple arr)
 |clo (f fs cs a1 a2) (h1:fs.length=a1.size) (h2:cs.length=a2.size) (hf:∀(i:Nat) c v,fs[i]? =some c→a1[i]? =some v→VRep β A w H c v)
   (hv:∀(i:Nat) c v,cs[i]? =some c→a2[i]? =some v→VRep β A w H c v):VRep β A w H (.clo f fs cs) (.func f a1 a2)
 |mp (i u) (hu:u.oneCell'=true) (h0:(H i).isSome) (h1:∀es,H i=some (.mapo es)→∃b,β i=(some b:Option Nat)∧u=.map (some b))
   (h2:∀l,H i=some (.lp l)→∃b,β i=(some b:Option Nat)∧u=.func (.yield b) #[] #[]) (h3:∀s p,H i=some (.sit s p)→∃b,β i=(some b:Option Nat)∧u=.pointer (some ⟨b,0,none⟩)):VRep β A w H (.mp i) u
 |tr (i h u) (hu:u.oneCell'=true) (h0:(H i).isSome) (hk:h.k.isSome=true→∃b o,u=.pointer (some ⟨b,o,none⟩))
   (h1:∀v' s' sz xs,H i=some (.tre v' s' sz xs)→h.ver≤v'∧h.sv≤s'∧(h.ver=v'→(h.p=[]∨h.sv=s')→JBj β w i sz xs h u)):VRep β A w H (.tr i h) u
 |any (u):VRep β A w H .any u
 |und:VRep β A w H .und undef
 |ful (sz xs u) (h:Rep A w (.list sz xs) u) (hn:∃a n,u=.slice a n n):VRep β A w H (.ful sz xs) u
def JBC(β:JM)(A:Nat→Prop)(w:World)(H:Heap)(i:Nat):Obj→Prop
 |.box cs=>∃b,∃C T,β i=(some b:Option Nat)∧w.heap[b]? =some (.cells C T (0,0))∧cs.length=C.size∧(∀v∈C.toList,v.oneCell'=true)∧∀(j:Nat) c v,cs[j]? =some c→C[j]? =some v→VRep β A w H c v
 |.row _ sz xs=>0<sz∧(∀x∈xs,x.cells.length=sz)∧xs.length≤68719476736∧
   ((β i=(none:Option Nat)∧xs=[])∨∃b,∃C T cap,β i=(some b:Option Nat)∧w.heap[b]? =some (.cells C T (0,0))∧C.size=cap*sz∧xs.length≤cap∧
    (∀(j:Nat) v,j<(flat xs).length→C[j]? =some v→v.oneCell'=true)∧∀(j:Nat) c v,(flat xs)[j]? =some c→C[j]? =some v→Rep A w c v)
 |.mapo es=>∃b,∃ents clk,β i=(some b:Option Nat)∧w.heap[b]? =some (.map ents clk)∧es.length=ents.size∧
   (∀(j:Nat) (e:Dat×Dat) (m:MapEntry),es[j]? =some e→ents[j]? =some m→Rep A w e.1 m.key∧Rep A w e.2 m.val)∧(∀(j:Nat) (m:MapEntry),ents[j]? =some m→m.born=j)∧clk=ents.size
 |.lp l=>∃b,∃r,β i=(some b:Option Nat)∧w.heap[b]? =some (.loop r)∧r.state=l.s∧r.pending=l.j∧r.params=l.ps∧r.assign=l.asg∧r.body=l.body∧r.tmps.size=l.N∧
   ∀t v,get l.tm t=some v→∃u,r.tmps[t]? =some u∧VRep β A w H v u
 |.sit s p=>∃b,β i=(some b:Option Nat)∧w.heap[b]? =some (.stringIter ⟨s.toArray⟩ p)∧s.length≤68719476736
 |.tre _ _ sz xs=>∃u,Own A w (β i).all (.own sz xs) u∧(β i).all.Nodup∧Xe β w i sz xs.length u∧(β i).r=(β i).all.head?
 |.fbox _=>True
 |.frz .. =>True
 |.gone=>True
class Glb where
 l:List (Nat×List Dat)
variable [Glb]
def YK(g:Nat):Option (List Dat):=get Glb.l g
def JAx(A:Nat→Prop)(w:World)(g:Nat)(cs:List Dat):Prop:=
 A g∧∃C T fr,w.heap[g]? =some (.cells C T fr)∧cs.length=C.size∧(∀v∈C.toList,v.oneCell'=true)∧∀(j:Nat) c v,cs[j]? =some c→C[j]? =some v→Rep A w c v
omit [Glb] in
theorem JAx.mono{A A':Nat→Prop}{w w':World}{g:Nat}{cs:List Dat}(h:JAx A w g cs)(hs:XG A w w')(hA:∀b,A b→A' b):JAx A' w' g cs:=by
 obtain⟨h0,C,T,fr,h1,h2,h3,h4⟩:=h;exact⟨hA _ h0,C,T,fr,(hs _ h0).trans h1,h2,h3,fun j c v hc hv=>(h4 j c v hc hv).mono hs hA⟩
omit [Glb] in
theorem JAx.rep{A:Nat→Prop}{w:World}{g:Nat}{cs:List Dat}(h:JAx A w g cs):Rep A w (.ptr cs) (.pointer (some ⟨g,0,none⟩)):=by
 obtain⟨h0,C,T,fr,h1,h2,h3,h4⟩:=h;refine .ptr cs g 0 C.toList h0 h3 ?_ (sX h2) fun j c v hc hv=>h4 j c v hc (sX hv)
 intro i v hi;have:C[i]? =some v:=sX hi;simp[World.cell?,h1,this]
structure Core(β:JM)(A:Nat→Prop)(w:World)(H:Heap):Prop where
 objs:∀i o,H i=some o→JBC β A w H i o
 inj:∀i j o o' b,H i=some o→o.live→H j=some o'→o'.live→(β i).has b→(β j).has b→i=j
 sep:∀i o b,H i=some o→o.live→(β i).has b→¬A b
 old:∀b,A b→b<w.heap.size
 glob:∀g cs,YK g=some cs→JAx A w g cs
structure Stp(β:JM)(A:Nat→Prop)(w:World)(H:Heap)(β':JM)(A':Nat→Prop)(w':World)(H':Heap):Prop where
 core:Core β' A' w' H'
 vals:∀c u,VRep β A w H c u→VRep β' A' w' H' c u
 os:w'.os=w.os
 tape:w'.tape=w.tape
 output:w'.output=w.output
 size:w.heap.size≤w'.heap.size
 same:∀b,b<w.heap.size→(∀i o,H i=some o→o.live→¬(β i).has b)→w'.heap[b]? =w.heap[b]?
 loops:∀(b:Nat) r,w.heap[b]? =some (.loop r)→∃r',w'.heap[b]? =some (.loop r')
 data:∀b,A' b→A b∨w.heap.size≤b∨∃i o,H i=some o∧o.live∧(β i).has b
 mine:∀i o b,H' i=some o→o.live→(β' i).has b→w.heap.size≤b∨∃i' o',H i'=some o'∧o'.live∧(β i').has b
theorem VRep.JCQ{β:JM}{A:Nat→Prop}{H:Heap}{β':JM}{A':Nat→Prop}{H':Heap}
  (hd:∀x u,Rep A w x u→Rep A' w' x u)
  (hr:∀i off u,VRep β A w H (.ref i off) u→VRep β' A' w' H' (.ref i off) u)
  (hm:∀i ver u,VRep β A w H (.ms i ver) u→VRep β' A' w' H' (.ms i ver) u)
  (hs:∀i ver off len u,VRep β A w H (.sub i ver off len) u→VRep β' A' w' H' (.sub i ver off len) u)
  (he:∀i ver k off u,VRep β A w H (.el i ver k off) u→VRep β' A' w' H' (.el i ver k off) u)
  (hp:∀i u,VRep β A w H (.mp i) u→VRep β' A' w' H' (.mp i) u)
  (ht:∀i h u,VRep β A w H (.tr i h) u→VRep β' A' w' H' (.tr i h) u):
  ∀c u,VRep β A w H c u→VRep β' A' w' H' c u:=by
 intro c u h
 induction h with
 |d x u h=>exact .d x u (hd _ _ h)
 |ref i off b p u hu h0 h1 h2=>exact hr _ _ _ (.ref i off b p u hu h0 h1 h2)
 |ms i ver u hu h0 h1 h2=>exact hm _ _ _ (.ms i ver u hu h0 h1 h2)
 |sub i ver off len u hu h0 h1 h2=>exact hs _ _ _ _ _ (.sub i ver off len u hu h0 h1 h2)
 |el i ver k off b p u hu h0 h1=>exact he _ _ _ _ _ (.el i ver k off b p u hu h0 h1)
 |agg cs arr hl h1 hv ih=>exact .agg cs arr hl h1 ih
 |tup cs arr hl hv ih=>exact .tup cs arr hl ih
 |clo f fs cs a1 a2 h1 h2 hf hv ihf ihv=>exact .clo f fs cs a1 a2 h1 h2 ihf ihv
 |mp i u hu h0 h1 h2 h3=>exact hp _ _ (.mp i u hu h0 h1 h2 h3)
 |tr i h u hu h0 hk h1=>exact ht _ _ _ (.tr i h u hu h0 hk h1)
 |any u=>exact .any u
 |und=>exact .und
 |ful sz xs u h hn=>exact .ful sz xs u (hd _ _ h) hn
end Av
namespace Av
open Go
variable [Glb]
variable {i sz b:Nat}{F:List Nat}{u:Value}{x:Dat}{o:Obj}
def upd{α:Type}(f:Nat→α)(i:Nat)(x:α):Nat→α:=fun j=>if j=i then x else f j
theorem JB{α:Type}(f:Nat→α)(i:Nat)(x:α):upd f i x i=x:=by simp[upd]
theorem JN{α:Type}(f:Nat→α){j:Nat}(x:α)(h:j≠i):upd f i x j=f j:=by simp[upd,h]
section
variable {β:JM}{A:Nat→Prop}{w:World}{H:Heap}{β':JM}{A':Nat→Prop}{w':World}{H':Heap}{β'':JM}{A'':Nat→Prop}{w'':World}{H'':Heap}
theorem UB:∀{xs:List Dat},(∀x∈xs,x.cells.length=sz)→(flat xs).length=xs.length*sz
 |[],_=>by simp[flat]
 |x::r,h=>by
  have h1:=h x Vh;have h2:=UB (xs:=r) fun y hy=>h y (Vn _ hy)
  simp only[flat,List.flatMap_cons,Vg,Vf]at h2⊢;rw[h1,h2,Nat.add_mul];omega
theorem XQ:∀{xs:List Dat} {k c:Nat},(∀x∈xs,x.cells.length=sz)→c<sz→(flat xs)[k*sz+c]? =cellAt xs k c
 |[],k,c,_,_=>by simp[flat,cellAt]
 |x::r,0,c,h,hc=>by
  have h1:=h x Vh;simp only[flat,List.flatMap_cons,Nat.zero_mul,Nat.zero_add,cellAt,List.getElem?_cons_zero,Option.bind_some];exact Vz oM
 |x::r,k+1,c,h,hc=>by
  have h1:=h x Vh;have ih:=XQ (xs:=r) (k:=k) (c:=c) (fun y hy=>h y (Vn _ hy)) hc;have e:(k+1)*sz+c=sz+(k*sz+c):=by rw[Nat.add_mul];omega
  simp only[flat,List.flatMap_cons,cellAt,List.getElem?_cons_succ]at ih⊢;rw[Vy oM,←ih];congr 1;omega
theorem Own.sz0{A:Nat→Prop}{w:World}{xs:List Dat}(h:Own A w F (.own sz xs) u):0<sz:=by
 generalize hx:Dat.own sz xs=x at h;cases h with
 |dat _ _ h=>subst hx;cases h
 |nil _ _ h=>cases hx;exact h
 |row=>cases hx;assumption
theorem Own.mono{A A':Nat→Prop}{w w':World}(h:Own A w F x u)(hs:XG A w w')(hA:∀b,A b→A' b)(hF:∀b∈F,w'.heap[b]? =w.heap[b]?):Own A' w' F x u:=by
 induction h with
 |dat x u h=>exact .dat x u (h.mono hs hA)
 |nil sz a hs=>exact .nil sz a hs
 |row sz xs b C T cap n Fs hh hC hn hl hc hs hsz hFl h1 hv ih=>
  refine .row sz xs b C T cap n Fs ((hF b Vh).trans hh) hC hn hl hc hs hsz hFl h1 fun j c v F q1 q2 q3=>ih j c v F q1 q2 q3 fun b' hb'=>hF b' ?_
  exact Vn _ (List.mem_flatten.2 ⟨F,List.mem_of_getElem? q3,hb'⟩)
theorem Own.lt{A:Nat→Prop}{w:World}(h:Own A w F x u):∀b∈F,b<w.heap.size:=by
 induction h with
 |dat x u h=>intro b hb;cases hb
 |nil sz a hs=>intro b hb;cases hb
 |row sz xs b C T cap n Fs hh hC hn hl hc hs hsz hFl h1 hv ih=>
  intro b' hb';rcases VA.1 hb' with rfl|hb'
  ·exact(Array.getElem?_eq_some_iff.1 hh).1
  ·obtain⟨F,hF,hb'⟩:=List.mem_flatten.1 hb';obtain⟨j,hj⟩:=List.getElem?_of_mem hF;have hjl:j<Fs.length:=(VB.1 hj).1;have hxl:(flat xs).length≤C.size:=by
    have:(flat xs).length=xs.length*sz:=UB hsz;rw[this,hC];exact Nat.mul_le_mul_right _ hl
   exact ih j _ _ F (Vl oM) (Array.getElem?_eq_getElem oM) hj b' hb'
theorem Own.JHM{A:Nat→Prop}{w:World}(h:Own A w F x u):∀b∈F,∃C T fz,w.heap[b]? =some (.cells C T fz):=by
 induction h with
 |dat x u h=>intro b hb;cases hb
 |nil sz a hs=>intro b hb;cases hb
 |row sz xs b C T cap n Fs hh hC hn hl hc hs hsz hFl h1 hv ih=>
  intro b' hb';rcases VA.1 hb' with rfl|hb'
  ·exact⟨C,T,(0,0),hh⟩
  ·obtain⟨F,hF,hb'⟩:=List.mem_flatten.1 hb';obtain⟨j,hj⟩:=List.getElem?_of_mem hF;have hjl:j<Fs.length:=(VB.1 hj).1;have hxl:(flat xs).length≤C.size:=by
    have:(flat xs).length=xs.length*sz:=UB hsz;rw[this,hC];exact Nat.mul_le_mul_right _ hl
   exact ih j _ _ F (Vl oM) (Array.getElem?_eq_getElem oM) hj b' hb'
theorem Core.lt(hc:Core β A w H)(h:H i=some o)(hl:o.live=true)(hb:(β i).has b):b<w.heap.size:=by
 have h1:=hc.objs i o h;cases o with
 |box cs=>obtain⟨b',C,T,e1,e2,_⟩:=h1;rw[e1]at hb;cases BK.Jo.1 hb;exact(Array.getElem?_eq_some_iff.1 e2).1
 |row ver sz xs=>
  obtain⟨_,_,_,⟨e1,_⟩|⟨b',C,T,cap,e1,e2,_⟩⟩:=h1
  ·rw[e1]at hb;cases BK.Jo.1 hb
  ·rw[e1]at hb;cases BK.Jo.1 hb;exact(Array.getElem?_eq_some_iff.1 e2).1
 |mapo es=>obtain⟨b',C,T,e1,e2,_⟩:=h1;rw[e1]at hb;cases BK.Jo.1 hb;exact(Array.getElem?_eq_some_iff.1 e2).1
 |lp l=>obtain⟨b',r,e1,e2,_⟩:=h1;rw[e1]at hb;cases BK.Jo.1 hb;exact(Array.getElem?_eq_some_iff.1 e2).1
 |sit s p=>obtain⟨b',e1,e2,_⟩:=h1;rw[e1]at hb;cases BK.Jo.1 hb;exact(Array.getElem?_eq_some_iff.1 e2).1
 |tre ver sv sz xs=>obtain⟨u,h1,_⟩:=h1;exact h1.lt b hb
 |fbox ds=>cases hl
 |frz ver sz xs=>cases hl
 |gone=>cases hl
theorem TAt.mono{A:Nat→Prop}{w w':World}(h:Own A w F x u)(hF:∀b∈F,w'.heap[b]? =w.heap[b]?):∀{p:List (Nat×Nat)} {u':Value},TAt w x u p u'→TAt w' x u p u':=by
 induction h with
 |dat x u h=>
  intro p u' ha;cases h<;>cases p<;>simp only[TAt]at ha
 |nil sz a hs=>
  intro p u' ha
  match p,ha with
  |[],ha=>exact ha
  |(k,c)::p,ha=>
   cases a with
   |none=>exact ha.elim
   |some a=>obtain⟨y,v,e,_⟩:=ha;simp[cellAt]at e
 |row sz xs b C T cap n Fs hh hC hn hl hc hs hsz hFl h1 hv ih=>
  intro p u' ha
  match p,ha with
  |[],ha=>exact ha
  |(k,c)::p,ha=>
   obtain⟨y,v,e1,e2,e3⟩:=ha;have hb:w'.heap[b]? =w.heap[b]? :=hF b Vh;have e2':w'.cell? ⟨b,k*sz+c,none⟩=some v:=(cell_of_heap (a:=⟨b,k*sz+c,none⟩) hb).trans e2;refine⟨y,v,e1,e2',?_⟩;have hc':c<sz:=by
    unfold cellAt at e1;cases ek:xs[k]? with
    |none=>rw[ek]at e1;cases e1
    |some z=>
     rw[ek]at e1;have:=hsz z (List.mem_of_getElem? ek);have:=(VB.1 e1).1;omega
   have e1':(flat xs)[k*sz+c]? =some y:=(XQ hsz hc').trans e1;have hj:=(VB.1 e1').1;have eC:C[k*sz+c]? =some v:=by
    simp only[World.cell?,hh]at e2;simpa using e2
   refine ih (k*sz+c) y v Fs[k*sz+c] e1' eC (Vl oM) (fun b' hb'=>hF b' ?_) e3;exact Vn _ (List.mem_flatten.2 ⟨_,Vk _,hb'⟩)
theorem Xe.mono{β β':JM}{w w':World}{n:Nat}(h:Xe β w i sz n u)(hβ:(β' i).r=(β i).r)(hb:∀b,(β i).r=some b→w'.heap[b]? =w.heap[b]?):Xe β' w' i sz n u:=by
 rcases h with⟨e1,e2⟩|⟨b,C,T,fz,cap,e1,e2,e3⟩
 ·exact .inl ⟨hβ.trans e1,e2⟩
 ·exact .inr ⟨b,C,T,fz,cap,hβ.trans e1,(hb b e1).trans e2,e3⟩
theorem Xe.det{β:JM}{w:World}{n:Nat}{u':Value}(h:Xe β w i sz n u)(h':Xe β w i sz n u')(hs:0<sz)(hn:0<n):u=u':=by
 rcases h with⟨e1,e2,_⟩|⟨b,C,T,fz,cap,e1,e2,e3,_,e4⟩
 ·omega
 ·rcases h' with⟨q1,q2,_⟩|⟨b',C',T',fz',cap',q1,q2,q3,_,q4⟩
  ·omega
  ·rw[e1]at q1;cases q1;rw[e2]at q2;cases q2;have:cap=cap':=Nat.eq_of_mul_eq_mul_right hs (e3.symm.trans q3);rw[e4,q4,this]
theorem BK.JJL{k:BK}(h:k.r=some b):b∈k.all:=by
 unfold BK.all;rw[h];exact Vh
theorem JBj.mono{A:Nat→Prop}{β β':JM}{w w':World}{xs:List Dat}{h:Hd}(hv:JBj β w i sz xs h u)(ho:∃u,Own A w (β i).all (.own sz xs) u∧(β i).all.Nodup∧Xe β w i sz xs.length u∧(β i).r=(β i).all.head?)
  (hβ:β' i=β i)(hF:∀b∈(β i).all,w'.heap[b]? =w.heap[b]?):JBj β' w' i sz xs h u:=by
 obtain⟨u0,u1,q1,q2,q3⟩:=hv;obtain⟨u2,o1,o2,o3,_⟩:=ho;refine⟨u0,u1,q1.mono (by rw[hβ]) (fun b hb=>hF b (BK.JJL hb)),?_,q3⟩
 match hp:h.p with
 |[]=>rw[hp]at q2;exact q2
 |(k,c)::p=>
  rw[hp]at q2;have hn:0<xs.length:=by
   match u0,q2 with
   |.slice (some a) _ _,q2=>
    obtain⟨y,v,e,_⟩:=q2;unfold cellAt at e;cases ek:xs[k]? with
    |none=>rw[ek]at e;cases e
    |some z=>have:=(VB.1 ek).1;omega
  have hs:0<sz:=o1.sz0;have e:=q1.det o3 hs hn;rw[e]at q2⊢;exact TAt.mono o1 hF q2
theorem BK.JHN{β:JM}(h:β i=(some b:Option Nat)):(β i).has b:=by rw[h];exact BK.Jo.2 rfl
theorem Core.JSF(hc:Core β A w H)(i:Nat)(o:Obj)(b:Nat)(hi:H i=some o)(hl:o.live=true)(hb:β i=(some b:Option Nat)):¬A b:=hc.sep i o b hi hl (BK.JHN hb)
theorem Stp.refl(hc:Core β A w H):Stp β A w H β A w H where
 core:=hc
 vals _ _ h:=h
 os:=rfl
 tape:=rfl
 output:=rfl
 size:=Nat.le_refl _
 same _ _ _:=rfl
 loops _ r h:=⟨r,h⟩
 data _ h:=.inl h
 mine i o _ h hl hb:=.inr ⟨i,o,h,hl,hb⟩
theorem Stp.trans(h1:Stp β A w H β' A' w' H')(h2:Stp β' A' w' H' β'' A'' w'' H''):Stp β A w H β'' A'' w'' H'' where
 core:=h2.core
 vals c u h:=h2.vals c u (h1.vals c u h)
 os:=h2.os.trans h1.os
 tape:=h2.tape.trans h1.tape
 output:=h2.output.trans h1.output
 size:=Nat.le_trans h1.size h2.size
 same b hb hn:=by
  rw[h2.same b (Nat.lt_of_lt_of_le hb h1.size) ?_,h1.same b hb hn];intro i o hi ho hbi;rcases h1.mine i o b hi ho hbi with h|⟨i',o',hi',ho',hb'⟩
  ·omega
  ·exact hn i' o' hi' ho' hb'
 loops b r h:=by
  obtain⟨r',h'⟩:=h1.loops b r h;exact h2.loops b r' h'
 data b hb:=by
  rcases h2.data b hb with h|h|⟨i,o,hi,ho,hbi⟩
  ·exact h1.data b h
  ·exact .inr (.inl (Nat.le_trans h1.size h))
  ·rcases h1.mine i o b hi ho hbi with h|h
   ·exact .inr (.inl h)
   ·exact .inr (.inr h)
 mine i o b hi ho hbi:=by
  rcases h2.mine i o b hi ho hbi with h|⟨i',o',hi',ho',hb'⟩
  ·exact .inl (Nat.le_trans h1.size h)
  ·exact h1.mine i' o' b hi' ho' hb'
theorem JBC.mono(hv:∀c u,VRep β A w H c u→VRep β' A' w' H' c u)(hs:XG A w w')(hA:∀b,A b→A' b)(hβ:β' i=β i)
  (hb:∀b,(β i).has b→o.live=true→w'.heap[b]? =w.heap[b]?)(h:JBC β A w H i o):JBC β' A' w' H' i o:=by
 cases o with
 |box cs=>
  obtain⟨b,C,T,e1,e2,e3,e4,e5⟩:=h;exact⟨b,C,T,by rw[hβ,e1],by rw[hb b (by rw[e1];exact BK.Jo.2 rfl) rfl,e2],e3,e4,fun j c v h1 h2=>hv _ _ (e5 j c v h1 h2)⟩
 |row ver sz xs=>
  obtain⟨g1,g2,g3,⟨e1,e2⟩|⟨b,C,T,cap,e1,e2,e3,e4,e5,e6⟩⟩:=h
  ·exact⟨g1,g2,g3,.inl ⟨by rw[hβ,e1],e2⟩⟩
  ·exact⟨g1,g2,g3,.inr ⟨b,C,T,cap,by rw[hβ,e1],by rw[hb b (by rw[e1];exact BK.Jo.2 rfl) rfl,e2],e3,e4,e5,fun j c v h1 h2=>(e6 j c v h1 h2).mono hs hA⟩⟩
 |mapo es=>
  obtain⟨b,ents,clk,e1,e2,e3,e4,e5⟩:=h;exact⟨b,ents,clk,by rw[hβ,e1],by rw[hb b (by rw[e1];exact BK.Jo.2 rfl) rfl,e2],e3,fun j e m h1 h2=>⟨(e4 j e m h1 h2).1.mono hs hA,(e4 j e m h1 h2).2.mono hs hA⟩,e5⟩
 |lp l=>
  obtain⟨b,r,e1,e2,e3,e4,e6,e7,e8,e9,e10⟩:=h;refine⟨b,r,by rw[hβ,e1],by rw[hb b (by rw[e1];exact BK.Jo.2 rfl) rfl,e2],e3,e4,e6,e7,e8,e9,fun t v ht=>?_⟩;obtain⟨u,q1,q2⟩:=e10 t v ht;exact⟨u,q1,hv _ _ q2⟩
 |sit s p=>
  obtain⟨b,e1,e2,e3⟩:=h;exact⟨b,by rw[hβ,e1],by rw[hb b (by rw[e1];exact BK.Jo.2 rfl) rfl,e2],e3⟩
 |tre ver sv sz xs=>
  obtain⟨u,q1,q2,q3,q4⟩:=h;refine⟨u,?_,by rw[hβ];exact q2,q3.mono (by rw[hβ]) (fun b hr=>hb b (BK.JJL hr) rfl),by rw[hβ];exact q4⟩;rw[hβ];exact q1.mono hs hA fun b hF=>hb b hF rfl
 |fbox ds=>trivial
 |frz ver sz xs=>trivial
 |gone=>trivial
theorem Stp.oneG(hc:Core β A w H)(i₀:Nat)(o':Obj)(nb:BK)(hos:w'.os=w.os)(htape:w'.tape=w.tape)(hout:w'.output=w.output)
  (hsize:w.heap.size≤w'.heap.size)
  (hsame:∀b,b<w.heap.size→(∀o,H i₀=some o→o.live=true→¬(β i₀).has b)→w'.heap[b]? =w.heap[b]?)
  (hA:∀b,A b→A' b)(hA':∀b,A' b→A b∨w.heap.size≤b∨∃o,H i₀=some o∧o.live=true∧(β i₀).has b)(hold:∀b,A' b→b<w'.heap.size)
  (hnb:∀b,nb.has b→o'.live=true→(w.heap.size≤b∨∃o,H i₀=some o∧o.live=true∧(β i₀).has b)∧¬A' b)
  (hvals:∀c u,(∃off,c=.ref i₀ off)∨(∃ver,c=.ms i₀ ver)∨(∃ver off len,c=.sub i₀ ver off len)∨(∃ver k off,c=.el i₀ ver k off)∨c=.mp i₀∨(∃h,c=.tr i₀ h)→
   VRep β A w H c u→VRep (upd β i₀ nb) A' w' (upd H i₀ (some o')) c u)
  (hobj:(∀c u,VRep β A w H c u→VRep (upd β i₀ nb) A' w' (upd H i₀ (some o')) c u)→JBC (upd β i₀ nb) A' w' (upd H i₀ (some o')) i₀ o')
  (hlp:∀l,H i₀=some (.lp l)→∀b,(β i₀).has b→∃r',w'.heap[b]? =some (.loop r'):=by intro l hl;simp_all):
  Stp β A w H (upd β i₀ nb) A' w' (upd H i₀ (some o')):=by
 have hsA:XG A w w':=fun b hb=>hsame b (hc.old b hb) fun o h1 h2 h3=>hc.sep i₀ o b h1 h2 h3 hb
 have hoth:∀j o b,j≠i₀→H j=some o→o.live=true→(β j).has b→w'.heap[b]? =w.heap[b]? :=fun j o b hj h1 h2 h3=>
  hsame b (hc.lt h1 h2 h3) fun o2 g1 g2 g3=>hj (hc.inj j i₀ o o2 b h1 h2 g1 g2 h3 g3)
 have hd:∀x u,Rep A w x u→Rep A' w' x u:=fun x u h=>h.mono hsA hA
 have hall:∀c u,VRep β A w H c u→VRep (upd β i₀ nb) A' w' (upd H i₀ (some o')) c u:=by
  refine VRep.JCQ hd ?_ ?_ ?_ ?_ ?_ ?_
  ·intro i off u h;by_cases hi:i=i₀
   ·subst hi;exact hvals _ _ (.inl ⟨off,rfl⟩) h
   ·cases h with
    |ref _ _ b p _ hu h0 h1 h2=>exact .ref _ _ b p _ hu (by rwa[JN _ _ hi]) (by rw[JN _ _ hi,JN _ _ hi];exact h1) (by rw[JN _ _ hi];exact fun ds hds=>hd _ _ (h2 ds hds))
  ·intro i ver u h;by_cases hi:i=i₀
   ·subst hi;exact hvals _ _ (.inr (.inl ⟨ver,rfl⟩)) h
   ·cases h with
    |ms _ _ _ hu h0 h1 h2=>
     refine .ms _ _ _ hu (by rwa[JN _ _ hi]) ?_ (by rw[JN _ _ hi];exact fun sz xs hds=>hd _ _ (h2 sz xs hds));rw[JN _ _ hi];intro v' sz xs hr;obtain⟨hle,hx⟩:=h1 v' sz xs hr;refine⟨hle,fun hve=>?_⟩;rcases hx hve with⟨e1,e2⟩|⟨b,C,T,fz,cap,e1,e2,e3⟩
     ·exact .inl ⟨by rw[JN _ _ hi];exact e1,e2⟩
     ·exact .inr ⟨b,C,T,fz,cap,by rw[JN _ _ hi];exact e1,by rw[hoth i _ b hi hr rfl (by rw[e1];exact BK.Jo.2 rfl)];exact e2,e3⟩
  ·intro i ver off len u h;by_cases hi:i=i₀
   ·subst hi;exact hvals _ _ (.inr (.inr (.inl ⟨ver,off,len,rfl⟩))) h
   ·cases h with
    |sub _ _ _ _ _ hu h0 h1 h2=>
     refine .sub _ _ _ _ _ hu (by rwa[JN _ _ hi]) ?_ (by rw[JN _ _ hi];exact fun sz xs hds=>hd _ _ (h2 sz xs hds));rw[JN _ _ hi];intro v' sz xs hr;obtain⟨hle,hx⟩:=h1 v' sz xs hr;refine⟨hle,fun hve=>?_⟩;obtain⟨g,⟨e1,e2⟩|⟨b,C,T,fz,cap,ad,e1,e2,e3⟩⟩:=hx hve
     ·exact⟨g,.inl ⟨by rw[JN _ _ hi];exact e1,e2⟩⟩
     ·exact⟨g,.inr ⟨b,C,T,fz,cap,ad,by rw[JN _ _ hi];exact e1,by rw[hoth i _ b hi hr rfl (by rw[e1];exact BK.Jo.2 rfl)];exact e2,e3⟩⟩
  ·intro i ver k off u h;by_cases hi:i=i₀
   ·subst hi;exact hvals _ _ (.inr (.inr (.inr (.inl ⟨ver,k,off,rfl⟩)))) h
   ·cases h with
    |el _ _ _ _ b p _ hu h0 h1=>exact .el _ _ _ _ b p _ hu (by rwa[JN _ _ hi]) (by rw[JN _ _ hi,JN _ _ hi];exact h1)
  ·intro i u h;by_cases hi:i=i₀
   ·subst hi;exact hvals _ _ (.inr (.inr (.inr (.inr (.inl rfl))))) h
   ·cases h with
    |mp _ _ hu h0 h1 h2 h3=>exact .mp _ _ hu (by rwa[JN _ _ hi]) (by rw[JN _ _ hi,JN _ _ hi];exact h1) (by rw[JN _ _ hi,JN _ _ hi];exact h2) (by rw[JN _ _ hi,JN _ _ hi];exact h3)
  ·intro i h u hv;by_cases hi:i=i₀
   ·subst hi;exact hvals _ _ (.inr (.inr (.inr (.inr (.inr ⟨h,rfl⟩))))) hv
   ·cases hv with
    |tr _ _ _ hu h0 hk h1=>
     refine .tr _ _ _ hu (by rwa[JN _ _ hi]) hk ?_;rw[JN _ _ hi];intro v' s' sz xs hr;obtain⟨l1,l2,h2⟩:=h1 v' s' sz xs hr;exact⟨l1,l2,fun g1 g2=>(h2 g1 g2).mono (hc.objs _ _ hr) (JN _ _ hi) fun b hb=>hoth i _ b hi hr rfl hb⟩
 have hmine:∀i o b,upd H i₀ (some o') i=some o→o.live=true→(upd β i₀ nb i).has b→w.heap.size≤b∨∃i' o2,H i'=some o2∧o2.live=true∧(β i').has b:=by
  intro i o b h1 h2 h3;by_cases hi:i=i₀
  ·subst hi;rw[JB]at h1 h3;cases h1;rcases(hnb b h3 h2).1 with h|⟨o,g1,g2,g3⟩
   ·exact .inl h
   ·exact .inr ⟨_,o,g1,g2,g3⟩
  ·rw[JN _ _ hi]at h1 h3;exact .inr ⟨i,o,h1,h2,h3⟩
 refine⟨⟨?_,?_,?_,hold,fun g cs hg=>(hc.glob g cs hg).mono hsA hA⟩,hall,hos,htape,hout,hsize,?_,?_,?_,hmine⟩
 ·intro i o h;by_cases hi:i=i₀
  ·subst hi;rw[JB]at h;cases h;exact hobj hall
  ·rw[JN _ _ hi]at h;exact(hc.objs i o h).mono hall hsA hA (JN _ _ hi) fun b hb hl=>hoth i o b hi h hl hb
 ·intro i j o o2 b h1 l1 h2 l2 hb1 hb2;by_cases hi:i=i₀
  ·by_cases hj:j=i₀
   ·rw[hi,hj]
   ·exfalso;subst hi
    rw[JB]at h1 hb1;cases h1;rw[JN _ _ hj]at h2 hb2;rcases(hnb b hb1 l1).1 with h|⟨o3,g1,g2,g3⟩
    ·have:=hc.lt h2 l2 hb2;omega
    ·exact hj (hc.inj j _ o2 o3 b h2 l2 g1 g2 hb2 g3)
  ·rw[JN _ _ hi]at h1 hb1;by_cases hj:j=i₀
   ·exfalso;subst hj
    rw[JB]at h2 hb2;cases h2;rcases(hnb b hb2 l2).1 with h|⟨o3,g1,g2,g3⟩
    ·have:=hc.lt h1 l1 hb1;omega
    ·exact hi (hc.inj i _ o o3 b h1 l1 g1 g2 hb1 g3)
   ·rw[JN _ _ hj]at h2 hb2;exact hc.inj i j o o2 b h1 l1 h2 l2 hb1 hb2
 ·intro i o b h1 h2 h3 hAb;by_cases hi:i=i₀
  ·subst hi;rw[JB]at h1 h3;cases h1;exact(hnb b h3 h2).2 hAb
  ·rw[JN _ _ hi]at h1 h3;rcases hA' b hAb with h|h|⟨o3,g1,g2,g3⟩
   ·exact hc.sep i o b h1 h2 h3 h
   ·have:=hc.lt h1 h2 h3;omega
   ·exact hi (hc.inj i _ o o3 b h1 h2 g1 g2 h3 g3)
 ·intro b hb hn;exact hsame b hb fun o h1 h2=>hn _ o h1 h2
 ·intro b r hbr;by_cases hex:∃o,H i₀=some o∧o.live=true∧(β i₀).has b
  ·obtain⟨o,g1,g2,g3⟩:=hex;have hob:=hc.objs _ _ g1;cases o with
   |box cs=>obtain⟨b',C,T,e1,e2,_⟩:=hob;rw[e1]at g3;cases BK.Jo.1 g3;rw[e2]at hbr;cases hbr
   |row ver sz xs=>
    obtain⟨_,_,_,⟨e1,_⟩|⟨b',C,T,cap,e1,e2,_⟩⟩:=hob
    ·rw[e1]at g3;cases BK.Jo.1 g3
    ·rw[e1]at g3;cases BK.Jo.1 g3;rw[e2]at hbr;cases hbr
   |mapo es=>obtain⟨b',C,T,e1,e2,_⟩:=hob;rw[e1]at g3;cases BK.Jo.1 g3;rw[e2]at hbr;cases hbr
   |lp l=>exact hlp l g1 b g3
   |sit s p=>obtain⟨b',e1,e2,_⟩:=hob;rw[e1]at g3;cases BK.Jo.1 g3;rw[e2]at hbr;cases hbr
   |tre ver sv sz xs=>
    obtain⟨u,q1,_⟩:=hob;obtain⟨C,T,fz,q⟩:=q1.JHM b g3;rw[q]at hbr;cases hbr
   |fbox ds=>cases g2
   |frz ver sz xs=>cases g2
   |gone=>cases g2
  ·exact⟨r,by rw[hsame b (Array.getElem?_eq_some_iff.1 hbr).1 fun o h1 h2 h3=>hex ⟨o,h1,h2,h3⟩];exact hbr⟩
 ·intro b hb;rcases hA' b hb with h|h|⟨o,g1,g2,g3⟩
  ·exact .inl h
  ·exact .inr (.inl h)
  ·exact .inr (.inr ⟨_,o,g1,g2,g3⟩)
theorem Core.flatB(hc:Core β A w H)(hi:H i=some o)(hl:o.live=true)(hnt:∀a b c d,o≠ .tre a b c d):(β i).has b↔β i=some b:=by
 have hob:=hc.objs i o hi;have key:∀k:Option Nat,β i=k→((β i).has b↔β i=some b):=fun k e=>by
  rw[e,BK.Jo];constructor
  ·rintro rfl;rfl
  ·intro h;exact(BK.mk.inj h).1
 cases o with
 |box cs=>obtain⟨b',C,T,e1,e2,_⟩:=hob;exact key _ e1
 |row ver sz xs=>
  obtain⟨_,_,_,⟨e1,_⟩|⟨b',C,T,cap,e1,e2,_⟩⟩:=hob
  ·exact key _ e1
  ·exact key _ e1
 |mapo es=>obtain⟨b',C,T,e1,e2,_⟩:=hob;exact key _ e1
 |lp l=>obtain⟨b',r,e1,e2,_⟩:=hob;exact key _ e1
 |sit s p=>obtain⟨b',e1,e2,_⟩:=hob;exact key _ e1
 |tre a b c d=>exact absurd rfl (hnt a b c d)
 |fbox ds=>cases hl
 |frz ver sz xs=>cases hl
 |gone=>cases hl
theorem Core.JKL(hc:Core β A w H)(hi:H i=some o)(hl:o.live=true)(hnt:∀a b c d,o≠ .tre a b c d):β i=((β i).r:Option Nat):=by
 have hob:=hc.objs i o hi;have key:∀k:Option Nat,β i=k→β i=((β i).r:Option Nat):=fun k e=>by rw[e]
 cases o with
 |box cs=>obtain⟨b',C,T,e1,e2,_⟩:=hob;exact key _ e1
 |row ver sz xs=>
  obtain⟨_,_,_,⟨e1,_⟩|⟨b',C,T,cap,e1,e2,_⟩⟩:=hob
  ·exact key _ e1
  ·exact key _ e1
 |mapo es=>obtain⟨b',C,T,e1,e2,_⟩:=hob;exact key _ e1
 |lp l=>obtain⟨b',r,e1,e2,_⟩:=hob;exact key _ e1
 |sit s p=>obtain⟨b',e1,e2,_⟩:=hob;exact key _ e1
 |tre a b c d=>exact absurd rfl (hnt a b c d)
 |fbox ds=>cases hl
 |frz ver sz xs=>cases hl
 |gone=>cases hl
theorem Stp.one(hc:Core β A w H)(i₀:Nat)(o':Obj)(nb:Option Nat)(hos:w'.os=w.os)(htape:w'.tape=w.tape)(hout:w'.output=w.output)
  (hsize:w.heap.size≤w'.heap.size)
  (hsame:∀b,b<w.heap.size→(∀o,H i₀=some o→o.live=true→β i₀≠some b)→w'.heap[b]? =w.heap[b]?)
  (hA:∀b,A b→A' b)(hA':∀b,A' b→A b∨w.heap.size≤b∨∃o,H i₀=some o∧o.live=true∧β i₀=some b)(hold:∀b,A' b→b<w'.heap.size)
  (hnb:∀b,nb=some b→o'.live=true→(w.heap.size≤b∨∃o,H i₀=some o∧o.live=true∧β i₀=some b)∧¬A' b)
  (hvals:∀c u,(∃off,c=.ref i₀ off)∨(∃ver,c=.ms i₀ ver)∨(∃ver off len,c=.sub i₀ ver off len)∨(∃ver k off,c=.el i₀ ver k off)∨c=.mp i₀→
   VRep β A w H c u→VRep (upd β i₀ (nb:BK)) A' w' (upd H i₀ (some o')) c u)
  (hobj:(∀c u,VRep β A w H c u→VRep (upd β i₀ (nb:BK)) A' w' (upd H i₀ (some o')) c u)→JBC (upd β i₀ (nb:BK)) A' w' (upd H i₀ (some o')) i₀ o')
  (hlp:∀l,H i₀=some (.lp l)→∀b:Nat,β i₀=(some b:Option Nat)→∃r',w'.heap[b]? =some (.loop r'):=by intro l hl;simp_all)
  (hnt:∀a b c d,H i₀≠some (.tre a b c d):=by intros;simp_all)(hnt':∀a b c d,o'≠ .tre a b c d:=by intros;nofun):
  Stp β A w H (upd β i₀ (nb:BK)) A' w' (upd H i₀ (some o')):=by
 have fl:∀o,H i₀=some o→o.live=true→∀b,(β i₀).has b↔β i₀=some b:=fun o h1 h2 b=>hc.flatB h1 h2 (fun a b c d e=>hnt a b c d (e▸h1))
 refine Stp.oneG hc i₀ o' nb hos htape hout hsize ?_ hA ?_ hold ?_ ?_ hobj ?_
 ·intro b hb hn;exact hsame b hb fun o h1 h2 h3=>hn o h1 h2 ((fl o h1 h2 b).2 h3)
 ·intro b hb;rcases hA' b hb with h|h|⟨o,h1,h2,h3⟩
  ·exact .inl h
  ·exact .inr (.inl h)
  ·exact .inr (.inr ⟨o,h1,h2,(fl o h1 h2 b).2 h3⟩)
 ·intro b hb hl;obtain⟨h,hn⟩:=hnb b (BK.Jo.1 hb) hl;refine⟨?_,hn⟩;rcases h with h|⟨o,h1,h2,h3⟩
  ·exact .inl h
  ·exact .inr ⟨o,h1,h2,(fl o h1 h2 b).2 h3⟩
 ·rintro c u hcase hv;rcases hcase with h|h|h|h|h|⟨h,rfl⟩
  ·exact hvals c u (.inl h) hv
  ·exact hvals c u (.inr (.inl h)) hv
  ·exact hvals c u (.inr (.inr (.inl h))) hv
  ·exact hvals c u (.inr (.inr (.inr (.inl h)))) hv
  ·exact hvals c u (.inr (.inr (.inr (.inr h)))) hv
  ·cases hv with
   |tr _ _ _ hu h0 hk h1=>
    refine .tr _ _ _ hu sU hk ?_;intro v' s' sz xs hr;rw[JB]at hr;exact absurd (Option.some.inj hr) (hnt' _ _ _ _)
 ·intro l hl b hb;exact hlp l hl b ((fl _ hl rfl b).1 hb)
theorem Stp.new(hc:Core β A w H)(hos:w'.os=w.os)(htape:w'.tape=w.tape)(hout:w'.output=w.output)
  (hsize:w.heap.size≤w'.heap.size)(hsame:∀b,b<w.heap.size→w'.heap[b]? =w.heap[b]?)
  (hA:∀b,A b→A' b)(hA':∀b,A' b→A b∨w.heap.size≤b)(hold:∀b,A' b→b<w'.heap.size):
  Stp β A w H β A' w' H:=by
 have hsA:XG A w w':=fun b hb=>hsame b (hc.old b hb)
 have hoth:∀j o b,H j=some o→o.live=true→(β j).has b→w'.heap[b]? =w.heap[b]? :=fun j o b h1 h2 h3=>hsame b (hc.lt h1 h2 h3)
 have hd:∀x u,Rep A w x u→Rep A' w' x u:=fun x u h=>h.mono hsA hA
 have hall:∀c u,VRep β A w H c u→VRep β A' w' H c u:=by
  refine VRep.JCQ hd ?_ ?_ ?_ ?_ ?_ ?_
  ·intro i off u h;cases h with
   |ref _ _ b p _ hu h0 h1 h2=>exact .ref _ _ b p _ hu h0 h1 fun ds hds=>hd _ _ (h2 ds hds)
  ·intro i ver u h;cases h with
   |ms _ _ _ hu h0 h1 h2=>
    refine .ms _ _ _ hu h0 ?_ fun sz xs hds=>hd _ _ (h2 sz xs hds)
    intro v' sz xs hr;obtain⟨hle,hx⟩:=h1 v' sz xs hr;refine⟨hle,fun hve=>?_⟩;rcases hx hve with⟨e1,e2⟩|⟨b,C,T,fz,cap,e1,e2,e3⟩
    ·exact .inl ⟨e1,e2⟩
    ·exact .inr ⟨b,C,T,fz,cap,e1,by rw[hoth i _ b hr rfl (by rw[e1];exact BK.Jo.2 rfl)];exact e2,e3⟩
  ·intro i ver off len u h;cases h with
   |sub _ _ _ _ _ hu h0 h1 h2=>
    refine .sub _ _ _ _ _ hu h0 ?_ fun sz xs hds=>hd _ _ (h2 sz xs hds)
    intro v' sz xs hr;obtain⟨hle,hx⟩:=h1 v' sz xs hr;refine⟨hle,fun hve=>?_⟩;obtain⟨g,⟨e1,e2⟩|⟨b,C,T,fz,cap,ad,e1,e2,e3⟩⟩:=hx hve
    ·exact⟨g,.inl ⟨e1,e2⟩⟩
    ·exact⟨g,.inr ⟨b,C,T,fz,cap,ad,e1,by rw[hoth i _ b hr rfl (by rw[e1];exact BK.Jo.2 rfl)];exact e2,e3⟩⟩
  ·intro i ver k off u h;cases h with
   |el _ _ _ _ b p _ hu h0 h1=>exact .el _ _ _ _ b p _ hu h0 h1
  ·intro i u h;cases h with
   |mp _ _ hu h0 h1 h2 h3=>exact .mp _ _ hu h0 h1 h2 h3
  ·intro i h u hv;cases hv with
   |tr _ _ _ hu h0 hk h1=>
    refine .tr _ _ _ hu h0 hk fun v' s' sz xs hr=>?_
    obtain⟨l1,l2,h2⟩:=h1 v' s' sz xs hr;exact⟨l1,l2,fun g1 g2=>(h2 g1 g2).mono (hc.objs _ _ hr) rfl fun b hb=>hoth i _ b hr rfl hb⟩
 refine⟨⟨fun i o h=>(hc.objs i o h).mono hall hsA hA rfl fun b hb hl=>hoth i o b h hl hb,hc.inj,?_,hold,fun g cs hg=>(hc.glob g cs hg).mono hsA hA⟩,hall,hos,htape,hout,hsize,fun b hb _=>hsame b hb,fun b r hbr=>⟨r,by rw[hsame b (Array.getElem?_eq_some_iff.1 hbr).1];exact hbr⟩,?_,fun i o b h1 h2 h3=>.inr ⟨i,o,h1,h2,h3⟩⟩
 ·intro i o b h1 h2 h3 hAb;rcases hA' b hAb with h|h
  ·exact hc.sep i o b h1 h2 h3 h
  ·have:=hc.lt h1 h2 h3;omega
 ·intro b hb;rcases hA' b hb with h|h
  ·exact .inl h
  ·exact .inr (.inl h)
theorem Stp.draw(hc:Core β A w H){w₁:World}(hh:w₁.heap=w.heap)(ho:w₁.os=w.os)(ht:w₁.tape=w.tape)(hp:w₁.output=w.output):Stp β A w H β A w₁ H:=
 Stp.new hc ho ht hp (by rw[hh];exact Nat.le_refl _) (fun b _=>by rw[hh]) (fun _ h=>h) (fun _ h=>.inl h) (fun b h=>by rw[hh];exact hc.old b h)
end
end Av
namespace Av
open Go
variable [Glb]
variable {y x:Dat}{c sz k:Nat}{xs:List Dat}{Fs:List (List Nat)}
def XR:Dat→Bool
 |.agg _=>false
 |_=>true
def X3(x:Dat)(c:Nat)(y:Dat):Dat:=match x with
 |.agg cs=>.agg (cs.set c y)
 |_=>y
def setAt:Dat→List (Nat×Nat)→Nat→Nat→Dat→Dat
 |.own sz xs,[],k,c,y=>.own sz (xs.set k (X3 (xs.getD k .opq) c y))
 |.own sz xs,(k',c')::p,k,c,y=>.own sz (xs.set k' (X3 (xs.getD k' .opq) c' (setAt ((xs.getD k' .opq).cells.getD c' .opq) p k c y)))
 |x,_,_,_,_=>x
theorem Xw(h:XR y=true):y.cells=[y]:=by cases y<;>first|rfl|cases h
theorem Z4(hy:XR y=true)(hc:c<x.cells.length):(X3 x c y).cells=x.cells.set c y:=by
 by_cases hx:XR x=true
 ·have h1:=Xw hx;rw[h1]at hc⊢;have h0:c=0:=sX hc;subst h0;have:X3 x 0 y=y:=by cases x<;>first|rfl|cases hx
  rw[this,Xw hy];rfl
 ·cases x<;>first|rfl|exact absurd rfl hx
theorem Yh(hy:XR y=true):∀{xs:List Dat} {k c:Nat},(∀x∈xs,x.cells.length=sz)→k<xs.length→c<sz→
  flat (xs.set k (X3 (xs.getD k .opq) c y))=(flat xs).set (k*sz+c) y
 |[],k,c,_,hk,_=>by simp at hk
 |x::r,0,c,h,_,hc=>by
  have h1:=h x Vh;have e:(X3 x c y).cells=x.cells.set c y:=Z4 hy oM;simp only[List.getD_cons_zero,List.set_cons_zero,flat,List.flatMap_cons,Nat.zero_mul,Nat.zero_add,e];rw[List.set_append_left _ _ oM]
 |x::r,k+1,c,h,hk,hc=>by
  have h1:=h x Vh;have ih:=Yh (xs:=r) (k:=k) (c:=c) hy (fun y hy=>h y (Vn _ hy)) (sX hk) hc;have e:(k+1)*sz+c-x.cells.length=k*sz+c:=by rw[Nat.add_mul,h1];omega
  simp only[flat]at ih;simp only[List.getD_cons_succ,List.set_cons_succ,flat,List.flatMap_cons,ih];rw[List.set_append_right _ _ (by rw[Nat.add_mul,h1];omega),e]
theorem JFY(hy:XR y=true)(h:∀x∈xs,x.cells.length=sz)(hk:k<xs.length)(hc:c<sz):∀x∈xs.set k (X3 (xs.getD k .opq) c y),x.cells.length=sz:=by
 intro x hx;rcases List.mem_or_eq_of_mem_set hx with hx|rfl
 ·exact h x hx
 ·have h1:=h xs[k] (Vk hk);have e:xs.getD k .opq=xs[k]:=by simp[List.getD,Vl hk]
  rw[e,Z4 hy oM,List.length_set,h1]
theorem ZI(h:cellAt xs k c=some y)(hsz:∀x∈xs,x.cells.length=sz):k<xs.length∧c<sz∧(xs.getD k .opq).cells.getD c .opq=y:=by
 unfold cellAt at h;cases e:xs[k]? with
 |none=>rw[e]at h;cases h
 |some z=>
  rw[e]at h;obtain⟨hk,hz⟩:=VB.1 e;have hl:=hsz z (List.mem_of_getElem? e);simp only[Option.bind_some]at h;have hc:=(VB.1 h).1;refine⟨hk,oM,?_⟩;simp only[List.getD,e,Vp,h]
theorem JLp(hk:k<xs.length)(hc:c<sz)(hsz:∀x∈xs,x.cells.length=sz):cellAt xs k c=some ((xs.getD k .opq).cells.getD c .opq):=by
 have hl:=hsz xs[k] (Vk hk);unfold cellAt;rw[Vl hk];simp only[Option.bind_some,List.getD,Vl hk,Vp];rw[Vl oM,Vp]
theorem Um{b:Nat}:b∈Fs.flatten↔∃(i:Nat) (l:List Nat),Fs[i]? =some l∧b∈l:=by
 rw[List.mem_flatten];constructor
 ·rintro⟨l,hl,hb⟩;obtain⟨i,hi⟩:=List.getElem?_of_mem hl;exact⟨i,l,hi,hb⟩
 ·rintro⟨i,l,hi,hb⟩;exact⟨l,List.mem_of_getElem? hi,hb⟩
theorem Yw(h:Fs.flatten.Nodup){i j:Nat}{l m:List Nat}(hi:Fs[i]? =some l)(hj:Fs[j]? =some m)(hij:i≠j){b:Nat}(hb:b∈l):b∉m:=by
 have h2:=(List.pairwise_flatten.1 h).2;rw[List.pairwise_iff_getElem]at h2;obtain⟨hil,rfl⟩:=VB.1 hi;obtain⟨hjl,rfl⟩:=VB.1 hj;intro hm;rcases Nat.lt_or_gt_of_ne hij with hlt|hlt
 ·exact h2 i j hil hjl hlt b hb b hm rfl
 ·exact h2 j i hjl hil hlt b hm b hb rfl
theorem JMk{b0:Nat}{j:Nat}{Fj F0 G G':List Nat}(hnd:(b0::Fs.flatten).Nodup)(hj:Fs[j]? =some Fj)(h0:∀b∈F0,b∈Fj)(hG:∀b∈G,b∈b0::Fs.flatten→b∈F0)(hG':G'.Nodup)
  (hm:∀b,b∈G'↔(b∈Fj∧b∉F0)∨b∈G):(b0::(Fs.set j G').flatten).Nodup∧∀b,b∈b0::(Fs.set j G').flatten↔(b∈b0::Fs.flatten∧b∉F0)∨b∈G:=by
 obtain⟨n1,n2⟩:=List.nodup_cons.1 hnd;have hjl:=(VB.1 hj).1;have hset:∀i l,(Fs.set j G')[i]? =some l→(i=j∧l=G')∨(i≠j∧Fs[i]? =some l):=by
  intro i l h;rw[List.getElem?_set]at h;split at h
  ·rename_i e;subst e;cases h;exact .inl ⟨rfl,rfl⟩
  ·rename_i e;exact .inr ⟨fun q=>e q.symm,h⟩
 have hG'in:∀b∈G',b∈b0::Fs.flatten→b∈Fj:=by
  intro b hb hin;rcases(hm b).1 hb with⟨h,_⟩|h
  ·exact h
  ·exact h0 b (hG b h hin)
 have hmem:∀b,b∈(Fs.set j G').flatten↔b∈G'∨∃(i:Nat) (l:List Nat),i≠j∧Fs[i]? =some l∧b∈l:=by
  intro b;rw[Um];constructor
  ·rintro⟨i,l,hi,hb⟩;rcases hset i l hi with⟨rfl,rfl⟩|⟨hne,hi⟩
   ·exact .inl hb
   ·exact .inr ⟨i,l,hne,hi,hb⟩
  ·rintro(hb|⟨i,l,hne,hi,hb⟩)
   ·exact⟨j,G',by rw[List.getElem?_set_self hjl],hb⟩
   ·exact⟨i,l,by rw[List.getElem?_set_ne (Ne.symm hne)];exact hi,hb⟩
 have hb0:b0∉G':=by
  intro hb;rcases(hm b0).1 hb with⟨h,_⟩|h
  ·exact n1 (Um.2 ⟨j,Fj,hj,h⟩)
  ·exact n1 (Um.2 ⟨j,Fj,hj,h0 _ (hG b0 h Vh)⟩)
 refine⟨List.nodup_cons.2 ⟨?_,?_⟩,?_⟩
 ·rw[hmem];rintro(h|⟨i,l,_,hi,hb⟩)
  ·exact hb0 h
  ·exact n1 (Um.2 ⟨i,l,hi,hb⟩)
 ·refine List.pairwise_flatten.2 ⟨?_,?_⟩
  ·intro l hl;obtain⟨i,hi⟩:=List.getElem?_of_mem hl;rcases hset i l hi with⟨_,rfl⟩|⟨_,hi⟩
   ·exact hG'
   ·exact(List.pairwise_flatten.1 n2).1 l (List.mem_of_getElem? hi)
  ·rw[List.pairwise_iff_getElem];intro i i' hi hi' hlt x hx y hy hxy;subst hxy;rcases hset i _ (Vl hi)with⟨e1,e2⟩|⟨e1,e2⟩
   ·rw[e2]at hx;rcases hset i' _ (Vl hi')with⟨q1,q2⟩|⟨q1,q2⟩
    ·omega
    ·have:=hG'in x hx (Vn _ (Um.2 ⟨i',_,q2,hy⟩));exact Yw n2 hj q2 (Ne.symm q1) this hy
   ·rcases hset i' _ (Vl hi')with⟨q1,q2⟩|⟨q1,q2⟩
    ·rw[q2]at hy;have:=hG'in x hy (Vn _ (Um.2 ⟨i,_,e2,hx⟩));exact Yw n2 hj e2 (Ne.symm e1) this hx
    ·exact Yw n2 e2 q2 oM hx hy
 ·intro b;rw[VA,hmem,hm];constructor
  ·rintro(rfl|(⟨h1,h2⟩|h)|⟨i,l,hne,hi,hb⟩)
   ·exact .inl ⟨Vh,fun h=>n1 (Um.2 ⟨j,Fj,hj,h0 _ h⟩)⟩
   ·exact .inl ⟨Vn _ (Um.2 ⟨j,Fj,hj,h1⟩),h2⟩
   ·exact .inr h
   ·exact .inl ⟨Vn _ (Um.2 ⟨i,l,hi,hb⟩),fun h=>Yw n2 hi hj hne hb (h0 _ h)⟩
  ·rintro(⟨h1,h2⟩|h)
   ·rcases VA.1 h1 with rfl|h1
    ·exact .inl rfl
    ·obtain⟨i,l,hi,hb⟩:=Um.1 h1;by_cases e:i=j
     ·subst e;rw[hj]at hi;cases hi;exact .inr (.inl (.inl ⟨hb,h2⟩))
     ·exact .inr (.inr ⟨i,l,e,hi,hb⟩)
   ·exact .inr (.inl (.inr h))
theorem XI{p:List (Nat×Nat)}(h:nodeAt x p=some y):∃sz xs,x=.own sz xs:=by
 cases x<;>first|exact⟨_,_,rfl⟩|(cases p<;>simp[nodeAt]at h)
theorem JDs(hx:∃sz xs,x=.own sz xs)(p:List (Nat×Nat))(k c:Nat)(y:Dat):XR (setAt x p k c y)=true:=by
 obtain⟨sz,xs,rfl⟩:=hx
 match p with
 |[]=>rfl
 |(_,_)::_=>rfl
theorem Own.set{A:Nat→Prop}{w:World}{F:List Nat}{u:Value}(h:Own A w F x u):F.Nodup→∀{p:List (Nat×Nat)} {k c b n cap sz:Nat} {ys:List Dat},
  TAt w x u p (.slice (some ⟨b,0,none⟩) n cap)→nodeAt x p=some (.own sz ys)→k<ys.length→c<sz→
  ∃F0 v0 C T,b∈F∧w.heap[b]? =some (.cells C T (0,0))∧C[k*sz+c]? =some v0∧v0.oneCell'=true∧C.size=cap*sz∧n=ys.length∧n≤cap∧(∀x∈ys,x.cells.length=sz)∧Own A w F0 ((ys.getD k .opq).cells.getD c .opq) v0∧(∀b'∈F0,b'∈F∧b'≠b)∧F0.Nodup∧
   ∀(A':Nat→Prop) (w':World) (G:List Nat) (y:Dat) (v:Value),XG A w w'→(∀b,A b→A' b)→(∀b'∈F,b'∉F0→b'≠b→w'.heap[b']? =w.heap[b']?)→w'.heap[b]? =some (.cells (C.setIfInBounds (k*sz+c) v) T (0,0))→
    Own A' w' G y v→XR y=true→v.oneCell'=true→G.Nodup→(∀b'∈G,b'∈F→b'∈F0)→
    ∃F',Own A' w' F' (setAt x p k c y) u∧F'.Nodup∧(∀b',b'∈F'↔(b'∈F∧b'∉F0)∨b'∈G)∧F'.head? =F.head?:=by
 induction h with
 |dat x u h=>
  intro _ p k c b n cap sz ys _ hn _ _;obtain⟨sz',xs,rfl⟩:=XI hn;cases h
 |nil sz0 a hs=>
  intro _ p k c b n cap sz ys _ hn hk hc
  match p,hn with
  |[],hn=>cases hn;simp at hk
  |(k',c')::p,hn=>simp[nodeAt,cellAt]at hn
 |row sz0 xs b0 C0 T0 cap0 n0 Fs hh hC hn0 hl hcl hs hsz hFl h1 hv ih=>
  intro hnd p k c b n cap sz ys ha hn hk hc;have hxl:=UB hsz;have hCs:(flat xs).length≤C0.size:=by rw[hxl,hC];exact Nat.mul_le_mul_right _ hl
  have hidx:∀{k c:Nat},k<xs.length→c<sz0→k*sz0+c<(flat xs).length:=by
   intro k c hk hc;rw[hxl];have:k*sz0+sz0≤xs.length*sz0:=by rw[←Nat.succ_mul];exact Nat.mul_le_mul_right _ hk
   omega
  obtain⟨n1,n2⟩:=List.nodup_cons.1 hnd
  match p,ha,hn with
  |[],ha,hn=>
   cases hn;cases ha;have hj:=hidx hk hc;have hfj:(flat xs)[k*sz0+c]? =some ((xs.getD k .opq).cells.getD c .opq):=(XQ hsz hc).trans (JLp hk hc hsz);have hFj:Fs[k*sz0+c]? =some Fs[k*sz0+c]:=Vl oM;have hCj:C0[k*sz0+c]? =some C0[k*sz0+c]:=Array.getElem?_eq_getElem oM;have hFin:∀b'∈Fs[k*sz0+c],b'∈Fs.flatten:=fun b' hb'=>Um.2 ⟨_,_,hFj,hb'⟩
   refine⟨Fs[k*sz0+c],C0[k*sz0+c],C0,T0,Vh,hh,hCj,h1 _ _ hj hCj,hC,hn0,oM,hsz,hv _ _ _ _ hfj hCj hFj,fun b' hb'=>⟨Vn _ (hFin b' hb'),fun e=>n1 (e▸hFin b' hb')⟩,(List.pairwise_flatten.1 n2).1 _ (List.mem_of_getElem? hFj),?_⟩;intro A' w' G y v hsA hA hsame hb' hy hcy h1v hGn hGd;obtain⟨g1,g2⟩:=JMk (F0:=Fs[k*sz0+c]) (G:=G) (G':=G) hnd hFj (fun _ h=>h) hGd hGn (fun b=>⟨.inr,fun h=>h.elim (fun q=>absurd q.1 q.2) id⟩);refine⟨_,?_,g1,g2,rfl⟩;refine .row sz0 _ b0 _ T0 cap0 n0 (Fs.set (k*sz0+c) G) hb' (by rw[Array.size_setIfInBounds];exact hC) (by rw[List.length_set];exact hn0) (by rw[List.length_set];exact hl) (by rw[List.length_set];exact hcl) hs (JFY hcy hsz hk hc)
    (by rw[Yh hcy hsz hk hc,List.length_set,List.length_set];exact hFl) ?_ ?_
   ·rw[Yh hcy hsz hk hc,List.length_set];intro i z hi hz;rw[Array.getElem?_setIfInBounds]at hz;split at hz
    ·split at hz
     ·cases hz;exact h1v
     ·cases hz
    ·exact h1 i z hi hz
   ·rw[Yh hcy hsz hk hc];intro i z t Fi hz ht hFi;rw[List.getElem?_set]at hz hFi;rw[Array.getElem?_setIfInBounds]at ht;by_cases e:k*sz0+c=i
    ·simp only[e,if_true]at hz ht hFi;subst e;rw[if_pos hj]at hz;rw[if_pos oM]at ht;rw[if_pos oM]at hFi;cases hz;cases ht;cases hFi;exact hy
    ·rw[if_neg e]at hz ht hFi;refine(hv i z t Fi hz ht hFi).mono hsA hA fun b' hb''=>hsame b' (Vn _ (Um.2 ⟨i,Fi,hFi,hb''⟩)) (Yw n2 hFi hFj (Ne.symm e) hb'') fun e'=>n1 (Um.2 ⟨i,Fi,hFi,e'▸hb''⟩)
  |(k',c')::p,ha,hn=>
   obtain⟨y',v',e1,e2,e3⟩:=ha;simp only[nodeAt,e1]at hn;obtain⟨hk',hc',eg⟩:=ZI e1 hsz;have hj:=hidx hk' hc';have hfj:(flat xs)[k'*sz0+c']? =some y':=(XQ hsz hc').trans e1;have hFj:Fs[k'*sz0+c']? =some Fs[k'*sz0+c']:=Vl oM;have hCj:C0[k'*sz0+c']? =some v':=by
    simp only[World.cell?,hh]at e2;simpa using e2
   have hFjn:Fs[k'*sz0+c'].Nodup:=(List.pairwise_flatten.1 n2).1 _ (List.mem_of_getElem? hFj);have hFin:∀b'∈Fs[k'*sz0+c'],b'∈Fs.flatten:=fun b' hb'=>Um.2 ⟨_,_,hFj,hb'⟩
   obtain⟨F0,v0,C,T,i1,i2,i3,i4,i5,i6,i7,i8,i9,i10,i11,i12⟩:=ih _ _ _ _ hfj hCj hFj hFjn e3 hn hk hc;refine⟨F0,v0,C,T,Vn _ (hFin b i1),i2,i3,i4,i5,i6,i7,i8,i9,fun b' hb'=>⟨Vn _ (hFin b' (i10 b' hb').1),(i10 b' hb').2⟩,i11,?_⟩;intro A' w' G y v hsA hA hsame hb' hy hcy h1v hGn hGd;obtain⟨F1,q1,q2,q3,q4⟩:=i12 A' w' G y v hsA hA (fun b' hb''=>hsame b' (Vn _ (hFin b' hb''))) hb' hy hcy h1v hGn (fun b' hb'' h=>hGd b' hb'' (Vn _ (hFin b' h)));obtain⟨g1,g2⟩:=JMk (F0:=F0) (G:=G) (G':=F1) hnd hFj (fun b' hb'=>(i10 b' hb').1) hGd q2 q3;have hcell:XR (setAt y' p k c y)=true:=JDs (XI hn) p k c y;have hbne:b0≠b:=fun e=>n1 (e▸hFin b i1)
   have hb0:w'.heap[b0]? =w.heap[b0]? :=hsame b0 Vh (fun h=>n1 (hFin _ (i10 _ h).1)) hbne;refine⟨_,?_,g1,g2,rfl⟩;show Own A' w' _ (.own sz0 (xs.set k' (X3 (xs.getD k' .opq) c' (setAt ((xs.getD k' .opq).cells.getD c' .opq) p k c y)))) _;rw[eg];refine .row sz0 _ b0 C0 T0 cap0 n0 (Fs.set (k'*sz0+c') F1) (hb0.trans hh) hC (by rw[List.length_set];exact hn0) (by rw[List.length_set];exact hl) (by rw[List.length_set];exact hcl) hs (JFY hcell hsz hk' hc')
    (by rw[Yh hcell hsz hk' hc',List.length_set,List.length_set];exact hFl) ?_ ?_
   ·rw[Yh hcell hsz hk' hc',List.length_set];exact h1
   ·rw[Yh hcell hsz hk' hc'];intro i z t Fi hz ht hFi;rw[List.getElem?_set]at hz hFi;by_cases e:k'*sz0+c'=i
    ·simp only[e,if_true]at hz hFi;subst e;rw[if_pos hj]at hz;rw[if_pos oM]at hFi;rw[hCj]at ht;cases hz;cases ht;cases hFi;exact q1
    ·rw[if_neg e]at hz hFi;refine(hv i z t Fi hz ht hFi).mono hsA hA fun b' hb''=>hsame b' (Vn _ (Um.2 ⟨i,Fi,hFi,hb''⟩)) (fun h=>Yw n2 hFi hFj (Ne.symm e) hb'' (i10 _ h).1) fun e'=>Yw n2 hFi hFj (Ne.symm e) hb'' (e'▸i1)
end Av
namespace Av
open Go
variable [Glb]
section
variable {β:JM}{A:Nat→Prop}{w:World}{H:Heap}{β':JM}{A':Nat→Prop}{w':World}{H':Heap}
def handle(i:Nat)(c:Av):Prop:=(∃off,c=.ref i off)∨(∃ver,c=.ms i ver)∨(∃ver off len,c=.sub i ver off len)∨(∃ver k off,c=.el i ver k off)∨c=.mp i∨(∃h,c=.tr i h)
theorem Stp.many(hc:Core β A w H)(T:Nat→Prop)(hH:∀j,¬T j→H' j=H j)(hβ:∀j,¬T j→β' j=β j)(hos:w'.os=w.os)(htape:w'.tape=w.tape)(hout:w'.output=w.output)
  (hsize:w.heap.size≤w'.heap.size)
  (hsame:∀b,b<w.heap.size→(∀i o,T i→H i=some o→o.live=true→¬(β i).has b)→w'.heap[b]? =w.heap[b]?)
  (hA:∀b,A b→A' b)(hA':∀b,A' b→A b∨w.heap.size≤b∨∃i o,T i∧H i=some o∧o.live=true∧(β i).has b)(hold:∀b,A' b→b<w'.heap.size)
  (hnb:∀i o b,T i→H' i=some o→o.live=true→(β' i).has b→(w.heap.size≤b∨∃i' o',T i'∧H i'=some o'∧o'.live=true∧(β i').has b)∧¬A' b)
  (hinj:∀i j o o' b,T i→T j→H' i=some o→o.live=true→H' j=some o'→o'.live=true→(β' i).has b→(β' j).has b→i=j)
  (hvals:∀i c u,T i→handle i c→VRep β A w H c u→VRep β' A' w' H' c u)
  (hobj:(∀c u,VRep β A w H c u→VRep β' A' w' H' c u)→∀i o,T i→H' i=some o→JBC β' A' w' H' i o)
  (hlp:∀b r,w.heap[b]? =some (.loop r)→(∃i o,T i∧H i=some o∧o.live=true∧(β i).has b)→∃r',w'.heap[b]? =some (.loop r')):
  Stp β A w H β' A' w' H':=by
 have hsA:XG A w w':=fun b hb=>hsame b (hc.old b hb) fun i o _ h1 h2 h3=>hc.sep i o b h1 h2 h3 hb
 have hoth:∀j o b,¬T j→H j=some o→o.live=true→(β j).has b→w'.heap[b]? =w.heap[b]? :=fun j o b hj h1 h2 h3=>
  hsame b (hc.lt h1 h2 h3) fun i o2 hT g1 g2 g3=>hj ((hc.inj j i o o2 b h1 h2 g1 g2 h3 g3)▸hT)
 have hd:∀x u,Rep A w x u→Rep A' w' x u:=fun x u h=>h.mono hsA hA
 have hall:∀c u,VRep β A w H c u→VRep β' A' w' H' c u:=by
  refine VRep.JCQ hd ?_ ?_ ?_ ?_ ?_ ?_
  ·intro i off u h;by_cases hi:T i
   ·exact hvals i _ _ hi (.inl ⟨off,rfl⟩) h
   ·cases h with
    |ref _ _ b p _ hu h0 h1 h2=>exact .ref _ _ b p _ hu (by rwa[hH i hi]) (by rw[hH i hi,hβ i hi];exact h1) (by rw[hH i hi];exact fun ds hds=>hd _ _ (h2 ds hds))
  ·intro i ver u h;by_cases hi:T i
   ·exact hvals i _ _ hi (.inr (.inl ⟨ver,rfl⟩)) h
   ·cases h with
    |ms _ _ _ hu h0 h1 h2=>
     refine .ms _ _ _ hu (by rwa[hH i hi]) ?_ (by rw[hH i hi];exact fun sz xs hds=>hd _ _ (h2 sz xs hds));rw[hH i hi];intro v' sz xs hr;obtain⟨hle,hx⟩:=h1 v' sz xs hr;refine⟨hle,fun hve=>?_⟩;rcases hx hve with⟨e1,e2⟩|⟨b,C,Ty,fz,cap,e1,e2,e3⟩
     ·exact .inl ⟨by rw[hβ i hi];exact e1,e2⟩
     ·exact .inr ⟨b,C,Ty,fz,cap,by rw[hβ i hi];exact e1,by rw[hoth i _ b hi hr rfl (by rw[e1];exact BK.Jo.2 rfl)];exact e2,e3⟩
  ·intro i ver off len u h;by_cases hi:T i
   ·exact hvals i _ _ hi (.inr (.inr (.inl ⟨ver,off,len,rfl⟩))) h
   ·cases h with
    |sub _ _ _ _ _ hu h0 h1 h2=>
     refine .sub _ _ _ _ _ hu (by rwa[hH i hi]) ?_ (by rw[hH i hi];exact fun sz xs hds=>hd _ _ (h2 sz xs hds));rw[hH i hi];intro v' sz xs hr;obtain⟨hle,hx⟩:=h1 v' sz xs hr;refine⟨hle,fun hve=>?_⟩;obtain⟨g,⟨e1,e2⟩|⟨b,C,Ty,fz,cap,ad,e1,e2,e3⟩⟩:=hx hve
     ·exact⟨g,.inl ⟨by rw[hβ i hi];exact e1,e2⟩⟩
     ·exact⟨g,.inr ⟨b,C,Ty,fz,cap,ad,by rw[hβ i hi];exact e1,by rw[hoth i _ b hi hr rfl (by rw[e1];exact BK.Jo.2 rfl)];exact e2,e3⟩⟩
  ·intro i ver k off u h;by_cases hi:T i
   ·exact hvals i _ _ hi (.inr (.inr (.inr (.inl ⟨ver,k,off,rfl⟩)))) h
   ·cases h with
    |el _ _ _ _ b p _ hu h0 h1=>exact .el _ _ _ _ b p _ hu (by rwa[hH i hi]) (by rw[hH i hi,hβ i hi];exact h1)
  ·intro i u h;by_cases hi:T i
   ·exact hvals i _ _ hi (.inr (.inr (.inr (.inr (.inl rfl))))) h
   ·cases h with
    |mp _ _ hu h0 h1 h2 h3=>exact .mp _ _ hu (by rwa[hH i hi]) (by rw[hH i hi,hβ i hi];exact h1) (by rw[hH i hi,hβ i hi];exact h2) (by rw[hH i hi,hβ i hi];exact h3)
  ·intro i h u hv;by_cases hi:T i
   ·exact hvals i _ _ hi (.inr (.inr (.inr (.inr (.inr ⟨h,rfl⟩))))) hv
   ·cases hv with
    |tr _ _ _ hu h0 hk h1=>
     refine .tr _ _ _ hu (by rwa[hH i hi]) hk ?_;rw[hH i hi];intro v' s' sz xs hr;obtain⟨l1,l2,h2⟩:=h1 v' s' sz xs hr;exact⟨l1,l2,fun g1 g2=>(h2 g1 g2).mono (hc.objs _ _ hr) (hβ i hi) fun b hb=>hoth i _ b hi hr rfl hb⟩
 have hmine:∀i o b,H' i=some o→o.live=true→(β' i).has b→w.heap.size≤b∨∃i' o2,H i'=some o2∧o2.live=true∧(β i').has b:=by
  intro i o b h1 h2 h3;by_cases hi:T i
  ·rcases(hnb i o b hi h1 h2 h3).1 with h|⟨i',o',_,g1,g2,g3⟩
   ·exact .inl h
   ·exact .inr ⟨i',o',g1,g2,g3⟩
  ·rw[hH i hi]at h1;rw[hβ i hi]at h3;exact .inr ⟨i,o,h1,h2,h3⟩
 refine⟨⟨?_,?_,?_,hold,fun g cs hg=>(hc.glob g cs hg).mono hsA hA⟩,hall,hos,htape,hout,hsize,?_,?_,?_,hmine⟩
 ·intro i o h;by_cases hi:T i
  ·exact hobj hall i o hi h
  ·rw[hH i hi]at h;exact(hc.objs i o h).mono hall hsA hA (hβ i hi) fun b hb hl=>hoth i o b hi h hl hb
 ·intro i j o o2 b h1 l1 h2 l2 hb1 hb2;by_cases hi:T i
  ·by_cases hj:T j
   ·exact hinj i j o o2 b hi hj h1 l1 h2 l2 hb1 hb2
   ·exfalso;rw[hH j hj]at h2
    rw[hβ j hj]at hb2;rcases(hnb i o b hi h1 l1 hb1).1 with h|⟨i',o3,hT,g1,g2,g3⟩
    ·have:=hc.lt h2 l2 hb2;omega
    ·exact hj ((hc.inj j i' o2 o3 b h2 l2 g1 g2 hb2 g3)▸hT)
  ·rw[hH i hi]at h1;rw[hβ i hi]at hb1;by_cases hj:T j
   ·exfalso;rcases(hnb j o2 b hj h2 l2 hb2).1 with h|⟨i',o3,hT,g1,g2,g3⟩
    ·have:=hc.lt h1 l1 hb1;omega
    ·exact hi ((hc.inj i i' o o3 b h1 l1 g1 g2 hb1 g3)▸hT)
   ·rw[hH j hj]at h2;rw[hβ j hj]at hb2;exact hc.inj i j o o2 b h1 l1 h2 l2 hb1 hb2
 ·intro i o b h1 h2 h3 hAb;by_cases hi:T i
  ·exact(hnb i o b hi h1 h2 h3).2 hAb
  ·rw[hH i hi]at h1;rw[hβ i hi]at h3;rcases hA' b hAb with h|h|⟨i',o3,hT,g1,g2,g3⟩
   ·exact hc.sep i o b h1 h2 h3 h
   ·have:=hc.lt h1 h2 h3;omega
   ·exact hi ((hc.inj i i' o o3 b h1 h2 g1 g2 h3 g3)▸hT)
 ·intro b hb hn;exact hsame b hb fun i o _ h1 h2=>hn i o h1 h2
 ·intro b r hbr;by_cases hex:∃i o,T i∧H i=some o∧o.live=true∧(β i).has b
  ·exact hlp b r hbr hex
  ·exact⟨r,by rw[hsame b (Array.getElem?_eq_some_iff.1 hbr).1 fun i o h0 h1 h2 h3=>hex ⟨i,o,h0,h1,h2,h3⟩];exact hbr⟩
 ·intro b hb;rcases hA' b hb with h|h|⟨i,o,_,g1,g2,g3⟩
  ·exact .inl h
  ·exact .inr (.inl h)
  ·exact .inr (.inr ⟨i,o,g1,g2,g3⟩)
theorem Yx{i:Nat}{c:Av}{u:Value}(hi:H' i=some .gone)(hh:handle i c)(hv:VRep β A w H c u):VRep β' A' w' H' c u:=by
 rcases hh with⟨off,rfl⟩|⟨ver,rfl⟩|⟨ver,off,len,rfl⟩|⟨ver,k,off,rfl⟩|rfl|⟨h,rfl⟩
 ·cases hv with|ref _ _ b p _ hu h0 h1 h2=>exact .ref _ _ b p _ hu (by rw[hi];rfl) (by rw[hi];intro _ h;cases h) (by rw[hi];intro _ h;cases h)
 ·cases hv with|ms _ _ _ hu h0 h1 h2=>exact .ms _ _ _ hu (by rw[hi];rfl) (by rw[hi];intro _ _ _ h;cases h) (by rw[hi];intro _ _ h;cases h)
 ·cases hv with|sub _ _ _ _ _ hu h0 h1 h2=>exact .sub _ _ _ _ _ hu (by rw[hi];rfl) (by rw[hi];intro _ _ _ h;cases h) (by rw[hi];intro _ _ h;cases h)
 ·cases hv with|el _ _ _ _ b p _ hu h0 h1=>exact .el _ _ _ _ b p _ hu (by rw[hi];rfl) (by rw[hi];intro _ _ _ h;cases h)
 ·cases hv with|mp _ _ hu h0 h1 h2 h3=>exact .mp _ _ hu (by rw[hi];rfl) (by rw[hi];intro _ h;cases h) (by rw[hi];intro _ h;cases h) (by rw[hi];intro _ _ h;cases h)
 ·cases hv with|tr _ _ _ hu h0 hk h1=>exact .tr _ _ _ hu (by rw[hi];rfl) hk (by rw[hi];intro _ _ _ _ h;cases h)
theorem Xx{i v s sz v' s' sz':Nat}{xs xs':List Dat}{c:Av}{u:Value}(h0:H i=some (.tre v s sz xs)∨H i=none)(hi:H' i=some (.tre v' s' sz' xs'))(hv:v≤v')(hs:s≤s')(hh:handle i c)(hvr:VRep β A w H c u)
  (ht:H i=some (.tre v s sz xs)→∀(h:Hd) (u:Value),h.sv≤s→h.ver=v'→(h.p=[]∨h.sv=s')→(v=v'→(h.p=[]∨s=s')→JBj β w i sz xs h u)→v=v'→JBj β' w' i sz' xs' h u):VRep β' A' w' H' c u:=by
 rcases h0 with h0|h0
 ·rcases hh with⟨off,rfl⟩|⟨ver,rfl⟩|⟨ver,off,len,rfl⟩|⟨ver,k,off,rfl⟩|rfl|⟨h,rfl⟩
  ·cases hvr with|ref _ _ b p _ hu g0 h1 h2=>exact .ref _ _ b p _ hu (by rw[hi];rfl) (by rw[hi];intro _ h;cases h) (by rw[hi];intro _ h;cases h)
  ·cases hvr with|ms _ _ _ hu g0 h1 h2=>exact .ms _ _ _ hu (by rw[hi];rfl) (by rw[hi];intro _ _ _ h;cases h) (by rw[hi];intro _ _ h;cases h)
  ·cases hvr with|sub _ _ _ _ _ hu g0 h1 h2=>exact .sub _ _ _ _ _ hu (by rw[hi];rfl) (by rw[hi];intro _ _ _ h;cases h) (by rw[hi];intro _ _ h;cases h)
  ·cases hvr with|el _ _ _ _ b p _ hu g0 h1=>exact .el _ _ _ _ b p _ hu (by rw[hi];rfl) (by rw[hi];intro _ _ _ h;cases h)
  ·cases hvr with|mp _ _ hu g0 h1 h2 h3=>exact .mp _ _ hu (by rw[hi];rfl) (by rw[hi];intro _ h;cases h) (by rw[hi];intro _ h;cases h) (by rw[hi];intro _ _ h;cases h)
  ·cases hvr with
   |tr _ _ _ hu g0 hk h1=>
    refine .tr _ _ _ hu (by rw[hi];rfl) hk ?_;rw[hi];intro v2 s2 sz2 xs2 e;cases e;obtain⟨l1,l2,l3⟩:=h1 _ _ _ _ h0;refine⟨oM,oM,fun e1 e2=>?_⟩;refine ht h0 h u l2 e1 e2 (fun q1 q2=>l3 oM ?_) oM;rcases q2 with q2|q2
    ·exact .inl q2
    ·rcases e2 with e2|e2
     ·exact .inl e2
     ·exact .inr oM
 ·exfalso;rcases hh with⟨off,rfl⟩|⟨ver,rfl⟩|⟨ver,off,len,rfl⟩|⟨ver,k,off,rfl⟩|rfl|⟨h,rfl⟩<;>cases hvr<;>simp_all
end
end Av
namespace Av
open Go
variable [Glb]
variable {x y:Dat}{u:Value}{sz k:Nat}{xs:List Dat}
section
variable {β:JM}{A:Nat→Prop}{w:World}{H:Heap}
theorem JDg{u':Value}(h:TAt w x u [] u'):u'=u:=by
 cases x<;>first|exact h|exact h.elim
theorem Yy{u':Value}{p:List (Nat×Nat)}(h:TAt w x u p u'):∃sz xs,x=.own sz xs:=by
 cases x<;>first|exact⟨_,_,rfl⟩|(cases p<;>exact h.elim)
theorem JLq{c:Nat}{p:List (Nat×Nat)}:nodeAt (.own sz xs) ((k,c)::p)=match cellAt xs k c with|some y=>nodeAt y p|none=>none:=rfl
theorem Own.node{F:List Nat}(h:Own A w F x u):∀{p:List (Nat×Nat)},nodeAt x p=some y→∃(u1:Value) (F1:List Nat),TAt w x u p u1∧Own A w F1 y u1∧(∃sz ys,y=.own sz ys)∧∀b∈F1,b∈F:=by
 induction h with
 |dat x u h=>
  intro p hn;obtain⟨sz,xs,rfl⟩:=XI hn;cases h
 |nil sz a hs=>
  intro p hn
  match p,hn with
  |[],hn=>cases hn;exact⟨_,_,rfl,.nil sz a hs,⟨_,_,rfl⟩,fun _ h=>h⟩
  |(k,c)::p,hn=>simp[nodeAt,cellAt]at hn
 |row sz xs b C T cap n Fs hh hC hn0 hl hc hs hsz hFl h1 hv ih=>
  intro p hn
  match p,hn with
  |[],hn=>cases hn;exact⟨_,_,rfl,.row sz xs b C T cap n Fs hh hC hn0 hl hc hs hsz hFl h1 hv,⟨_,_,rfl⟩,fun _ h=>h⟩
  |(k,c)::p,hn=>
   simp only[nodeAt]at hn;split at hn
   ·rename_i y' e1;obtain⟨hk',hc',eg⟩:=ZI e1 hsz;have hj:k*sz+c<(flat xs).length:=by
     rw[UB hsz];have:k*sz+sz≤xs.length*sz:=by rw[←Nat.succ_mul];exact Nat.mul_le_mul_right _ hk'
     omega
    have hCs:(flat xs).length≤C.size:=by rw[UB hsz,hC];exact Nat.mul_le_mul_right _ hl
    have hfj:(flat xs)[k*sz+c]? =some y':=(XQ hsz hc').trans e1;have hCj:C[k*sz+c]? =some C[k*sz+c]:=Array.getElem?_eq_getElem oM;have hFj:Fs[k*sz+c]? =some Fs[k*sz+c]:=Vl oM;obtain⟨u1,F1,q1,q2,q3,q4⟩:=ih _ _ _ _ hfj hCj hFj hn;refine⟨u1,F1,⟨y',_,e1,?_,q1⟩,q2,q3,fun b' hb'=>Vn _ (Um.2 ⟨_,_,hFj,q4 b' hb'⟩)⟩;simp only[World.cell?,hh];simp
   ·cases hn
theorem JGS:∀{p:List (Nat×Nat)} {u u1 u2:Value},TAt w x u p u1→TAt w x u p u2→u1=u2:=by
 intro p
 induction p generalizing x with
 |nil=>intro u u1 u2 h1 h2;rw[JDg h1,JDg h2]
 |cons kc p ih=>
  intro u u1 u2 h1 h2;obtain⟨sz,xs,rfl⟩:=Yy h1;obtain⟨k,c⟩:=kc
  match u,h1,h2 with
  |.slice (some a) _ _,⟨y,v,e1,e2,e3⟩,⟨y',v',g1,g2,g3⟩=>
   rw[e1]at g1;cases g1;rw[e2]at g2;cases g2;exact ih e3 g3
theorem JMl{off:Nat}{ys:List Dat}{a:Addr}{n cap:Nat}{v:Value}:∀{p:List (Nat×Nat)} {x:Dat} {u:Value},TAt w x u p (.slice (some a) n cap)→nodeAt x p=some (.own sz ys)→cellAt ys k off=some y→w.cell? ⟨a.block,k*sz+off,none⟩=some v→(∃s zs,y=.own s zs)→
  TAt w x u (p++[(k,off)]) v:=by
 intro p
 induction p with
 |nil=>
  intro x u h1 h2 h3 h4 h5;obtain⟨sz',xs,rfl⟩:=Yy h1;cases h2;cases h1;obtain⟨s,zs,rfl⟩:=h5;exact⟨_,_,h3,h4,rfl⟩
 |cons kc p ih=>
  intro x u h1 h2 h3 h4 h5;obtain⟨sz',xs,rfl⟩:=Yy h1;obtain⟨k',c'⟩:=kc
  match u,h1 with
  |.slice (some a') _ _,⟨y',v',e1,e2,e3⟩=>
   simp only[nodeAt,e1]at h2;exact⟨y',v',e1,e2,ih e3 h2 h3 h4 h5⟩
theorem JLr{off:Nat}{ys:List Dat}:∀{p:List (Nat×Nat)} {x:Dat},nodeAt x p=some (.own sz ys)→cellAt ys k off=some y→nodeAt x (p++[(k,off)])=nodeAt y []:=by
 intro p
 induction p with
 |nil=>
  intro x h1 h2;obtain⟨sz',xs,rfl⟩:=XI h1;cases h1;simp[nodeAt,h2]
 |cons kc p ih=>
  intro x h1 h2;obtain⟨sz',xs,rfl⟩:=XI h1;obtain⟨k',c'⟩:=kc;simp only[nodeAt]at h1;split at h1
  ·rename_i y' e1;simp only[List.cons_append,nodeAt,e1];exact ih h1 h2
  ·cases h1
theorem Xe.own{i:Nat}{u0 u2:Value}(h0:Xe β w i sz xs.length u0)(ho:Own A w (β i).all (.own sz xs) u2)(h2:Xe β w i sz xs.length u2)(hr:(β i).r=(β i).all.head?):Own A w (β i).all (.own sz xs) u0:=by
 have hs:=ho.sz0;rcases h0 with⟨e1,e2,a,rfl⟩|⟨b,C,T,fz,cap,e1,e2,e3,e4,rfl⟩
 ·have hx:xs=[]:=List.eq_nil_of_length_eq_zero e2;subst hx;rw[e1]at hr;have:(β i).all=[]:=List.head?_eq_none_iff.1 hr.symm;rw[this];exact .nil sz a hs
 ·rcases h2 with⟨q1,_⟩|⟨b',C',T',fz',cap',q1,q2,q3,q4,rfl⟩
  ·rw[e1]at q1;cases q1
  ·rw[e1]at q1;cases q1;rw[e2]at q2;cases q2;have:cap=cap':=Nat.eq_of_mul_eq_mul_right hs (e3.symm.trans q3);rw[this];exact ho
def Dat.dat:Dat→Dat
 |.own sz xs=>.list sz (datL xs)
 |.agg cs=>.agg (datL cs)
 |x=>x
where datL:List Dat→List Dat
 |[]=>[]
 |x::r=>x.dat::datL r
theorem JBk:∀xs:List Dat,Dat.dat.datL xs=xs.map Dat.dat
 |[]=>by simp[Dat.dat.datL]
 |x::r=>by simp[Dat.dat.datL,JBk r]
theorem JFZ(x:Dat):x.dat.cells=x.cells.map Dat.dat∨XR x=true:=by
 cases x<;>first|exact .inr rfl|exact .inl (by simp[Dat.dat,Dat.cells,JBk])
theorem JHW(h:XR x=true):XR x.dat=true:=by cases x<;>first|rfl|cases h
theorem JDt:∀xs:List Dat,flat (xs.map Dat.dat)=(flat xs).map Dat.dat
 |[]=>rfl
 |x::r=>by
  have e:x.dat.cells=x.cells.map Dat.dat:=by
   rcases JFZ x with h|h
   ·exact h
   ·rw[Xw h,Xw (JHW h)];rfl
  have ih:=JDt r;simp only[flat]at ih;simp only[flat,Va,List.flatMap_cons,Vw,ih,e]
theorem Rep.dat(h:Rep A w x u):x.dat=x:=by
 induction h with
 |agg cs arr hl h1 hv ih=>
  simp only[Dat.dat,JBk];congr 1;rw[List.map_congr_left (g:=id)]
  ·simp
  ·intro c hc;obtain⟨i,hi⟩:=List.getElem?_of_mem hc;have hil:=(VB.1 hi).1;exact ih i c arr[i] hi (Array.getElem?_eq_getElem oM)
 |_=>rfl
theorem Own.toRep{A':Nat→Prop}{F:List Nat}(h:Own A w F x u)(hA:∀b,A b→A' b)(hF:∀b∈F,A' b):Rep A' w x.dat u:=by
 induction h with
 |dat x u h=>rw[h.dat];exact h.mono (fun _ _=>rfl) hA
 |nil sz a hs=>exact .emp sz a 0
 |row sz xs b C T cap n Fs hh hC hn0 hl hc hs hsz hFl h1 hv ih=>
  simp only[Dat.dat,JBk];have hxl:(flat xs).length≤C.size:=by rw[UB hsz,hC];exact Nat.mul_le_mul_right _ hl
  have hsz':∀x∈xs.map Dat.dat,x.cells.length=sz:=by
   intro x hx;obtain⟨y,hy,rfl⟩:=VC.1 hx;rcases JFZ y with h|h
   ·rw[h,Vc];exact hsz y hy
   ·have:=hsz y hy;rw[Xw h]at this;rw[Xw (JHW h)];exact this
  refine .list sz _ b 0 n cap (C.toList.take (flat xs).length) (by rw[Vc];exact hn0) (hF b Vh) (by rw[Vc];exact hl) (by rw[Vc];exact hc) ?_ hsz' ?_ (by rw[JDt,Vc,List.length_take];have:C.toList.length=C.size:=Array.length_toList;omega) ?_
  ·intro v hv';obtain⟨j,hj⟩:=List.getElem?_of_mem hv';rw[List.getElem?_take]at hj;split at hj
   ·rename_i hlt;exact h1 j v hlt (sX hj)
   ·cases hj
  ·intro j v hj;rw[List.getElem?_take]at hj;split at hj
   ·simp only[World.cell?,hh,Nat.zero_add];simpa using hj
   ·cases hj
  ·intro j c v hc' hv';rw[JDt,Vo]at hc';rw[List.getElem?_take]at hv';split at hv'
   ·rename_i hlt;cases e:(flat xs)[j]? with
    |none=>rw[e]at hc';cases hc'
    |some c0=>
     rw[e]at hc';cases hc';have hFj:Fs[j]? =some Fs[j]:=Vl oM;exact ih j c0 v _ e (by simpa using hv') hFj fun b' hb'=>hF b' (Vn _ (Um.2 ⟨j,_,hFj,hb'⟩))
   ·cases hv'
theorem JBC.ownRow{i ver:Nat}(h:JBC β A w H i (.row ver sz xs))(hu:JJP β w i sz xs.length u):Own A w (β i).all (.own sz xs) u∧(β i).all.Nodup:=by
 obtain⟨hs,hsz,hl,⟨e1,e2⟩|⟨b,C,T,cap,e1,e2,e3,e4,e5,e6⟩⟩:=h
 ·subst e2;rcases hu with⟨q1,_,a,rfl⟩|⟨b,C,T,fz,cap,q1,_⟩
  ·rw[e1];exact⟨.nil sz a hs,List.Pairwise.nil⟩
  ·rw[e1]at q1;cases q1
 ·rcases hu with⟨q1,_⟩|⟨b',C',T',fz',cap',q1,q2,q3,q4,rfl⟩
  ·rw[e1]at q1;cases q1
  ·rw[e1]at q1;have eb:b=b':=Option.some.inj (BK.mk.inj q1).1;subst eb;rw[e2]at q2;cases q2;have hcap:cap=cap':=Nat.eq_of_mul_eq_mul_right hs (e3.symm.trans q3);subst hcap;have hfl:(List.replicate (flat xs).length ([]:List Nat)).flatten=[]:=sP;have hall:(β i).all=b::(List.replicate (flat xs).length ([]:List Nat)).flatten:=by rw[e1,hfl];rfl
   rw[hall];refine⟨.row sz xs b C T cap xs.length _ e2 e3 rfl e4 hl hs hsz sP e5 ?_,by rw[hfl];exact List.pairwise_singleton _ _⟩;intro j c v F g1 g2 g3;have:F=[]:=List.eq_of_mem_replicate (List.mem_of_getElem? g3);subst this;exact .dat _ _ (e6 j c v g1 g2)
end
end Av
namespace Av
open Go
class Rls where
 rl:Nat→Bool
 rm:Nat→Bool:=fun _=>false
 tr:Nat→Bool:=fun _=>false
instance rlsD:Rls:={rl:=fun n=>n==1}
variable [Glb][Rls]
inductive Opd where
 |t (n:Nat)
 |k (x:Dat)
 deriving Inhabited
inductive Ck where
 |i|b|s|p (x y:Ck)
 deriving Inhabited,DecidableEq
inductive Bk where
 |add|sub|mul|quo|rem
 |eql|neq|lss|leq|gtr|geq
 |cat|seq|sne|slt|sle|sgt|sge
 |beq|bne
 |nileq|nilne
 |teq (ks:List Ck)|tne (ks:List Ck)
 deriving Inhabited
inductive IOp where
 |mov (x:Opd)
 |new (zs:List Dat)
 |box (x:Opd)
 |bld (zs:List Dat) (ps:List (Nat×Nat×Opd))
 |bls (sz:Nat) (xs:List Opd)
 |ld (n:Option Nat) (a:Opd)
 |sto (n:Option Nat) (a v:Opd)
 |fa (a:Opd) (off:Nat)
 |fld (n:Option Nat) (x:Opd) (off:Nat)
 |ixa (ag:Bool) (sz:Nat) (a i:Opd)
 |ixr (len sz:Nat) (a i:Opd)
 |ixs (x i:Opd)
 |ixv (n:Option Nat) (len sz:Nat) (x i:Opd)
 |bin (b:Bk) (x y:Opd)
 |not (x:Opd)
 |neg (k:IntKind) (x:Opd)
 |cvi (k:IntKind) (x:Opd)
 |ifc (t:Nat) (x:Opd)
 |fnv (f:Fn) (first cap:List Opd)
 |mks (sz:Nat) (zs:List Dat) (len cap:Opd)
 |slc (sz:Nat) (x:Opd) (lo hi mx:Option Opd)
 |sls (x:Opd) (lo hi:Option Opd)
 |ext (x:Opd) (i:Nat)
 |len (x:Opd)
 |slen (x:Opd)
 |app (sz:Nat) (x y:Opd)
 |mn (x y:Opd)
 |mx (x y:Opd)
 |nck (x:Opd)
 |mkm
 |mpu (c:Ck) (m k v:Opd)
 |lkp (c:Ck) (z:Dat) (m k:Opd) (ok:Bool)
 |bit (op:BinOp) (x y:Opd)
 |s2b (x:Opd)
 |i2s (x:Opd)
 |b2s (x:Opd)
 |rgs (x:Opd)
 |nxs (x:Opd)
 |nilq (fn neg:Bool) (x:Opd)
 |asr (t:Nat) (x:Opd)
 |men (c:Ck) (z:Dat) (m k:Opd)
 |mes (m s v:Opd)
 |bad
 deriving Inhabited
def val(τ:UX):Opd→Option Av
 |.t n=>τ n
 |.k x=>some (.d x)
def Av.cells:Av→Option (List Av)
 |.d (.agg ds)=>some (ds.map .d)
 |.agg cs=>some cs
 |.any|.und|.tup _|.ful _ _=>none
 |v=>some [v]
def YL:List Av→Option (List Dat)
 |[]=>some []
 |.d x::r=>match YL r with
  |some ds=>some (x::ds)
  |none=>none
 |_::_=>none
def JCy(cs:List Av):Av:=match YL cs with
 |some ds=>.d (.agg ds)
 |none=>.agg cs
def Jh{α:Type}(cs:List α)(off:Nat)(new:List α):List α:=cs.take off++(new++cs.drop (off+new.length))
def nth(xs:List Dat)(k:Nat):Dat:=xs.getD k .opq
structure Res where
 c:Prop
 v:Av
 ups:List (Nat×Obj):=[]
def UG(H:Heap):Av→Option (Nat×List Dat)
 |.d (.list sz xs)=>some (sz,xs)
 |.d (.nil sz)=>some (sz,[])
 |.ms i _=>match H i with
  |some (.row _ sz xs)=>some (sz,xs)
  |some (.frz _ sz xs)=>some (sz,xs)
  |_=>none
 |.sub i _ off len=>match H i with
  |some (.row _ sz xs)=>some (sz,(xs.drop off).take len)
  |some (.frz _ sz xs)=>some (sz,(xs.drop off).take len)
  |_=>none
 |_=>none
def curr(H:Heap):Av→Prop
 |.ms i ver=>match H i with
  |some (.row v' _ _)=>ver=v'
  |some (.frz v' _ _)=>ver=v'
  |_=>False
 |.sub i ver _ _=>match H i with
  |some (.row v' _ _)=>ver=v'
  |some (.frz v' _ _)=>ver=v'
  |_=>False
 |_=>True
def ZY(k:IntKind):Bk→Int→Int→Option (Prop×Dat)
 |.add,a,b=>some (True,.int k (k.wrap (a+b)))
 |.sub,a,b=>some (True,.int k (k.wrap (a-b)))
 |.mul,a,b=>some (True,.int k (k.wrap (a*b)))
 |.quo,a,b=>some (b≠0,.int k (k.wrap (a.tdiv b)))
 |.rem,a,b=>some (b≠0,.int k (a.tmod b))
 |.eql,a,b=>some (True,.bool (a==b))
 |.neq,a,b=>some (True,.bool (a !=b))
 |.lss,a,b=>some (True,.bool (decide (a<b)))
 |.leq,a,b=>some (True,.bool (decide (a≤b)))
 |.gtr,a,b=>some (True,.bool (decide (a>b)))
 |.geq,a,b=>some (True,.bool (decide (a≥b)))
 |_,_,_=>none
def strLt:List UInt8→List UInt8→Bool:=Op.bytesLess
def ZZ:Bk→List UInt8→List UInt8→Option (Prop×Dat)
 |.cat,a,b=>some ((a++b).length≤68719476736,.str (a++b))
 |.seq,a,b=>some (True,.bool (a==b))
 |.sne,a,b=>some (True,.bool (!(a==b)))
 |.slt,a,b=>some (True,.bool (strLt a b))
 |.sle,a,b=>some (True,.bool (strLt a b||a==b))
 |.sgt,a,b=>some (True,.bool (!(strLt a b||a==b)))
 |.sge,a,b=>some (True,.bool (!strLt a b))
 |_,_,_=>none
def isNil:Av→Option Bool
 |.d .nilIface|.d .nilPtr|.d .nilMap|.d .nilFn=>some true
 |.d (.iface _ _)|.d (.ptr _)|.d (.glo _)|.d (.fn (.func _) _ _)|.clo (.func _) _ _|.ref _ _|.el _ _ _ _=>some false
 |.tr _ h=>if h.k.isSome then some false else none
 |_=>none
def JGT:Av→Option Bool
 |.d .nilIface=>some true
 |.d (.iface _ _)=>some false
 |_=>none
def UQ:Ck→Dat→Dat→Option Bool
 |.i,.int k a,.int k' b=>if k=k' then some (a==b)else none
 |.b,.bool a,.bool b=>some (a==b)
 |.s,.str a,.str b=>some (a==b)
 |.p k l,.agg [a,b],.agg [c,d]=>match UQ k a c,UQ l b d with
  |some x,some y=>some (x&&y)
  |_,_=>none
 |_,_,_=>none
def Ut:List Ck→List Dat→List Dat→Option Bool
 |[],[],[]=>some true
 |k::ks,x::xs,y::ys=>match UQ k x y,Ut ks xs ys with
  |some a,some b=>some (a&&b)
  |_,_=>none
 |_,_,_=>none
def UR(b:Bk):Av→Av→Option (Prop×Dat)
 |.d (.int k a),.d (.int k' c)=>if k=k' then ZY k b a c else none
 |.d (.str a),.d (.str c)=>ZZ b a c
 |.d (.bool a),.d (.bool c)=>match b with
  |.beq=>some (True,.bool (a==c))
  |.bne=>some (True,.bool (!(a==c)))
  |_=>none
 |.d (.agg a),.d (.agg c)=>match b with
  |.teq ks=>match Ut ks a c with
   |some r=>some (True,.bool r)
   |none=>none
  |.tne ks=>match Ut ks a c with
   |some r=>some (True,.bool (!r))
   |none=>none
  |_=>none
 |x,.d .nilIface=>match b,JGT x with
  |.nileq,some r=>some (True,.bool r)
  |.nilne,some r=>some (True,.bool (!r))
  |_,_=>none
 |_,_=>none
def vals(τ:UX):List Opd→Option (List Av)
 |[]=>some []
 |x::r=>match val τ x with
  |some v=>match vals τ r with
   |some vs=>some (v::vs)
   |none=>none
  |none=>none
def JA0(τ:UX):List Av→List (Nat×Nat×Opd)→Option (List Av)
 |cs,[]=>some cs
 |cs,(off,n,x)::r=>match val τ x with
  |some v=>match v.cells with
   |some vs=>if vs.length=n∧off+n≤cs.length then JA0 τ (Jh cs off vs) r else none
   |none=>none
  |none=>none
def JA:Heap→List (Nat×Obj)→Heap
 |H,[]=>H
 |H,(i,o)::r=>JA (upd H i (some o)) r
def Xr(H:Heap)(i:Nat)(h:Hd):Option (Prop×Nat×Nat×List Dat):=match H i with
 |some (.tre v s sz xs)=>match nodeAt (.own sz xs) h.p with
  |some (.own sz' ys)=>some (h.ver=v∧(h.p=[]∨h.sv=s),s,sz',ys)
  |_=>none
 |_=>none
def Z5:Dat→Bool
 |.own _ _=>true
 |_=>false
def JBD(i ver sv:Nat)(p:List (Nat×Nat))(k off:Nat):Dat→Av
 |.own _ _=>.tr i ⟨ver,sv,p++[(k,off)],none⟩
 |y=>.d y
def YR(i ver sv:Nat)(p:List (Nat×Nat))(k off:Nat):List Dat→List Av
 |[]=>[]
 |y::r=>JBD i ver sv p k off y::YR i ver sv p k (off+1) r
def YS(x:Dat)(p:List (Nat×Nat))(k off:Nat):List Dat→Dat
 |[]=>x
 |y::r=>YS (setAt x p k off y) p k (off+1) r
def JDb:Dat→List Dat
 |.own _ xs=>xs
 |_=>[]
def X5(H:Heap):Av→Option (Prop×Nat×Nat×List Dat)
 |.tr j h=>match h.k,h.p,H j with
  |none,[],some (.tre v _ sz zs)=>some (h.ver=v,j,sz,zs)
  |_,_,_=>none
 |.ms j ver=>match H j with
  |some (.row v sz zs)=>some (ver=v,j,sz,zs)
  |_=>none
 |_=>none
def Xi(H:Heap):List Av→Option (Prop×List Dat×List Nat)
 |[]=>some (True,[],[])
 |.d x::r=>match Xi H r with
  |some (p,ds,js)=>some (p,x::ds,js)
  |none=>none
 |c::r=>match Xi H r,X5 H c with
  |some (p,ds,js),some (q,j,sz,zs)=>if js.contains j then none else some (q∧p,.own sz zs::ds,j::js)
  |_,_=>none
def JKS:List Av→Bool
 |[]=>false
 |.tr _ _::_=>true
 |_::r=>JKS r
def JFJ(H:Heap)(dst sz:Nat):List Av→Option Res
 |[.agg cs]=>if JKS cs||Rls.tr sz then match H dst,Xi H cs with
   |none,some (p,ds,js)=>some {c:=p∧ds.length=sz,v:=.tr dst ⟨0,0,[],none⟩,ups:=(dst,.tre 0 0 sz [.agg ds])::js.map fun j=>(j,.gone)}
   |_,_=>none
  else none
 |_=>none
def inner(sz:Nat)(xs:List Dat)(p:List (Nat×Nat)):Option (List (Nat×Nat)×Nat×Nat×Nat×List Dat):=match p.getLast? with
 |some (k,c)=>match nodeAt (.own sz xs) p with
  |some (.own sz' ys)=>some (p.dropLast,k,c,sz',ys)
  |_=>none
 |none=>none
def JJQ(H:Heap)(dst sz:Nat)(q:Prop)(sz':Nat)(ys:List Dat)(i:Nat)(h:Hd):Option Res:=match h.k,H i with
 |none,some (.tre vi si szi xs)=>match h.p with
  |[]=>some {c:=q∧sz'=sz∧szi=sz∧h.ver=vi∧0<ys.length∧xs.length+ys.length≤68719476736∧(∀y∈ys,y.cells.length=sz),v:=.tr i ⟨vi+1,si,[],none⟩,ups:=[(i,.tre (vi+1) si sz (xs++ys))]}
  |_=>match inner szi xs h.p,H dst with
   |some (p,k,c,sz2,zs),none=>some {c:=q∧sz'=sz∧sz2=sz∧h.ver=vi∧h.sv=si∧0<ys.length∧zs.length+ys.length≤68719476736∧(∀y∈ys,y.cells.length=sz)∧((flat zs).any Z5=false),v:=.ms dst 1,ups:=[(i,.tre vi (si+1) szi (JDb (setAt (.own szi xs) p k c .opq))),(dst,.row 1 sz (zs++ys))]}
   |_,_=>none
 |_,_=>none
def JGU(H:Heap)(dst sz:Nat)(u v:Av):Option Res:=match v with
 |.tr _ _=>match X5 H v with
  |some (q,j,sz',zs)=>match u with
   |.d (.nil _)=>match H dst with
    |none=>some {c:=q∧sz'=sz∧0<sz∧0<zs.length,v:=.tr dst ⟨0,0,[],none⟩,ups:=[(dst,.tre 0 0 sz zs),(j,.gone)]}
    |some _=>none
   |.tr i h=>match h.k,h.p,H i with
    |none,[],some (.tre vi si szi xs)=>if i=j then none else
     some {c:=q∧sz'=sz∧szi=sz∧h.ver=vi∧0<zs.length∧xs.length+zs.length≤68719476736,v:=.tr i ⟨vi+1,si,[],none⟩,ups:=[(i,.tre (vi+1) si sz (xs++zs)),(j,.gone)]}
    |_,_,_=>none
   |_=>none
  |none=>none
 |_=>none
def JHX(H:Heap)(n:Option Nat)(i:Nat)(h:Hd)(v:Av):Option Res:=match h.k,H i with
 |some (k,off),some (.tre ver s sz xs)=>match nodeAt (.own sz xs) h.p with
  |some (.own _ ys)=>match v with
   |.d x=>some {c:=(h.ver=ver∧(h.p=[]∨h.sv=s))∧k<ys.length∧x.cells.length=n.getD 1∧off+x.cells.length≤(nth ys k).cells.length,v:=.und,ups:=[(i,.tre ver (if(((nth ys k).cells.drop off).take x.cells.length).any Z5 then s+1 else s) sz (JDb (YS (.own sz xs) h.p k off x.cells)))]}
   |v=>match n,X5 H v with
    |none,some (q,j,sz',zs)=>if i=j then none else
     some {c:=(h.ver=ver∧(h.p=[]∨h.sv=s))∧q∧k<ys.length∧off+1≤(nth ys k).cells.length,v:=.und,ups:=[(i,.tre ver (s+1) sz (JDb (setAt (.own sz xs) h.p k off (.own sz' zs)))),(j,.gone)]}
    |_,_=>none
  |_=>none
 |_,_=>none
def Z6:List Av→List Av→Option Nat
 |[],[.ref i 0]=>some i
 |_,_=>none
def Uu(H:Heap):Av→Option (Prop×Dat×List (Nat×Obj))
 |.d x=>some (True,x,[])
 |.ms i ver=>match H i with
  |some (.row v' sz xs)=>some (ver=v',.list sz xs,[(i,.frz v' sz xs)])
  |some (.frz v' sz xs)=>some (ver=v',.list sz xs,[])
  |_=>none
 |.sub i ver off len=>match H i with
  |some (.row v' sz xs)=>some (ver=v',.list sz ((xs.drop off).take len),[(i,.frz v' sz xs)])
  |some (.frz v' sz xs)=>some (ver=v',.list sz ((xs.drop off).take len),[])
  |_=>none
 |.ref i off=>match H i with
  |some (.box cs)=>match YL cs with
   |some ds=>some (True,.ptr (ds.drop off),[(i,.fbox ds)])
   |none=>none
  |some (.fbox ds)=>some (True,.ptr (ds.drop off),[])
  |_=>none
 |.clo f fs cs=>match Z6 fs cs with
  |some i=>match H i with
   |some (.box cs)=>match YL cs with
    |some ds=>some (True,.fn f [] [.ptr ds],[(i,.fbox ds)])
    |none=>none
   |some (.fbox ds)=>some (True,.fn f [] [.ptr ds],[])
   |_=>none
  |none=>none
 |.mp i=>match H i with
  |some (.mapo es)=>some (True,.map es,[(i,.gone)])
  |_=>none
 |.tr i h=>match h.k,h.p,H i with
  |none,[],some (.tre v _ sz xs)=>some (h.ver=v,.list sz (Dat.dat.datL xs),[(i,.gone)])
  |_,_,_=>none
 |_=>none
def XH(H:Heap):List Av→Option (Prop×List Dat×List (Nat×Obj))
 |[]=>some (True,[],[])
 |c::r=>match Uu H c with
  |some (p,x,u)=>match XH (JA H u) r with
   |some (q,xs,u')=>some (p∧q,x::xs,u++u')
   |none=>none
  |none=>none
def XD(H:Heap):Av→Option (Prop×Dat×List (Nat×Obj))
 |.agg cs=>match XH H cs with
  |some (p,xs,u)=>some (p,.agg xs,u)
  |none=>none
 |v=>Uu H v
def Jl(H:Heap):List Av→Option (Prop×List Dat×List (Nat×Obj))
 |[]=>some (True,[],[])
 |c::r=>match XD H c with
  |some (p,x,u)=>match Jl (JA H u) r with
   |some (q,xs,u')=>some (p∧q,x::xs,u++u')
   |none=>none
  |none=>none
def JDu(ag:Bool)(x:Dat)(off:Nat)(ds:List Dat):Dat:=if ag then .agg (Jh x.cells off ds)else ds.headD .opq
def stoF(H:Heap)(n:Option Nat)(i ver k off j w:Nat):Option Res:=match n,H i,H j with
 |none,some (.row v' sz xs),some (.row w' sy ys)=>if i=j then none else some {c:=ver=v'∧w=w'∧off+1≤(nth xs k).cells.length,v:=.und,ups:=[(j,.frz w' sy ys),(i,.row v' sz (xs.set k (JDu (sz≠1) (nth xs k) off [.list sy ys])))]}
 |_,_,_=>none
def UY(τ:UX)(dflt:Int):Option Opd→Option Int
 |none=>some dflt
 |some x=>match val τ x with
  |some (.d (.int _ n))=>some n
  |_=>none
def JMm:Ck→Dat→Bool
 |.p _ _,.agg [_,_]=>true
 |.p _ _,_=>false
 |_,_=>true
def UM(c:Ck):List (Dat×Dat)→Dat→Option (Option Dat)
 |[],x=>if JMm c x=true then some none else none
 |(k,v)::r,x=>match UQ c x k with
  |some true=>some (some v)
  |some false=>UM c r x
  |none=>none
def ZA(c:Ck):List (Dat×Dat)→Dat→Dat→List (Dat×Dat)
 |[],x,v=>[(x,v)]
 |(k,u)::r,x,v=>match UQ c x k with
  |some true=>(x,v)::r
  |_=>(k,u)::ZA c r x v
def JSQ(op:BinOp)(k:IntKind)(a:Int)(k':IntKind)(c:Int):Option (Prop×Int):=match op with
 |.and=>if k=k' then some (True,k.wrap ((BitVec.ofInt k.bits a&&& BitVec.ofInt k.bits c).toNat))else none
 |.or=>if k=k' then some (True,k.wrap ((BitVec.ofInt k.bits a|||BitVec.ofInt k.bits c).toNat))else none
 |.xor=>if k=k' then some (True,k.wrap ((BitVec.ofInt k.bits a^^^BitVec.ofInt k.bits c).toNat))else none
 |.andNot=>if k=k' then some (True,k.wrap ((BitVec.ofInt k.bits a&&& ~~~ BitVec.ofInt k.bits c).toNat))else none
 |.shl=>some (0≤c,k.wrap (a*2^(min c.toNat k.bits)))
 |.shr=>some (0≤c,a.fdiv (2^(min c.toNat k.bits)))
 |_=>none
def bytesOf:List Dat→Option (List UInt8)
 |[]=>some []
 |.int .u8 n::r=>match bytesOf r with
  |some s=>some (UInt8.ofNat n.toNat::s)
  |none=>none
 |_::_=>none
def JSR(H:Heap)(c:Ck)(i:Nat)(k:Dat)(j w:Nat):Option Res:=match H i,H j with
 |some (.mapo es),some (.row w' sy ys)=>match UM c es k with
  |some _=>some {c:=w=w',v:=.und,ups:=[(j,.frz w' sy ys),(i,.mapo (ZA c es k (.list sy ys)))]}
  |none=>none
 |_,_=>none
def Z7(sz n:Nat):Bool:=(Rls.rl sz&&n==1)||(Rls.rm sz&&decide (0<n))
def step(τ:UX)(H:Heap)(dst:Nat):IOp→Option Res
 |.mov x=>(val τ x).map fun v=>{c:=True,v}
 |.new zs=>match H dst with
  |none=>some {c:=True,v:=.ref dst 0,ups:=[(dst,.box (zs.map .d))]}
  |some _=>none
 |.box x=>match H dst,val τ x with
  |none,some v=>match v.cells with
   |some cs=>some {c:=True,v:=.ref dst 0,ups:=[(dst,.box cs)]}
   |none=>none
  |_,_=>none
 |.bld zs ps=>match JA0 τ (zs.map .d) ps with
  |some cs=>some {c:=True,v:=JCy cs}
  |none=>none
 |.bls sz ps=>match vals τ ps with
  |some vs=>match JFJ H dst sz vs with
   |some r=>some r
   |none=>match Jl H vs with
   |some (p,xs,ups)=>match Z7 sz ps.length,ups with
    |true,[]=>match H dst with
     |none=>some {c:=p∧∀x∈xs,x.cells.length=sz,v:=.ms dst 0,ups:=[(dst,.row 0 sz xs)]}
     |some _=>none
    |true,u::us=>match Rls.rm sz with
     |true=>match H dst with
      |none=>match(u::us).any fun e=>e.1==dst with
       |false=>some {c:=p∧∀x∈xs,x.cells.length=sz,v:=.ms dst 0,ups:=u::us++[(dst,.row 0 sz xs)]}
       |true=>none
      |some _=>none
     |false=>some {c:=p∧∀x∈xs,x.cells.length=sz,v:=match xs with|[]=>.d (.nil sz)|_=>.d (.list sz xs),ups}
    |false,_=>some {c:=p∧∀x∈xs,x.cells.length=sz,v:=match xs with|[]=>.d (.nil sz)|_=>.d (.list sz xs),ups}
   |none=>none
  |none=>none
 |.ld n a=>match val τ a with
  |some (.ref i off)=>match H i,n with
   |some (.box cs),none=>match cs[off]? with
    |some v=>some {c:=True,v}
    |none=>none
   |some (.box cs),some n=>if off+n≤cs.length then some {c:=True,v:=JCy ((cs.drop off).take n)}else none
   |some (.fbox ds),none=>some {c:=off<ds.length,v:=.d (ds.getD off .opq)}
   |some (.fbox ds),some n=>some {c:=off+n≤ds.length,v:=.d (.agg ((ds.drop off).take n))}
   |_,_=>none
  |some (.el i ver k off)=>match H i,n with
   |some (.row v' _ xs),none=>some {c:=ver=v'∧off<(nth xs k).cells.length,v:=.d ((nth xs k).cells.getD off .opq)}
   |some (.row v' _ xs),some n=>some {c:=ver=v'∧off+n≤(nth xs k).cells.length,v:=.d (.agg (((nth xs k).cells.drop off).take n))}
   |_,_=>none
  |some (.d (.ptr cs))=>match n with
   |none=>some {c:=0<cs.length,v:=.d (cs.getD 0 .opq)}
   |some n=>some {c:=n≤cs.length,v:=.d (.agg (cs.take n))}
  |some (.d (.glo g))=>match YK g,n with
   |some cs,none=>some {c:=0<cs.length,v:=.d (cs.getD 0 .opq)}
   |some cs,some n=>some {c:=n≤cs.length,v:=.d (.agg (cs.take n))}
   |none,_=>none
  |some (.tr i h)=>match h.k,Xr H i h with
   |some (k,off),some (c,s,_,ys)=>match n with
    |none=>some {c:=c∧k<ys.length∧off<(nth ys k).cells.length,v:=JBD i h.ver s h.p k off ((nth ys k).cells.getD off .opq)}
    |some n=>some {c:=c∧k<ys.length∧off+n≤(nth ys k).cells.length,v:=JCy (YR i h.ver s h.p k off (((nth ys k).cells.drop off).take n))}
   |_,_=>none
  |_=>none
 |.sto n a v=>match val τ a,val τ v with
  |some (.ref i off),some v=>match H i,v.cells with
   |some (.box cs),some vs=>if off+vs.length≤cs.length∧vs.length=n.getD 1 then some {c:=True,v:=.und,ups:=[(i,.box (Jh cs off vs))]}else none
   |_,_=>none
  |some (.el i ver k off),some (.d x)=>match H i with
   |some (.row v' sz xs)=>match n with
    |none=>some {c:=ver=v'∧x.cells.length=1∧off+1≤(nth xs k).cells.length,v:=.und,ups:=[(i,.row v' sz (xs.set k (JDu (sz≠1) (nth xs k) off x.cells)))]}
    |some n=>some {c:=ver=v'∧x.cells.length=n∧off+n≤(nth xs k).cells.length,v:=.und,ups:=[(i,.row v' sz (xs.set k (JDu true (nth xs k) off x.cells)))]}
   |_=>none
  |some (.el i ver k off),some (.ms j w)=>stoF H n i ver k off j w
  |some (.tr i h),some v=>JHX H n i h v
  |_,_=>none
 |.fa a off=>match val τ a with
  |some (.ref i o)=>some {c:=True,v:=.ref i (o+off)}
  |some (.el i ver k o)=>some {c:=True,v:=.el i ver k (o+off)}
  |some (.d (.ptr cs))=>some {c:=True,v:=.d (.ptr (cs.drop off))}
  |some (.d (.glo g))=>match YK g with
   |some cs=>some {c:=True,v:=.d (.ptr (cs.drop off))}
   |none=>none
  |some (.tr i h)=>match h.k with
   |some (k,o)=>some {c:=True,v:=.tr i {h with k:=some (k,o+off)}}
   |none=>none
  |_=>none
 |.fld n x off=>match val τ x,n with
  |some (.d (.agg cs)),none=>match cs[off]? with
   |some v=>some {c:=True,v:=.d v}
   |none=>none
  |some (.d (.agg cs)),some n=>some {c:=off+n≤cs.length,v:=.d (.agg ((cs.drop off).take n))}
  |some (.agg cs),none=>match cs[off]? with
   |some v=>some {c:=True,v}
   |none=>none
  |some (.agg cs),some n=>if off+n≤cs.length then some {c:=True,v:=JCy ((cs.drop off).take n)}else none
  |_,_=>none
 |.ixa _ sz a i=>match val τ a,val τ i with
  |some (.d (.list sz' xs)),some (.d (.int _ n))=>some {c:=sz'=sz∧0≤n∧n<xs.length,v:=.d (.ptr (nth xs n.toNat).cells)}
  |some (.ms j ver),some (.d (.int _ n))=>match H j with
   |some (.row v' sz' xs)=>some {c:=ver=v'∧sz'=sz∧0≤n∧n<xs.length,v:=.el j ver n.toNat 0}
   |some (.frz v' sz' xs)=>some {c:=ver=v'∧sz'=sz∧0≤n∧n<xs.length,v:=.d (.ptr (nth xs n.toNat).cells)}
   |_=>none
  |some (.sub j ver off len),some (.d (.int _ n))=>match H j with
   |some (.row v' sz' _)=>some {c:=ver=v'∧sz'=sz∧0≤n∧n<len,v:=.el j ver (off+n.toNat) 0}
   |_=>none
  |some (.tr j h),some (.d (.int _ n))=>match h.k,Xr H j h with
   |none,some (c,s,sz',ys)=>some {c:=c∧sz'=sz∧0≤n∧n<ys.length,v:=.tr j ⟨h.ver,s,h.p,some (n.toNat,0)⟩}
   |_,_=>none
  |_,_=>none
 |.ixr len sz a i=>match val τ a,val τ i with
  |some (.ref j off),some (.d (.int _ n))=>some {c:=0≤n∧n<len,v:=.ref j (off+n.toNat*sz)}
  |some (.d (.ptr cs)),some (.d (.int _ n))=>some {c:=0≤n∧n<len,v:=.d (.ptr (cs.drop (n.toNat*sz)))}
  |some (.d (.glo g)),some (.d (.int _ n))=>match YK g with
   |some cs=>some {c:=0≤n∧n<len,v:=.d (.ptr (cs.drop (n.toNat*sz)))}
   |none=>none
  |_,_=>none
 |.ixs x i=>match val τ x,val τ i with
  |some (.d (.str s)),some (.d (.int _ n))=>some {c:=0≤n∧n<s.length,v:=.d (.int .u8 (s.getD n.toNat 0).toNat)}
  |_,_=>none
 |.ixv n len sz x i=>match val τ x,val τ i,n with
  |some (.d (.agg cs)),some (.d (.int _ k)),none=>some {c:=0≤k∧k<len∧k.toNat*sz<cs.length,v:=.d (cs.getD (k.toNat*sz) .opq)}
  |some (.d (.agg cs)),some (.d (.int _ k)),some n=>some {c:=0≤k∧k<len∧k.toNat*sz+n≤cs.length,v:=.d (.agg ((cs.drop (k.toNat*sz)).take n))}
  |_,_,_=>none
 |.bin b x y=>match val τ x,val τ y with
  |some u,some v=>match UR b u v with
   |some (c,r)=>some {c,v:=.d r}
   |none=>none
  |_,_=>none
 |.not x=>match val τ x with
  |some (.d (.bool b))=>some {c:=True,v:=.d (.bool (!b))}
  |_=>none
 |.neg k x=>match val τ x with
  |some (.d (.int k' n))=>if k=k' then some {c:=True,v:=.d (.int k (k.wrap (0-n)))}else none
  |_=>none
 |.cvi k x=>match val τ x with
  |some (.d (.int _ n))=>some {c:=True,v:=.d (.int k (k.wrap n))}
  |_=>none
 |.ifc t x=>match val τ x with
  |some (.d v)=>some {c:=True,v:=.d (.iface t v)}
  |some (.ref _ _)=>some {c:=True,v:=.d (.iface t .opq)}
  |_=>none
 |.fnv f first cap=>match vals τ first,vals τ cap with
  |some fs,some cs=>match YL fs,YL cs with
   |some fs,some cs=>some {c:=True,v:=.d (.fn f fs cs)}
   |_,_=>some {c:=True,v:=.clo f fs cs}
  |_,_=>none
 |.mks sz zs len cap=>match H dst,val τ len,val τ cap with
  |none,some (.d (.int _ l)),some (.d (.int _ c))=>some {c:=0≤l∧l≤c∧c≤68719476736,v:=.ms dst 0,ups:=[(dst,.row 0 sz (List.replicate l.toNat (if zs.length=1 then zs.headD .opq else .agg zs)))]}
  |_,_,_=>none
 |.slc n x lo hi mx=>match val τ x with
  |some v=>match UG H v with
   |some (sz,xs)=>match mx with
    |none=>match UY τ 0 lo,UY τ xs.length hi with
     |some l,some h=>match v with
      |.d _=>some {c:=sz=n∧0≤l∧l≤h∧h≤xs.length,v:=.d (.list sz ((xs.drop l.toNat).take (h-l).toNat))}
      |.ms i ver=>some {c:=curr H v∧sz=n∧0≤l∧l≤h∧h≤xs.length,v:=.sub i ver l.toNat (h-l).toNat}
      |.sub i ver off _=>some {c:=curr H v∧sz=n∧0≤l∧l≤h∧h≤xs.length,v:=.sub i ver (off+l.toNat) (h-l).toNat}
      |_=>none
     |_,_=>none
    |some (.k (.int _ 0))=>match lo,hi with
     |none,some (.k (.int _ 0))=>some {c:=curr H v,v:=.d (.nil sz)}
     |_,_=>none
    |some (.t mo)=>match lo,hi with
     |none,some (.t ho)=>match τ mo,τ ho,v with
      |some (.d (.int _ m)),some (.d (.int _ h)),.d _=>some {c:=m=xs.length∧h=xs.length∧sz=n,v:=.ful sz xs}
      |_,_,_=>none
     |_,_=>none
    |_=>none
   |none=>none
  |none=>none
 |.sls x lo hi=>match val τ x with
  |some (.d (.str s))=>match UY τ 0 lo,UY τ s.length hi with
   |some l,some h=>some {c:=0≤l∧l≤h∧h≤s.length,v:=.d (.str ((s.drop l.toNat).take (h-l).toNat))}
   |_,_=>none
  |_=>none
 |.ext x i=>match val τ x with
  |some (.tup vs)=>match vs[i]? with
   |some v=>some {c:=True,v}
   |none=>none
  |_=>none
 |.slen x=>match val τ x with
  |some (.d (.str s))=>some {c:=True,v:=.d (.int .i64 s.length)}
  |_=>none
 |.len x=>match val τ x with
  |some v=>match UG H v with
   |some (_,xs)=>some {c:=curr H v,v:=.d (.int .i64 xs.length)}
   |none=>match v with
    |.tr i h=>match h.k,Xr H i h with
     |none,some (c,_,_,ys)=>some {c,v:=.d (.int .i64 ys.length)}
     |_,_=>none
    |_=>none
  |none=>none
 |.app sz x y=>match val τ x,val τ y with
  |some u,some v=>match UG H v with
   |some (sz',ys)=>match u with
    |.d (.nil _)=>match H dst with
     |none=>match Rls.tr sz with
      |false=>some {c:=curr H v∧sz'=sz∧0<sz∧ys.length≤68719476736∧∀y∈ys,y.cells.length=sz,v:=.ms dst 0,ups:=[(dst,.row 0 sz ys)]}
      |true=>some {c:=curr H v∧sz'=sz∧0<sz∧0<ys.length∧ys.length≤68719476736∧∀y∈ys,y.cells.length=sz,v:=.tr dst ⟨0,0,[],none⟩,ups:=[(dst,.tre 0 0 sz ys)]}
     |some _=>none
    |.ful sz1 xs=>match H dst with
     |none=>some {c:=curr H v∧sz'=sz∧sz1=sz∧0<ys.length∧xs.length+ys.length≤68719476736,v:=.ms dst 0,ups:=[(dst,.row 0 sz (xs++ys))]}
     |some _=>none
    |.tr i h=>JJQ H dst sz (curr H v) sz' ys i h
    |.ms i ver=>match H i with
     |some (.row v' sz'' xs)=>some {c:=curr H v∧ver=v'∧sz'=sz∧sz''=sz∧xs.length+ys.length≤68719476736,v:=.ms i (v'+1),ups:=[(i,.row (v'+1) sz (xs++ys))]}
     |_=>none
    |.sub i ver 0 n=>match H i with
     |some (.row v' sz'' xs)=>some {c:=curr H v∧ver=v'∧sz'=sz∧sz''=sz∧n+ys.length≤68719476736∧0<n+ys.length,v:=.ms i (v'+1),ups:=[(i,.row (v'+1) sz (xs.take n++ys))]}
     |_=>none
    |_=>none
   |none=>JGU H dst sz u v
  |_,_=>none
 |.mn x y=>match val τ x,val τ y with
  |some (.d (.int k a)),some (.d (.int k' b))=>if k=k' then some {c:=True,v:=.d (.int k (if b<a then b else a))}else none
  |_,_=>none
 |.mx x y=>match val τ x,val τ y with
  |some (.d (.int k a)),some (.d (.int k' b))=>if k=k' then some {c:=True,v:=.d (.int k (if b>a then b else a))}else none
  |_,_=>none
 |.nck x=>match val τ x with
  |some v=>match isNil v with
   |some false=>some {c:=True,v}
   |_=>none
  |none=>none
 |.mkm=>match H dst with
  |none=>some {c:=True,v:=.mp dst,ups:=[(dst,.mapo [])]}
  |some _=>none
 |.mpu c m k v=>match val τ m,val τ k,val τ v with
  |some (.mp i),some (.d k),some (.d v)=>match H i with
   |some (.mapo es)=>match UM c es k with
    |some _=>some {c:=True,v:=.und,ups:=[(i,.mapo (ZA c es k v))]}
    |none=>none
   |_=>none
  |some (.mp i),some (.d k),some (.ms j w)=>JSR H c i k j w
  |_,_,_=>none
 |.lkp c z m k ok=>match val τ m,val τ k with
  |some m,some (.d k)=>match(match m with
    |.mp i=>match H i with
     |some (.mapo es)=>some es
     |_=>none
    |.d (.map es)=>some es
    |.d .nilMap=>some []
    |_=>none)with
   |some es=>match UM c es k with
    |some r=>some {c:=True,v:=if ok then .tup [.d (r.getD z),.d (.bool r.isSome)]else .d (r.getD z)}
    |none=>none
   |none=>none
  |_,_=>none
 |.bit op x y=>match val τ x,val τ y with
  |some (.d (.int k a)),some (.d (.int k' c))=>match JSQ op k a k' c with
   |some (p,n)=>some {c:=p,v:=.d (.int k n)}
   |none=>none
  |_,_=>none
 |.men c z m k=>match val τ m,val τ k with
  |some (.mp i),some (.d k)=>match H i with
   |some (.mapo es)=>match UM c es k with
    |some none=>match Nat.ble es.length 68719476736 with
     |true=>some {c:=True,v:=.tup [.d z,.d (.int .i64 es.length)],ups:=[(i,.mapo (ZA c es k z))]}
     |false=>none
    |_=>none
   |_=>none
  |_,_=>none
 |.mes m s v=>match val τ m,val τ s,val τ v with
  |some (.mp i),some (.d (.int .i64 (.ofNat j))),some (.d v)=>match H i with
   |some (.mapo es)=>match es[j]? with
    |some e=>some {c:=True,v:=.und,ups:=[(i,.mapo (es.set j (e.1,v)))]}
    |none=>none
   |_=>none
  |_,_,_=>none
 |.asr t x=>match val τ x with
  |some (.d (.iface t' v))=>if t'=t then some {c:=True,v:=.tup [.d v,.d (.bool true)]}else none
  |_=>none
 |.i2s x=>match val τ x with
  |some (.d (.int _ n))=>some {c:=True,v:=.d (.str (Utf8.encode n).data.toList)}
  |_=>none
 |.nilq f neg x=>match val τ x with
  |some v=>match f with
   |true=>match v with
    |.d .nilFn=>some {c:=True,v:=.d (.bool (!neg))}
    |.d (.fn (.func _) _ _)=>some {c:=True,v:=.d (.bool neg)}
    |.clo (.func _) _ _=>some {c:=True,v:=.d (.bool neg)}
    |_=>none
   |false=>match UG H v with
    |some (_,_::_)=>some {c:=curr H v,v:=.d (.bool neg)}
    |_=>none
  |none=>none
 |.s2b x=>match val τ x with
  |some (.d (.str s))=>some {c:=True,v:=.d (.list 1 (s.map fun b=>.int .u8 b.toNat))}
  |_=>none
 |.b2s x=>match val τ x with
  |some v=>match UG H v with
   |some (_,xs)=>match bytesOf xs with
    |some s=>some {c:=curr H v∧xs.length≤68719476736,v:=.d (.str s)}
    |none=>none
   |none=>none
  |none=>none
 |.rgs x=>match H dst,val τ x with
  |none,some (.d (.str s))=>some {c:=True,v:=.mp dst,ups:=[(dst,.sit s 0)]}
  |_,_=>none
 |.nxs x=>match val τ x with
  |some (.mp i)=>match H i with
   |some (.sit s p)=>if p<s.length then some {c:=True,v:=.tup [.d (.bool true),.d (.int .i64 p),.d (.int .i32 (Utf8.decode ⟨s.toArray⟩ p).1)],ups:=[(i,.sit s (p+(Utf8.decode ⟨s.toArray⟩ p).2))]}
    else some {c:=True,v:=.tup [.d (.bool false)]}
   |_=>none
  |_=>none
 |.bad=>none
end Av
namespace Av
open Go
variable [Glb][Rls]
structure St where
 tm:List (Nat×Av)
 hp:List (Nat×Obj)
def put{α:Type}:List (Nat×α)→Nat→α→List (Nat×α)
 |[],i,v=>[(i,v)]
 |(k,u)::r,i,v=>if k=i then(i,v)::r else(k,u)::put r i v
def UH{α:Type}:List (Nat×α)→List (Nat×α)→List (Nat×α)
 |l,[]=>l
 |l,(i,v)::r=>UH (put l i v) r
def Un{α:Type}:List (Nat×α)→List Nat→List (Nat×α)
 |[],_=>[]
 |(k,v)::r,l=>if l.contains k then Un r l else(k,v)::Un r l
def keeps{α:Type}:List (Nat×α)→List Nat→List (Nat×α)
 |[],_=>[]
 |(k,v)::r,l=>if l.contains k then(k,v)::keeps r l else keeps r l
def St.app(st:St)(d:Option Nat)(v:Av)(ups:List (Nat×Obj)):St:=
 ⟨match d with|some d=>put st.tm d v|none=>st.tm,UH st.hp ups⟩
def St.set(st:St)(d:Option Nat)(v:Av)(hp:List (Nat×Obj)):St:=
 ⟨match d with|some d=>put st.tm d v|none=>st.tm,hp⟩
inductive Cal where
 |fn (f:Nat)
 |dyn (x:Opd)
 deriving Inhabited
inductive Ss where
 |nil
 |op (d:Option Nat) (o:IOp) (r:Ss)
 |call (d:Option Nat) (f:Cal) (args:List Opd) (r:Ss)
 |sc (c:Nat) (b:Bool) (body:Ss) (y:Opd) (d:Nat) (r:Ss)
 deriving Inhabited
inductive Ic where
 |skip
 |reg (s:Ss)
 |regd (un:List (Nat×Nat)) (s:Ss)
 |dn (a:Ic) (ts:List Nat)
 |seq (a b:Ic)
 |ite (c:Opd) (a b:Ic)
 |block (id:Nat) (b:Ic)
 |loop (b:Ic)
 |exit (id:Nat)
 |ret
 |bad
 |scp (a:Ic)
 |lab
 |rng (f:Opd) (N lid:Nat) (ps:Array Nat) (c1 c2:Code) (asg body:Ic)
 deriving Inhabited
def JBl(β:JM)(A:Nat→Prop)(w:World)(H:Heap)(cs:List Av)(vs:Array Value):Prop:=
 cs.length=vs.size∧∀(i:Nat) c v,cs[i]? =some c→vs[i]? =some v→VRep β A w H c v
def Has(P:Program)(f:Nat):Prop:=∃fn,P.funcs[f]? =some fn∧fn.body.isSome=true∧(fn.name== "runtime.NumGoroutine")=false
inductive Cee where
 |fn (n:Nat)
 |yld
 deriving Inhabited
instance (n:Nat):OfNat Cee n:=⟨.fn n⟩
instance:Coe Nat Cee:=⟨.fn⟩
def JDh(P:Program)(f:Cee)(vs:Array Value)(w:World)(R:Value→World→Prop):Prop:=match f with
 |.fn f=>(Has P f∧Calls P f vs w fun e w'=>∃u,e=.returned u∧R u w')∨∃u w',(callFunc f vs).run P w=.ok (.value u) w'∧R u w'
 |.yld=>∃l rest,vs=#[.func (.yield l) #[] #[]]++rest∧∃fn tmps asg body,(Instr.yield l rest).run P w=.ok (.round l fn tmps asg body) w∧
  RoundIn Fence.wide 0 P l fn tmps asg body w fun e w'=>∃u,e=.returned u∧R u w'
def JC(P:Program)(f:Cee)(args:List Av)(T:List (Nat×Option Obj))(v:Av)(ups:List (Nat×Obj)):Prop:=
 ∀β A w H vs,(∀e∈T,H e.1=e.2)→Core β A w H→JBl β A w H args vs→
  JDh P f vs w fun u w'=>∃β' A',Stp β A w H β' A' w' (JA H ups)∧VRep β' A' w' (JA H ups) v u
def Xz(τ:UX)(f:Cal)(vs:List Av):Option (Cee×List Av):=
 match f with
  |.fn f=>some (.fn f,vs)
  |.dyn x=>match val τ x with
   |some (.d (.fn (.func f) fs cs))=>some (.fn f,fs.map .d++vs++cs.map .d)
   |some (.clo (.func f) fs cs)=>some (.fn f,fs++vs++cs)
   |some (.mp i)=>some (.yld,.mp i::vs)
   |_=>none
def target(τ:UX)(f:Cal)(args:List Opd):Option (Cee×List Av):=
 match vals τ args with
 |none=>none
 |some vs=>Xz τ f vs
def Ss.J1:Ss→List Nat
 |.nil=>[]
 |.op d _ r=>d.toList++r.J1
 |.call d _ _ r=>d.toList++r.J1
 |.sc _ _ body _ d r=>body.J1++d::r.J1
def Ss.len:Ss→Nat
 |.nil=>0
 |.op _ _ r=>r.len+1
 |.call _ _ _ r=>r.len+1
 |.sc _ _ body _ _ r=>body.len+(r.len+1)
def XE(H:Heap):List (Nat×Option Obj)→Prop
 |[]=>True
 |e::r=>H e.1=e.2∧XE H r
def wps(P:Program):Ss→(St→Prop)→St→Prop
 |.nil,K,st=>K st
 |.op d o r,K,st=>match step (get st.tm) (get st.hp) (d.getD 0) o with
  |some x=>x.c∧wps P r K (st.app d x.v x.ups)
  |none=>False
 |.call d f args r,K,st=>match target (get st.tm) f args with
  |some (f,vs)=>∃T v ups hp,JC P f vs T v ups∧XE (get st.hp) T∧(∀i,get hp i=JA (get st.hp) ups i)∧wps P r K (st.set d v hp)
  |none=>False
 |.sc c b body y d r,K,st=>match get st.tm c with
  |some (.d (.bool x))=>∃(yv:Bool) (hp:List (Nat×Obj)),(x=b→wps P body (fun st'=>val (get st'.tm) y=some (.d (.bool yv))∧st'.hp=hp) st)∧(x≠b→hp=st.hp)∧
    wps P r K ⟨put (Un st.tm body.J1) d (.d (.bool (if b then x&&yv else x||yv))),hp⟩
  |_=>False
def ids:Av→List Nat
 |.ref i _|.ms i _|.sub i _ _ _|.el i _ _ _|.mp i|.tr i _=>[i]
 |.clo _ fs cs=>(Z6 fs cs).toList
 |_=>[]
def XJ(τ:UX)(x:Opd):List Nat:=match val τ x with
 |some v=>ids v
 |none=>[]
def Yv:Av→List Nat
 |.agg cs=>cs.flatMap ids
 |v=>ids v
def rd(τ:UX)(dst:Nat):IOp→List Nat
 |.bls _ xs=>dst::xs.flatMap fun x=>match val τ x with
  |some v=>Yv v
  |none=>[]
 |.new _|.box _|.mks .. |.mkm=>[dst]
 |.ld _ a=>XJ τ a
 |.sto _ a v=>XJ τ a++(match val τ a with
  |some (.tr _ _)=>XJ τ v
  |some (.el _ _ _ _)=>XJ τ v
  |_=>[])
 |.ixa _ _ a _=>XJ τ a
 |.slc _ x _ _ _=>XJ τ x
 |.len x=>XJ τ x
 |.app _ x y=>dst::(XJ τ x++XJ τ y)
 |.mpu _ m _ v=>XJ τ m++XJ τ v
 |.men _ _ m _=>XJ τ m
 |.mes m _ _=>XJ τ m
 |.rgs _=>[dst]
 |.nxs x=>XJ τ x
 |.b2s x=>XJ τ x
 |.nilq _ _ x=>XJ τ x
 |.lkp _ _ m _ _=>XJ τ m
 |_=>[]
abbrev Log:=List (List Nat×List Nat)
def UZ(P:Program):Ss→(St→Log→Prop)→St→Log→Prop
 |.nil,K,st,lg=>K st lg
 |.op d o r,K,st,lg=>match step (get st.tm) (get st.hp) (d.getD 0) o with
  |some x=>x.c∧UZ P r K (st.app d x.v x.ups) (lg++[(rd (get st.tm) (d.getD 0) o,x.ups.map (·.1))])
  |none=>False
 |.call d f args r,K,st,lg=>match target (get st.tm) f args with
  |some (f,vs)=>∃T v ups hp,JC P f vs T v ups∧XE (get st.hp) T∧(∀i,get hp i=JA (get st.hp) ups i)∧UZ P r K (st.set d v hp) (lg++[(T.map (·.1),ups.map (·.1))])
  |none=>False
 |.sc c b body y d r,K,st,lg=>match get st.tm c with
  |some (.d (.bool x))=>∃(yv:Bool) (hp:List (Nat×Obj)) (l:Log),l.length=body.len∧(x=b→UZ P body (fun st' l'=>val (get st'.tm) y=some (.d (.bool yv))∧st'.hp=hp∧l'=l) st [])∧
    (x≠b→hp=st.hp)∧UZ P r K ⟨put (Un st.tm body.J1) d (.d (.bool (if b then x&&yv else x||yv))),hp⟩ (lg++(l++[([],[])]))
  |_=>False
def UD(β:JM)(A:Nat→Prop)(w:World)(H:Heap)(τ:UX)(a:Act):Prop:=
 ∀t v,τ t=some v→∃u,a.tmps[t]? =some u∧VRep β A w H v u
def base(D:Nat→Prop):Av→Prop
 |.d _=>True
 |.ref i _|.ms i _|.sub i _ _ _|.el i _ _ _|.mp i|.tr i _=>D i
 |_=>False
def D0(i:Nat):Prop:=1000≤i
def Wk(D:Nat→Prop)(st st':St):Prop:=∀β A w a,Core β A w (get st.hp)→UD β A w (get st.hp) (get st.tm) a→
 ∃β' A',Core β' A' w (get st'.hp)∧UD β' A' w (get st'.hp) (get st'.tm) a∧
  (∀i o b,get st'.hp i=some o→o.live=true→(β' i).has b→∃i' o',get st.hp i'=some o'∧o'.live=true∧(β i').has b)∧
  (∀b,A' b→A b∨∃i o,get st.hp i=some o∧o.live=true∧(β i).has b)∧
  ∀c u,base D c→VRep β A w (get st.hp) c u→VRep β' A' w (get st'.hp) c u
def JDv(a b:List Nat):Bool:=a.all fun x=> !b.contains x
def JGV(x y:List Nat×List Nat):Bool:=JDv x.2 y.1&&JDv x.2 y.2&&JDv x.1 y.2
def X7(lg:Log):List (Nat×Nat)→Bool
 |[]=>true
 |(i,j)::r=>JGV (lg.getD i ([],[])) (lg.getD j ([],[]))&&X7 lg r
structure Ent where
 β:JM
 A:Nat→Prop
 w:World
 H:Heap
 D:Nat→Prop
 ro:Option Nat
structure Since(E:Ent)(β:JM)(A:Nat→Prop)(w:World)(H:Heap):Prop where
 os:w.os=E.w.os
 tape:w.tape=E.w.tape
 output:w.output=E.w.output
 size:E.w.heap.size≤w.heap.size
 same:∀b,b<E.w.heap.size→(∀i o,E.H i=some o→o.live→¬(E.β i).has b)→w.heap[b]? =E.w.heap[b]?
 loops:∀(b:Nat) r,E.w.heap[b]? =some (.loop r)→∃r',w.heap[b]? =some (.loop r')
 data:∀b,A b→E.A b∨E.w.heap.size≤b∨∃i o,E.H i=some o∧o.live∧(E.β i).has b
 mine:∀i o b,H i=some o→o.live→(β i).has b→E.w.heap.size≤b∨∃i' o',E.H i'=some o'∧o'.live∧(E.β i').has b
 vals:∀c u,base E.D c→VRep E.β E.A E.w E.H c u→VRep β A w H c u
theorem Since.trans{E:Ent}{β:JM}{A:Nat→Prop}{w:World}{H:Heap}{β':JM}{A':Nat→Prop}{w':World}{H':Heap}
  (h1:Since E β A w H)(h2:Stp β A w H β' A' w' H'):Since E β' A' w' H' where
 os:=h2.os.trans h1.os
 tape:=h2.tape.trans h1.tape
 output:=h2.output.trans h1.output
 size:=Nat.le_trans h1.size h2.size
 same b hb hn:=by
  rw[h2.same b (Nat.lt_of_lt_of_le hb h1.size) ?_,h1.same b hb hn];intro i o hi ho hbi;rcases h1.mine i o b hi ho hbi with h|⟨i',o',hi',ho',hb'⟩
  ·omega
  ·exact hn i' o' hi' ho' hb'
 loops b r h:=by
  obtain⟨r',h'⟩:=h1.loops b r h;exact h2.loops b r' h'
 data b hb:=by
  rcases h2.data b hb with h|h|⟨i,o,hi,ho,hbi⟩
  ·exact h1.data b h
  ·exact .inr (.inl (Nat.le_trans h1.size h))
  ·rcases h1.mine i o b hi ho hbi with h|h
   ·exact .inr (.inl h)
   ·exact .inr (.inr h)
 mine i o b hi ho hbi:=by
  rcases h2.mine i o b hi ho hbi with h|⟨i',o',hi',ho',hb'⟩
  ·exact .inl (Nat.le_trans h1.size h)
  ·exact h1.mine i' o' b hi' ho' hb'
 vals c u hb h:=h2.vals c u (h1.vals c u hb h)
def Marks(E:Ent)(a:Act)(w:World)(β:JM)(A:Nat→Prop)(H:Heap):Prop:=
 ∃ms:List Nat,ms.Nodup∧a.defers=ms.map (fun r=>{target:=.collected r,args:=#[]})∧
  ∀r∈ms,E.w.heap.size≤r∧w.heap[r]? =some (.deferred (some []))∧¬A r∧∀i o,H i=some o→o.live=true→¬(β i).has r
structure Sat(E:Ent)(N:Nat)(st:St)(a:Act)(w:World)(β:JM)(A:Nat→Prop):Prop where
 core:Core β A w (get st.hp)
 tmps:UD β A w (get st.hp) (get st.tm) a
 size:a.tmps.size=N
 since:Since E β A w (get st.hp)
 marks:Marks E a w β A (get st.hp)
 round:∀l,E.ro=some l→∃r,w.heap[l]? =some (.loop r)
end Av
namespace Av
open Go
variable [Glb][Rls]
def szT(P:Program)(t:TypeId):Option Nat:=(P.info? t).map (·.size)
def agT(P:Program)(t:TypeId):Option Bool:=match P.underlying t with
 |some (.struct _)|some (.array _ _)=>some true
 |some _=>some false
 |none=>none
def shT(P:Program)(t:TypeId):Option (Option Nat):=match agT P t,szT P t with
 |some true,some n=>some (some n)
 |some false,some 1=>some none
 |_,_=>none
def elT(P:Program)(t:TypeId):Option TypeId:=match P.underlying t with
 |some (.slice e)=>some e
 |_=>none
def JDw(P:Program):Nat→TypeId→Option (List TypeId)
 |0,_=>none
 |n+1,t=>match P.underlying t with
  |some (.struct fs)=>fs.toList.foldr (fun f r=>match JDw P n f.type,r with
   |some a,some b=>some (a++b)
   |_,_=>none) (some [])
  |some (.array k e)=>(JDw P n e).map fun l=>(List.replicate k l).flatten
  |some _=>some [t]
  |none=>none
def zeroCell(P:Program)(t:TypeId):Option Dat:=match P.underlying t with
 |some (.int k)=>some (.int k 0)
 |some .bool=>some (.bool false)
 |some .string=>some (.str [])
 |some (.slice e)=>(szT P e).map .nil
 |some (.pointer _)=>some .nilPtr
 |some (.map _ _)=>some .nilMap
 |some (.func _ _ _)=>some .nilFn
 |some (.interface _)=>some .nilIface
 |_=>none
def JFa:Dat→Value→Bool
 |.int k n,.int k' m=>k==k'&&n==m&&decide (k.min≤n∧n≤k.max)
 |.bool a,.bool b=>a==b
 |.str l,.string s=>l==s.data.toList&&decide (l.length≤68719476736)
 |.nil _,.slice _ 0 0=>true
 |.nilPtr,.pointer none=>true
 |.nilMap,.map none=>true
 |.nilFn,.nilFunc=>true
 |.nilIface,.nilIface=>true
 |.fn (.func f) [] [],.func (.func g) a b=>f==g&&a.size==0&&b.size==0
 |_,_=>false
def JBE:List Dat→List Value→Bool
 |[],[]=>true
 |x::xs,v::vs=>JFa x v&&JBE xs vs
 |_,_=>false
def Ji{α:Type}:List (Option α)→Option (List α)
 |[]=>some []
 |some x::r=>(Ji r).map (x:: ·)
 |none::_=>none
def zsT(P:Program)(t:TypeId):Option (List Dat):=match P.info? t with
 |some i=>match i.zero,JDw P 12 t with
  |some z,some ts=>match Ji (ts.map (zeroCell P))with
   |some ds=>if JBE ds z.cells.toList&&ds.length==i.size then some ds else none
   |none=>none
  |_,_=>none
 |none=>none
def JCS(P:Program)(t:TypeId):Value→Option Dat
 |.bool b=>some (.bool b)
 |.int k n=>if k.min≤n∧n≤k.max then some (.int k n)else none
 |.string s=>if s.data.toList.length≤68719476736 then some (.str s.data.toList)else none
 |.slice _ 0 0=>match elT P t with
  |some e=>(szT P e).map .nil
  |none=>none
 |.pointer none=>some .nilPtr
 |.map none=>some .nilMap
 |.nilFunc=>some .nilFn
 |.nilIface=>some .nilIface
 |.func (.func f) a b=>if a.size=0∧b.size=0 then some (.fn (.func f) [] [])else none
 |_=>none
def JGW(P:Program)(t:TypeId):Value→Option Dat
 |.agg cs=>match JDw P 12 t with
  |some ts=>if ts.length=cs.size then(Ji ((ts.zip cs.toList).map fun(t,v)=>JCS P t v)).map .agg else none
  |none=>none
 |v=>JCS P t v
def opd(P:Program)(t:TypeId):Operand→Option Opd
 |.tmp n=>some (.t n)
 |.const v=>(JGW P t v).map .k
 |.func f=>some (.k (.fn (.func f) [] []))
 |.global g=>some (.k (.glo g))
def ZB(P:Program)(t:TypeId):Option Operand→Option (Option Opd)
 |none=>some none
 |some x=>(opd P t x).map some
def ckT(P:Program)(t:TypeId):Option Ck:=match P.underlying t with
 |some (.int _)=>some .i
 |some .bool=>some .b
 |some .string=>some .s
 |_=>none
def Jq(P:Program):Nat→List Field→Option (List Ck)
 |_,[]=>some []
 |i,f::r=>if f.name≠ "_" ∧f.offset=i then match ckT P f.type,Jq P (i+1) r with
  |some c,some cs=>some (c::cs)
  |_,_=>none else none
def ckK(P:Program)(t:TypeId):Option Ck:=match P.underlying t with
 |some (.struct fs)=>if P.stoodInHeld t=false then match Jq P 0 fs.toList with
  |some [a,b]=>some (.p a b)
  |_=>none else none
 |_=>ckT P t
def Zw(P:Program)(op:BinOp)(t:TypeId)(y:Operand):Option Bk:=
 match P.underlying t with
 |some (.int _)=>match op with
  |.add=>some .add|.sub=>some .sub|.mul=>some .mul|.quo=>some .quo|.rem=>some .rem
  |.eql=>some .eql|.neq=>some .neq|.lss=>some .lss|.leq=>some .leq|.gtr=>some .gtr|.geq=>some .geq
  |_=>none
 |some .string=>match op with
  |.add=>some .cat|.eql=>some .seq|.neq=>some .sne|.lss=>some .slt|.leq=>some .sle|.gtr=>some .sgt|.geq=>some .sge
  |_=>none
 |some .bool=>match op with
  |.eql=>some .beq|.neq=>some .bne
  |_=>none
 |some (.interface _)=>match op,y with
  |.eql,.const .nilIface=>some .nileq
  |.neq,.const .nilIface=>some .nilne
  |_,_=>none
 |some (.struct fs)=>match Jq P 0 fs.toList with
  |some ks=>if P.stoodInHeld t=false∧P.eqGuardType P.depth t=false then match op with
   |.eql=>some (.teq ks)|.neq=>some (.tne ks)
   |_=>none else none
  |none=>none
 |_=>none
def JHY(P:Program):TypeId:=P.rt.int
def JHZ(P:Program)(o:Oper):Option IOp:=
 match o.op with
 |.move x|.assign x=>(opd P o.type x).map .mov
 |.alloc e=>(zsT P e).map .new
 |.box e x=>(opd P e x).map .box
 |.build t parts=>match P.underlying t,zsT P t with
  |some (.struct fs),some zs=>match fs.toList.mapM (fun f=>(P.info? f.type).map fun i=>(f.offset,i.size))with
   |some places=>(Ji (parts.toList.map fun(i,x)=>match places.toArray[i]?,fs[i]? with
    |some p,some f=>(opd P f.type x).map fun x=>(p.1,p.2,x)
    |_,_=>none)).map (.bld zs)
   |none=>none
  |some (.array _ e),some zs=>match szT P e with
   |some n=>(Ji (parts.toList.map fun(i,x)=>(opd P e x).map fun x=>(i*n,n,x))).map (.bld zs)
   |none=>none
  |_,_=>none
 |.buildSlice t n parts=>match elT P t with
  |some e=>match szT P e,P.info? e with
   |some sz,some i=>if 0<sz∧n*sz≤16777216∧parts.toList.map (·.1)=List.range n∧i.zero.isSome then
     (Ji (parts.toList.map fun(_,x)=>opd P e x)).map (.bls sz)else none
   |_,_=>none
  |none=>none
 |.load t a=>match shT P t,opd P t a with
  |some n,some a=>some (.ld n a)
  |_,_=>none
 |.store t a v=>match shT P t,opd P t a,opd P t v with
  |some n,some a,some v=>some (.sto n a v)
  |_,_,_=>none
 |.nilCheck x=>(opd P 0 x).map .nck
 |.binOp op t x y t'=>match Zw P op t y,opd P t x,opd P t y with
  |some b,some x,some y=>if t'=t then some (.bin b x y)else none
  |_,_,_=>none
 |.unOp op t x=>match op,P.underlying t,opd P t x with
  |.not,_,some x=>some (.not x)
  |.neg,some (.int k),some x=>some (.neg k x)
  |_,_,_=>none
 |.convert s t x=>match P.underlying s,P.underlying t,opd P s x with
  |some (.int _),some (.int k),some x=>some (.cvi k x)
  |_,_,_=>none
 |.makeInterface t x=>match P.underlying t,opd P t x with
  |some (.interface _),_=>none
  |some _,some x=>some (.ifc t x)
  |_,_=>none
 |.makeFunc fn first cap=>match Ji (first.toList.map (opd P 0)),Ji (cap.toList.map (opd P 0))with
  |some fs,some cs=>some (.fnv fn fs cs)
  |_,_=>none
 |.makeSlice t l c=>match elT P t with
  |some e=>match szT P e,zsT P e,P.info? e,agT P e,opd P (JHY P) l,opd P (JHY P) c with
   |some sz,some zs,some i,some ag,some l,some c=>if 0<sz∧zs.length=sz∧i.bytes≤1024∧(ag=true→sz≠1)then some (.mks sz zs l c)else none
   |_,_,_,_,_,_=>none
  |none=>none
 |.slice t x lo hi mx=>match P.underlying t,opd P t x,ZB P (JHY P) lo,ZB P (JHY P) hi,ZB P (JHY P) mx with
  |some .string,some x,some lo,some hi,some none=>some (.sls x lo hi)
  |some (.slice e),some x,some lo,some hi,some mx=>(szT P e).map fun sz=>.slc sz x lo hi mx
  |_,_,_,_,_=>none
 |.fieldAddr t x f=>match P.underlying t,opd P t x with
  |some (.struct fs),some x=>match fs[f]? with
   |some fd=>match szT P fd.type with
    |some n=>if n≠0 then some (.fa x fd.offset)else none
    |none=>none
   |none=>none
  |_,_=>none
 |.field t x f=>match P.underlying t,opd P t x with
  |some (.struct fs),some x=>match fs[f]? with
   |some fd=>(shT P fd.type).map fun n=>.fld n x fd.offset
   |none=>none
  |_,_=>none
 |.indexAddr t x i=>match P.underlying t,opd P t x,opd P (JHY P) i with
  |some (.slice e),some x,some i=>match szT P e,agT P e with
   |some sz,some ag=>if 0<sz then some (.ixa ag sz x i)else none
   |_,_=>none
  |some (.array len e),some x,some i=>match szT P e with
   |some sz=>if 0<sz then some (.ixr len sz x i)else none
   |none=>none
  |_,_,_=>none
 |.index t x i=>match P.underlying t,opd P t x,opd P (JHY P) i with
  |some .string,some x,some i=>some (.ixs x i)
  |some (.array len e),some x,some i=>match shT P e,szT P e with
   |some n,some sz=>some (.ixv n len sz x i)
   |_,_=>none
  |_,_,_=>none
 |.extract x i=>(opd P 0 x).map fun x=>.ext x i
 |.call {callee:=.builtin .len,args,argTypes}=>match args.toList,argTypes.toList with
  |[x],[t]=>match P.underlying t,opd P t x with
   |some .string,some x=>some (.slen x)
   |some (.slice _),some x=>some (.len x)
   |_,_=>none
  |_,_=>none
 |.call {callee:=.builtin .append,args,argTypes}=>match args.toList,argTypes.toList with
  |[x,y],[t,t']=>match elT P t,elT P t',opd P t x,opd P t' y with
   |some e,some _,some x,some y=>match szT P e,zsT P e,P.info? e,agT P e with
    |some sz,some zs,some i,some ag=>if 0<sz∧zs.length=sz∧i.bytes≤1024∧(ag=true→sz≠1)then some (.app sz x y)else none
    |_,_,_,_=>none
   |_,_,_,_=>none
  |_,_=>none
 |.call {callee:=.builtin .min,args,argTypes}=>match args.toList,argTypes.toList with
  |[x,y],t::_=>match P.underlying t,opd P t x,opd P t y with
   |some (.int _),some x,some y=>some (.mn x y)
   |_,_,_=>none
  |_,_=>none
 |.call {callee:=.builtin .max,args,argTypes}=>match args.toList,argTypes.toList with
  |[x,y],t::_=>match P.underlying t,opd P t x,opd P t y with
   |some (.int _),some x,some y=>some (.mx x y)
   |_,_,_=>none
  |_,_=>none
 |_=>none
def JFb(P:Program)(t:TypeId):Option Dat:=match P.info? t,zsT P t with
 |some i,some zs=>match i.zero with
  |some (.agg arr)=>if JBE zs arr.toList then some (.agg zs)else none
  |some z=>match zs with
   |[x]=>if JFa x z then some x else none
   |_=>none
  |none=>none
 |_,_=>none
def JKT:BinOp→Bool
 |.and|.or|.xor|.andNot|.shl|.shr=>true
 |_=>false
def JMn(P:Program)(op:BinOp)(t:TypeId)(y:Operand):Option (Bool×Bool):=match P.underlying t,y with
 |some (.slice _),.const (.slice none _ _)=>match op with
  |.eql=>some (false,false)
  |.neq=>some (false,true)
  |_=>none
 |some (.func _ _ _),.const .nilFunc=>match op with
  |.eql=>some (true,false)
  |.neq=>some (true,true)
  |_=>none
 |_,_=>none
def JMo(P:Program)(o:Oper):Option IOp:=
 match o.op with
 |.binOp op t x y _=>if JKT op then match opd P t x,opd P t y with
   |some x,some y=>some (.bit op x y)
   |_,_=>none else match JMn P op t y,opd P t x with
   |some (f,n),some x=>some (.nilq f n x)
   |_,_=>none
 |.convert s t x=>match P.underlying s,P.underlying t,opd P s x with
  |some .string,some (.slice e),some x=>match P.underlying e with
   |some (.int .u8)=>if szT P e=some 1 then some (.s2b x)else none
   |_=>none
  |some (.slice e),some .string,some x=>match P.underlying e with
   |some (.int .u8)=>if szT P e=some 1 then some (.b2s x)else none
   |_=>none
  |some (.int _),some .string,some x=>some (.i2s x)
  |_,_,_=>none
 |.typeAssert x xt t true=>match P.underlying t,opd P xt x with
  |some (.interface _),_=>none
  |some _,some x=>some (.asr t x)
  |_,_=>none
 |.makeMap _ none=>some .mkm
 |.mapUpdate t m k v=>match P.underlying t with
  |some (.map kt et)=>match ckK P kt,opd P t m,opd P kt k,opd P et v with
   |some c,some m,some k,some v=>some (.mpu c m k v)
   |_,_,_,_=>none
  |_=>none
 |.insert t m k v=>match P.underlying t with
  |some (.map kt et)=>match ckK P kt,opd P t m,opd P kt k,opd P et v with
   |some c,some m,some k,some v=>some (.mpu c m k v)
   |_,_,_,_=>none
  |_=>none
 |.mapEntry t m k=>match P.underlying t with
  |some (.map kt et)=>match ckK P kt,opd P t m,opd P kt k,JFb P et with
   |some c,some m,some k,some z=>some (.men c z m k)
   |_,_,_,_=>none
  |_=>none
 |.entryStore t m s v=>match P.underlying t with
  |some (.map _ et)=>match opd P t m,opd P 0 s,opd P et v with
   |some m,some s,some v=>some (.mes m s v)
   |_,_,_=>none
  |_=>none
 |.lookup t x i ok=>match P.underlying t with
  |some (.map kt et)=>match ckK P kt,opd P t x,opd P kt i,JFb P et with
   |some c,some x,some i,some z=>some (.lkp c z x i ok)
   |_,_,_,_=>none
  |_=>none
 |.range t x=>match P.underlying t,opd P t x with
  |some .string,some x=>some (.rgs x)
  |_,_=>none
 |.next it true=>(opd P 0 it).map .nxs
 |_=>none
def JHa(P:Program)(o:Oper):Option IOp:=
 match o.op with
 |.defer _|.pick _ _ _=>none
 |_=>match JHZ P o with
  |some i=>some i
  |none=>match JMo P o with
   |some i=>some i
   |none=>some .bad
end Av
namespace Av
open Go
variable [Glb][Rls]
variable {x:Dat}{u v:Value}
section
variable {P:Program}{β:JM}{A:Nat→Prop}{w:World}{H:Heap}{τ:UX}{a:Act}
theorem Rep.JHO(h:Rep A w x u)(hx:∀cs,x≠ .agg cs):u.oneCell'=true:=by
 cases h<;>first|rfl|assumption|exact absurd rfl (hx _)
theorem JBm(h:u.oneCell'=true):u.cells=#[u]:=by
 cases u<;>first|rfl|cases h
theorem Rep.XP(h:Rep A w x u):x.cells.length=u.cells.size∧(∀v∈u.cells.toList,v.oneCell'=true)∧
  ∀(i:Nat) c v,x.cells[i]? =some c→u.cells[i]? =some v→Rep A w c v:=by
 by_cases hx:∃cs,x=.agg cs
 ·obtain⟨cs,rfl⟩:=hx;cases h with
  |agg _ arr hl h1 hv=>exact⟨hl,h1,hv⟩
 ·have hx':∀cs,x≠ .agg cs:=fun cs e=>hx ⟨cs,e⟩
  have h1:=h.JHO hx';have hc:x.cells=[x]:=by cases x<;>first|rfl|exact absurd rfl (hx' _)
  rw[JBm h1,hc];refine⟨rfl,by simpa using h1,?_⟩;intro i c v e1 e2;cases i with
  |zero=>simp at e1 e2;rw[←e1,←e2];exact h
  |succ i=>simp at e1
theorem VRep.JHO{c:Av}(h:VRep β A w H c u)(h1:∀ds,c≠ .d (.agg ds))(h2:∀cs,c≠ .agg cs)(h3:∀cs,c≠ .tup cs)(h4:c≠ .any)(h5:c≠ .und):u.oneCell'=true:=by
 cases h with
 |d x u hr=>exact hr.JHO fun cs e=>h1 cs (by rw[e])
 |agg=>exact absurd rfl (h2 _)
 |tup=>exact absurd rfl (h3 _)
 |any=>exact absurd rfl h4
 |und=>exact absurd rfl h5
 |ful sz xs u hr hn=>obtain⟨a,n,rfl⟩:=hn;rfl
 |clo=>rfl
 |ref i off b p u hu=>rw[hu];rfl
 |el i ver k off b p u hu=>rw[hu];rfl
 |_=>assumption
theorem VRep.XP{c:Av}{cs:List Av}(h:VRep β A w H c u)(hc:c.cells=some cs):cs.length=u.cells.size∧(∀v∈u.cells.toList,v.oneCell'=true)∧
  ∀(i:Nat) c v,cs[i]? =some c→u.cells[i]? =some v→VRep β A w H c v:=by
 have single:∀(_:u.oneCell'=true) (_:c.cells=some [c]),cs.length=u.cells.size∧(∀v∈u.cells.toList,v.oneCell'=true)∧
  ∀(i:Nat) c v,cs[i]? =some c→u.cells[i]? =some v→VRep β A w H c v:=by
  intro h1 h2;rw[hc]at h2;cases h2;rw[JBm h1];refine⟨rfl,by simpa using h1,?_⟩;intro i c' v e1 e2;cases i with
  |zero=>simp at e1 e2;rw[←e1,←e2];exact h
  |succ i=>simp at e1
 cases h with
 |d x u hr=>
  by_cases hx:∃ds,x=.agg ds
  ·obtain⟨ds,rfl⟩:=hx;cases hc;obtain⟨h1,h2,h3⟩:=hr.XP;refine⟨by simpa[Dat.cells]using h1,h2,?_⟩;intro i c v e1 e2;rw[Vo]at e1;cases e:ds[i]? with
   |none=>simp[e]at e1
   |some y=>simp[e]at e1;rw[←e1];exact .d _ _ (h3 i y v e e2)
  ·have hx':∀cs,x≠ .agg cs:=fun cs e=>hx ⟨cs,e⟩
   exact single (hr.JHO hx') (by cases x<;>first|rfl|exact absurd rfl (hx' _))
 |ref i off b p u hu h0 h1 h2=>exact single (by rw[hu];rfl) rfl
 |ms i ver u hu h0 h1 h2=>exact single hu rfl
 |sub i ver off len u hu h0 h1 h2=>exact single hu rfl
 |el i ver k off b p u hu h0 h1=>exact single (by rw[hu];rfl) rfl
 |mp i u hu h0 h1 h2 h3=>exact single hu rfl
 |tr i h u hu h0 hk h1=>exact single hu rfl
 |clo f fs cs a1 a2 h1 h2 hf hv=>exact single rfl rfl
 |agg cs arr hl h1 hv=>cases hc;exact⟨hl,h1,hv⟩
 |tup cs arr hl hv=>cases hc
 |any u=>cases hc
 |und=>cases hc
 |ful sz xs u hr hn=>cases hc
theorem X0:∀{cs:List Av} {ds:List Dat},YL cs=some ds→cs=ds.map .d
 |[],ds,h=>by simp[YL]at h;subst h;rfl
 |c::r,ds,h=>by
  cases c with
  |d x=>
   simp only[YL]at h;cases e:YL r with
   |none=>simp[e]at h
   |some ds'=>simp[e]at h;subst h;simp[X0 e]
  |_=>simp[YL]at h
theorem VRep.JU(h:VRep β A w H (.d x) u):Rep A w x u:=by cases h;assumption
theorem JDx{cs:List Av}{arr:Array Value}(hl:cs.length=arr.size)(h1:∀v∈arr.toList,v.oneCell'=true)
  (hv:∀(i:Nat) c v,cs[i]? =some c→arr[i]? =some v→VRep β A w H c v):VRep β A w H (JCy cs) (.agg arr):=by
 unfold JCy;cases e:YL cs with
 |none=>exact .agg cs arr hl h1 hv
 |some ds=>
  have:=X0 e;subst this;refine .d _ _ (.agg ds arr (sX hl) h1 fun i c v e1 e2=>(hv i (.d c) v ?_ e2).JU);rw[Vo,e1];rfl
theorem JHb(h:JFa x v=true):Rep A w x v:=by
 unfold JFa at h;split at h
 ·simp at h;obtain⟨⟨rfl,rfl⟩,h⟩:=h;exact .int _ _ h
 ·simp at h;subst h;exact .bool _
 ·rename_i l s;simp at h;obtain⟨rfl,h⟩:=h;have:Rep A w (.str s.data.toList) (.string ⟨s.data.toList.toArray⟩):=.str _ (sX h);simpa using this
 ·exact .nil _ _
 ·exact .nilPtr
 ·exact .nilMap
 ·exact .nilFn
 ·exact .nilIface
 ·rename_i f g a b;simp at h;obtain⟨⟨rfl,ha⟩,hb⟩:=h;exact .fn _ _ _ _ _ (by simp[ha]) (by simp[hb]) sP sP
 ·cases h
theorem JLs(h:JFa x v=true):v.oneCell'=true:=by
 unfold JFa at h;split at h<;>first|rfl|cases h
theorem JAZ:∀{xs:List Dat} {vs:List Value},JBE xs vs=true→xs.length=vs.length∧(∀v∈vs,v.oneCell'=true)∧
  ∀(i:Nat) c v,xs[i]? =some c→vs[i]? =some v→Rep A w c v
 |[],[],_=>⟨rfl,sP,sP⟩
 |x::xs,v::vs,h=>by
  simp only[JBE,Vi]at h;obtain⟨h1,h2,h3⟩:=JAZ h.2;refine⟨by simp[h1],?_,?_⟩
  ·intro u hu;rcases VA.1 hu with rfl|hu
   ·exact JLs h.1
   ·exact h2 _ hu
  ·intro i c u e1 e2;cases i with
   |zero=>simp at e1 e2;rw[←e1,←e2];exact JHb h.1
   |succ i=>exact h3 i c u (sX e1) (sX e2)
 |[],_::_,h=>by simp[JBE]at h
 |_::_,[],h=>by simp[JBE]at h
theorem JCT{t:TypeId}(h:JCS P t v=some x):Rep A w x v∧v.oneCell'=true:=by
 unfold JCS at h;split at h
 ·cases h;exact⟨.bool _,rfl⟩
 ·split at h
  ·cases h;rename_i hk;exact⟨.int _ _ hk,rfl⟩
  ·cases h
 ·rename_i s;split at h
  ·rename_i hl;cases h;have:Rep A w (.str s.data.toList) (.string ⟨s.data.toList.toArray⟩):=.str _ hl;exact⟨by simpa using this,rfl⟩
  ·cases h
 ·split at h
  ·cases e:szT P (by assumption)with
   |none=>simp[e]at h
   |some n=>simp[e]at h;subst h;exact⟨.nil _ _,rfl⟩
  ·cases h
 ·cases h;exact⟨.nilPtr,rfl⟩
 ·cases h;exact⟨.nilMap,rfl⟩
 ·cases h;exact⟨.nilFn,rfl⟩
 ·cases h;exact⟨.nilIface,rfl⟩
 ·split at h
  ·rename_i hab;cases h;exact⟨.fn _ _ _ _ _ (by simp[hab.1]) (by simp[hab.2]) sP sP,rfl⟩
  ·cases h
 ·cases h
theorem JBF{α:Type}:∀{l:List (Option α)} {r:List α},Ji l=some r→l=r.map some
 |[],r,h=>by simp[Ji]at h;subst h;rfl
 |some x::l,r,h=>by
  simp only[Ji]at h;cases e:Ji l with
  |none=>simp[e]at h
  |some r'=>simp[e]at h;subst h;simp[JBF e]
 |none::l,r,h=>by simp[Ji]at h
theorem JLt{t:TypeId}(h:JGW P t v=some x):Rep A w x v:=by
 unfold JGW at h;split at h
 ·rename_i cs;split at h
  ·rename_i ts _;split at h
   ·rename_i hl;cases e:Ji ((ts.zip cs.toList).map fun(t,v)=>JCS P t v)with
    |none=>simp[e]at h
    |some ds=>
     simp[e]at h;subst h;have h2:=JBF e;have hlen:ds.length=cs.size:=by
      have:=congrArg List.length h2;simp at this;omega
     have hat:∀(i:Nat) c v,ds[i]? =some c→cs[i]? =some v→∃t,JCS P t v=some c:=by
      intro i c v e1 e2;have:=congrArg (fun l=>l[i]?) h2;simp only[Vo,e1,Vj]at this;have hts:i<ts.length:=by
       have:=(VB.1 e1).1;omega
      have hz:(ts.zip cs.toList)[i]? =some (ts[i],v):=by
       rw[List.getElem?_zip_eq_some];exact⟨by simp[hts],by simpa using e2⟩
      rw[hz]at this;exact⟨ts[i],by simpa using this⟩
     refine .agg ds cs hlen ?_ ?_
     ·intro v hv;obtain⟨i,hi,rfl⟩:=List.getElem_of_mem hv;have hi':i<cs.size:=sX hi;obtain⟨t,ht⟩:=hat i (ds[i]'oM) cs[i] sP sP;have:=(JCT (A:=A) (w:=w) ht).2;simpa using this
     ·intro i c v e1 e2;obtain⟨t,ht⟩:=hat i c v e1 e2;exact(JCT ht).1
   ·cases h
  ·cases h
 ·exact(JCT h).1
theorem JD{t:TypeId}{x:Operand}{y:Opd}{v:Av}(h:opd P t x=some y)(hv:val τ y=some v)(ht:UD β A w H τ a):VRep β A w H v (a.eval x):=by
 cases x with
 |tmp n=>
  cases h;obtain⟨u,h1,h2⟩:=ht n v hv;simpa[Act.eval,Array.getD_eq_getD_getElem?,h1]using h2
 |const c=>
  simp only[opd]at h;cases e:JGW P t c with
  |none=>simp[e]at h
  |some d=>simp[e]at h;subst h;cases hv;exact .d _ _ (JLt e)
 |global g=>
  cases h;cases hv;exact .d _ _ (.glo g)
 |func f=>
  cases h;cases hv;exact .d _ _ (.fn _ _ _ _ _ rfl rfl sP sP)
end
end Av
namespace Av
open Go
variable [Glb][Rls]
variable {i s sz':Nat}{h:Hd}{u:Value}{c:Prop}{ys:List Dat}{F:List Nat}
section
variable {β:JM}{A:Nat→Prop}{w:World}{H:Heap}
theorem JGX(hc:Core β A w H)(hv:VRep β A w H (.tr i h) u)(hr:Xr H i h=some (c,s,sz',ys))(hC:c):
  ∃v sz xs u0 u1 F1,H i=some (.tre v s sz xs)∧h.ver=v∧(h.p=[]∨h.sv=s)∧nodeAt (.own sz xs) h.p=some (.own sz' ys)∧Xe β w i sz xs.length u0∧TAt w (.own sz xs) u0 h.p u1∧Own A w (β i).all (.own sz xs) u0∧Own A w F1 (.own sz' ys) u1∧
   match h.k with
   |none=>u=u1
   |some (k,off)=>∃b n cap,u1=.slice (some ⟨b,0,none⟩) n cap∧k<ys.length∧u=.pointer (some ⟨b,k*sz'+off,none⟩):=by
 unfold Xr at hr;split at hr
 ·rename_i v s0 sz xs hi;split at hr
  ·rename_i sz2 ys2 hn;simp only[Vd,Ve]at hr;obtain⟨rfl,rfl,rfl,rfl⟩:=hr;cases hv with
   |tr _ _ _ hu h0 hk h1=>
    obtain⟨l1,l2,l3⟩:=h1 _ _ _ _ hi;obtain⟨u0,u1,r1,r2,r3⟩:=l3 hC.1 hC.2;obtain⟨u2,o1,o2,o3,o4⟩:=hc.objs _ _ hi;have o5:=r1.own o1 o3 o4;obtain⟨u1',F1,q1,q2,_,_⟩:=o5.node hn;have:=JGS r2 q1;subst this;refine⟨v,sz,xs,u0,u1,F1,hi,hC.1,hC.2,hn,r1,r2,o5,q2,?_⟩;cases ek:h.k with
    |none=>rw[ek]at r3;exact r3
    |some ko=>
     obtain⟨k,off⟩:=ko;rw[ek]at r3;obtain⟨b,n,cap,sz3,ys3,e1,e2,e3,e4⟩:=r3;rw[hn]at e2;cases e2;exact⟨b,n,cap,e1,e3,e4⟩
  ·cases hr
 ·cases hr
theorem Own.rep{y:Dat}(h:Own A w F y u)(hy:¬∃s zs,y=.own s zs):Rep A w y u:=by
 cases h with
 |dat _ _ h=>exact h
 |nil s2 _ _=>exact absurd ⟨_,_,rfl⟩ hy
 |row s2 zs=>exact absurd ⟨_,_,rfl⟩ hy
theorem Ya{sz:Nat}(h:Own A w F (.own sz ys) u)(hn:0<ys.length):∃(b:Nat) (C:Array Value) (T:TypeId) (cap:Nat) (Fs:List (List Nat)),u=.slice (some ⟨b,0,none⟩) ys.length cap∧F=b::Fs.flatten∧w.heap[b]? =some (.cells C T (0,0))∧C.size=cap*sz∧ys.length≤cap∧
  (∀x∈ys,x.cells.length=sz)∧Fs.length=(flat ys).length∧(∀(j:Nat) v,j<(flat ys).length→C[j]? =some v→v.oneCell'=true)∧∀(j:Nat) c v F,(flat ys)[j]? =some c→C[j]? =some v→Fs[j]? =some F→Own A w F c v:=by
 generalize hx:Dat.own sz ys=x at h;cases h with
 |dat _ _ h=>subst hx;cases h
 |nil _ _ _=>cases hx;simp at hn
 |row _ _ b C T cap n Fs hh hC hn0 hl hc hs hsz hF h1 hv=>
  cases hx;exact⟨b,C,T,cap,Fs,by rw[hn0],rfl,hh,hC,hl,hsz,hF,h1,hv⟩
theorem JKU(hc:Core β A w H)(hv:VRep β A w H (.tr i h) u){k off:Nat}(hr:Xr H i h=some (c,s,sz',ys))(hC:c)(hk:h.k=some (k,off)):
  ∃b,u=.pointer (some ⟨b,k*sz'+off,none⟩)∧k<ys.length∧∀j y,(nth ys k).cells[j]? =some y→∃v,w.cell? ⟨b,k*sz'+j,none⟩=some v∧v.oneCell'=true∧VRep β A w H (JBD i h.ver s h.p k j y) v:=by
 obtain⟨v0,sz,xs,u0,u1,F1,hi,e1,e2,hn,r1,r2,o1,o2,r3⟩:=JGX hc hv hr hC;rw[hk]at r3;obtain⟨b,n,cap,rfl,hlt,rfl⟩:=r3;refine⟨b,rfl,hlt,?_⟩;intro j y hj;obtain⟨b',C,T,cap',Fs,g1,g2,g3,g4,g5,g6,g7,g8,g9⟩:=Ya o2 oM;cases g1;have hnk:nth ys k=ys[k]:=by simp[nth,hlt]
 have hsz:=g6 ys[k] (Vk hlt);have hjs:j<sz':=by have:=(VB.1 hj).1;rw[hnk]at this;omega
 have hca:cellAt ys k j=some y:=by unfold cellAt;rw[Vl hlt];simpa[hnk]using hj
 have hf:(flat ys)[k*sz'+j]? =some y:=(XQ g6 hjs).trans hca;have hjl:=(VB.1 hf).1;have hCs:(flat ys).length≤C.size:=by rw[UB g6,g4];exact Nat.mul_le_mul_right _ g5
 have hCj:C[k*sz'+j]? =some C[k*sz'+j]:=Array.getElem?_eq_getElem oM;have hcell:w.cell? ⟨b,k*sz'+j,none⟩=some C[k*sz'+j]:=by
  simp only[World.cell?,g3];simp
 have hone:=g8 _ _ hjl hCj;have ho:=g9 _ _ _ _ hf hCj (Vl oM);refine⟨_,hcell,hone,?_⟩;by_cases hy:∃s2 zs,y=.own s2 zs
 ·obtain⟨s2,zs,rfl⟩:=hy;refine .tr _ _ _ hone (by rw[hi];rfl) (fun h=>by cases h) ?_;intro v' s' szz xss hh;rw[hi]at hh;cases hh;refine⟨by rw[e1];exact Nat.le_refl _,Nat.le_refl _,fun _ _=>⟨u0,_,r1,JMl r2 hn hca hcell ⟨_,_,rfl⟩,rfl⟩⟩
 ·have hd:Rep A w y C[k*sz'+j]:=ho.rep hy;have:JBD i h.ver s h.p k j y=.d y:=by cases y<;>first|rfl|exact absurd ⟨_,_,rfl⟩ hy
  rw[this];exact .d _ _ hd
theorem JCz(i ver s:Nat)(p:List (Nat×Nat))(k:Nat):∀(l:List Dat) (off j:Nat),(YR i ver s p k off l)[j]? =(l[j]?).map (JBD i ver s p k (off+j))
 |[],off,j=>by simp[YR]
 |y::r,off,0=>by simp[YR]
 |y::r,off,j+1=>by
  simp only[YR,List.getElem?_cons_succ];rw[JCz i ver s p k r (off+1) j];congr 2;omega
theorem JC0(i ver s:Nat)(p:List (Nat×Nat))(k:Nat):∀(l:List Dat) (off:Nat),(YR i ver s p k off l).length=l.length
 |[],off=>rfl
 |y::r,off=>by simp[YR,JC0 i ver s p k r]
theorem JAa{sz:Nat}(h:Own A w F (.own sz ys) u):∃a cap,u=.slice a ys.length cap∧ys.length≤68719476736∧∀x∈ys,x.cells.length=sz:=by
 generalize hx:Dat.own sz ys=x at h;cases h with
 |dat _ _ h=>subst hx;cases h
 |nil _ a _=>cases hx;exact⟨a,0,rfl,sP,sP⟩
 |row _ _ b C T cap n Fs hh hC hn0 hl hc hs hsz hF h1 hv=>
  cases hx;exact⟨_,cap,by rw[hn0],hc,hsz⟩
theorem JMp(hc:Core β A w H)(hv:VRep β A w H (.tr i h) u)(hr:Xr H i h=some (c,s,sz',ys))(hC:c)(hk:h.k=none):
  ∃a cap,u=.slice a ys.length cap∧ys.length≤68719476736:=by
 obtain⟨_,_,_,_,u1,F1,hi,_,_,hn,_,_,_,o2,r3⟩:=JGX hc hv hr hC;rw[hk]at r3;subst r3;obtain⟨a,cap,e,hl,_⟩:=JAa o2;exact⟨a,cap,e,hl⟩
end
end Av
namespace Av
open Go
variable [Glb][Rls]
variable {u v:Value}{x y:Operand}{op:BinOp}{k:IntKind}{m n:Int}{b:Bk}{C:Prop}{d:Dat}
theorem Z8{α β:Type}{f:α→Option β}:∀{l:List α} {r:List β},Ji (l.map f)=some r→l.length=r.length∧∀(i:Nat) x,l[i]? =some x→∃y,r[i]? =some y∧f x=some y
 |[],r,h=>by simp[Ji]at h;subst h;exact⟨rfl,sP⟩
 |x::l,r,h=>by
  have h2:=JBF h;cases r with
  |nil=>simp at h2
  |cons y r=>
   simp only[Va,List.cons.injEq]at h2;refine⟨by have:=congrArg List.length h2.2;simpa using this,?_⟩;intro i z hz;cases i with
   |zero=>simp at hz;subst hz;exact⟨y,rfl,h2.1⟩
   |succ i=>
    have e:=congrArg (fun l=>l[i]?) h2.2;simp only[Vo]at e;simp at hz;rw[hz]at e;cases hr:r[i]? with
    |none=>simp[hr]at e
    |some y'=>simp[hr]at e;exact⟨y',by simpa using hr,e⟩
def JY(P:Program)(ρ:Operand→Value)(o:Oper)(w:World)(β:JM)(A:Nat→Prop)(H:Heap)(v:Av)(ups:List (Nat×Obj)):Prop:=
 ∃u β' A' w',((execOp ρ o).run P w=.ok (.value u) w'∨((execOp ρ o).run P w=.ok .skip w'∧u=undef))∧
  Stp β A w H β' A' w' (JA H ups)∧VRep β' A' w' (JA H ups) v u
section
variable {P:Program}{β:JM}{A:Nat→Prop}{w:World}{H:Heap}{τ:UX}{a:Act}{o:Oper}
theorem JY.pure{ρ:Operand→Value}{v:Av}(hc:Core β A w H)(hr:(execOp ρ o).run P w=.ok (.value u) w)(hv:VRep β A w H v u):JY P ρ o w β A H v []:=
 ⟨u,β,A,w,.inl hr,Stp.refl hc,hv⟩
theorem JFc{y:Opd}{r:Res}(hc:Core β A w H)(ht:UD β A w H τ a)(ho:o.op=.move x∨o.op=.assign x)(hx:opd P o.type x=some y)
  (hs:step τ H (o.dst.getD 0) (.mov y)=some r):JY P a.eval o w β A H r.v r.ups:=by
 simp only[step]at hs;cases e:val τ y with
 |none=>simp[e]at hs
 |some v=>
  simp[e]at hs;subst hs;exact JY.pure hc (by rcases ho with ho|ho<;>simp[execOp,ho]) (JD hx e ht)
theorem Yb{t:TypeId}{b:Bool}(h:agT P t=some b)(w:World):(isAgg t).run P w=.ok b w:=by
 unfold agT at h;unfold isAgg;cases e:P.underlying t with
 |none=>simp[e]at h
 |some d=>
  rw[Sem.run_bind,run_underlying e];cases d<;>simp_all
theorem UI{t:TypeId}{n:Nat}(h:szT P t=some n)(w:World):(Go.sizeOf t).run P w=.ok n w:=by
 unfold szT at h;cases e:P.info? t with
 |none=>simp[e]at h
 |some i=>simp[e]at h;simp[Go.sizeOf,typeInfo,e,h]
theorem Ux{t:TypeId}{i:TypeInfo}{z:Value}(h:P.info? t=some i)(hz:i.zero=some z)(w:World):(zeroValue t).run P w=.ok z w:=by
 simp[zeroValue,typeInfo,h,hz]
theorem JGY{t:TypeId}{zs:List Dat}(h:zsT P t=some zs):∃i z,P.info? t=some i∧i.zero=some z∧zs.length=i.size∧zs.length=z.cells.size∧(∀v∈z.cells.toList,v.oneCell'=true)∧
  ∀(A:Nat→Prop) (w:World) (j:Nat) c v,zs[j]? =some c→z.cells[j]? =some v→Rep A w c v:=by
 unfold zsT at h;cases e1:P.info? t with
 |none=>simp[e1]at h
 |some i=>
  simp only[e1]at h;cases e2:i.zero with
  |none=>simp[e2]at h
  |some z=>
   cases e3:JDw P 12 t with
   |none=>simp[e2,e3]at h
   |some ts=>
    simp only[e2,e3]at h;cases e4:Ji (ts.map (zeroCell P))with
    |none=>simp[e4]at h
    |some ds=>
     simp only[e4]at h;split at h
     ·rename_i hb;cases h;simp only[Vi,beq_iff_eq]at hb;obtain⟨h1,h2,_⟩:=JAZ (A:=fun _=>True) (w:=default) hb.1;refine⟨i,z,rfl,e2,hb.2,by simpa using h1,h2,fun A w j c v hc hv=>(JAZ hb.1).2.2 j c v hc (sX hv)⟩
     ·cases h
theorem JAb(k:IntKind)(n:Int):k.min≤k.wrap n∧k.wrap n≤k.max:=by
 cases k<;>simp[IntKind.wrap,IntKind.min,IntKind.max,IntKind.signed,IntKind.bits]<;>(try split)<;>omega
theorem JBn(x y:Int)(hx:0≤x):x.tmod y≤x:=by
 obtain⟨n,rfl⟩:=Int.eq_ofNat_of_zero_le hx;cases y with
 |ofNat m=>exact Int.ofNat_le.2 (Nat.mod_le _ _)
 |negSucc m=>exact Int.ofNat_le.2 (Nat.mod_le _ _)
theorem JSS(k:IntKind)(x y:Int)(h:k.min≤x∧x≤k.max):k.min≤x.tmod y∧x.tmod y≤k.max:=by
 have h0:k.min≤0∧0≤k.max:=by cases k<;>decide
 rcases Int.le_total 0 x with hx|hx
 ·have h1:=Int.tmod_nonneg y hx;have h2:=JBn x y hx;omega
 ·have e:x.tmod y= -((-x).tmod y):=by rw[Int.neg_tmod];omega
  have h1:=Int.tmod_nonneg y (a:= -x) oM;have h2:=JBn (-x) y oM;omega
theorem XB{t:TypeId}(h1:∀p,u≠ .agg p)(h2:u=.nilIface→v≠ .nilIface∨∃c,y=.const c)(w:World):
  (eqGuard op t x y u v).run P w=.ok () w:=by
 cases op<;>first
  |rfl
  |(cases u<;>first
    |rfl
    |exact absurd rfl (h1 _)
    |(cases v<;>first
      |rfl
      |(rcases h2 rfl with h|⟨c,rfl⟩
        ·exact absurd rfl h
        ·cases x<;>rfl)))
theorem JJR(h:n≠0)(w:World):(Op.intDiv .quo k m n).run P w=.ok (.int k (k.wrap (m.tdiv n))) w:=by
 unfold Op.intDiv;rw[if_neg h];rfl
theorem JJS(h:n≠0)(w:World):(Op.intDiv .rem k m n).run P w=.ok (.int k (m.tmod n)) w:=by
 unfold Op.intDiv;rw[if_neg h];rfl
theorem JST{t:TypeId}(hb:Zw P op t y=some b)(h:ZY k b m n=some (C,d))(hC:C)
  (hm:k.min≤m∧m≤k.max)(w:World):
  ∃u,(binOp op t (.int k m) (.int k n)).run P w=.ok u w∧Rep A w d u:=by
 unfold Zw at hb;split at hb
 ·split at hb<;>cases hb<;>simp only[ZY,Vd,Ve]at h<;>obtain⟨rfl,rfl⟩:=h<;>
   first
   |(refine⟨_,?_,.bool _⟩;simp[binOp,Op.intCmp];done)
   |(refine⟨_,?_,.int _ _ (JAb _ _)⟩;simp[binOp,Op.intArith];done)
   |(refine⟨_,?_,.int _ _ (JAb _ _)⟩;simpa[binOp]using JJR hC w)
   |(refine⟨_,?_,.int _ _ (JSS _ _ _ hm)⟩;simpa[binOp]using JJS hC w)
 ·split at hb<;>cases hb<;>simp[ZY]at h
 ·split at hb<;>cases hb<;>simp[ZY]at h
 ·split at hb<;>cases hb<;>simp[ZY]at h
 ·split at hb
  ·split at hb
   ·split at hb<;>cases hb<;>simp[ZY]at h
   ·cases hb
  ·cases hb
 ·cases hb
theorem JSU{t:TypeId}{m n:List UInt8}(hb:Zw P op t y=some b)(h:ZZ b m n=some (C,d))(hC:C)(w:World):
  ∃u,(binOp op t (.string ⟨m.toArray⟩) (.string ⟨n.toArray⟩)).run P w=.ok u w∧Rep A w d u:=by
 unfold Zw at hb;split at hb
 ·split at hb<;>cases hb<;>simp[ZZ]at h
 ·split at hb<;>cases hb<;>simp only[ZZ,Vd,Ve]at h<;>obtain⟨rfl,rfl⟩:=h<;>
   first
   |(refine⟨_,?_,.bool _⟩;simp[binOp,Op.stringOp,strLt,ByteArray.toList_mk];done)
   |(have e:(⟨(m++n).toArray⟩:ByteArray)=⟨m.toArray⟩++⟨n.toArray⟩:=by
      apply ByteArray.ext;simp
     refine⟨.string (⟨m.toArray⟩++⟨n.toArray⟩),?_,e▸ .str _ hC⟩;have hz:¬((((⟨m.toArray⟩:ByteArray).size+(⟨n.toArray⟩:ByteArray).size:Nat):Int)>IntKind.i64.max):=by
      simp only[ByteArray.size,List.size_toArray,IntKind.max,IntKind.signed,IntKind.bits];rw[Vg]at hC;simp;omega
     simp only[binOp,Op.stringOp];rw[if_neg hz]
     rfl)
 ·split at hb<;>cases hb<;>simp[ZZ]at h
 ·split at hb<;>cases hb<;>simp[ZZ]at h
 ·split at hb
  ·split at hb
   ·split at hb<;>cases hb<;>simp[ZZ]at h
   ·cases hb
  ·cases hb
 ·cases hb
theorem JJT{c:Ck}{x y:Dat}{r:Bool}{t:TypeId}(hk:ckT P t=some c)(h:UQ c x y=some r)(hx:Rep A w x u)(hy:Rep A w y v)(d:Nat)(w':World):
  (Op.equalIn (d+1) t u v).run P w'=.ok r w':=by
 unfold UQ at h;split at h
 ·split at h
  ·rename_i e;subst e;cases h;cases hx;cases hy;unfold ckT at hk;split at hk<;>cases hk
   exact run_equalIn_int w' d t _ _ _ _ (by assumption)
  ·cases h
 ·cases h;cases hx;cases hy;unfold ckT at hk;split at hk<;>cases hk
  exact run_equalIn_bool' w' d t _ _ (by assumption)
 ·cases h;cases hx;cases hy;unfold ckT at hk;split at hk<;>cases hk
  rw[run_equalIn_string w' d t _ _ (by assumption)];simp[ByteArray.toList_mk]
 ·unfold ckT at hk;split at hk<;>cases hk
 ·cases h
theorem JDy{t:TypeId}{c:Ck}(h:ckT P t=some c):agT P t=some false:=by
 unfold ckT at h;unfold agT;split at h<;>simp_all
theorem Za(d:Nat)(xs ys:Array Value)(w':World):∀(fs:List Field) (k:Nat) (ks:List Ck) (a c:List Dat) (r:Bool),Jq P k fs=some ks→Ut ks a c=some r→
  (∀(i:Nat) x,a[i]? =some x→∃u,xs[k+i]? =some u∧Rep A w x u)→(∀(i:Nat) x,c[i]? =some x→∃u,ys[k+i]? =some u∧Rep A w x u)→
  (Op.eqFields (d+1) xs ys fs).run P w'=.ok r w'
 |[],k,ks,a,c,r,hf,hc,hx,hy=>by
  simp only[Jq,Vd]at hf;subst hf;cases a<;>cases c<;>simp[Ut]at hc
  subst hc;simp[Op.eqFields]
 |f::fs,k,ks,a,c,r,hf,hc,hx,hy=>by
  simp only[Jq]at hf;split at hf
  ·rename_i hn;obtain⟨hn,ho⟩:=hn;cases e1:ckT P f.type with
   |none=>simp[e1]at hf
   |some kk=>
    cases e2:Jq P (k+1) fs with
    |none=>simp[e1,e2]at hf
    |some ks'=>
     simp only[e1,e2,Vd]at hf;subst hf;cases a with
     |nil=>simp[Ut]at hc
     |cons x a=>
      cases c with
      |nil=>simp[Ut]at hc
      |cons y c=>
       simp only[Ut]at hc;cases e3:UQ kk x y with
       |none=>simp[e3]at hc
       |some p=>
        cases e4:Ut ks' a c with
        |none=>simp[e3,e4]at hc
        |some q=>
         simp only[e3,e4,Vd]at hc;subst hc;obtain⟨u,hu,hru⟩:=hx 0 x rfl;obtain⟨v,hv,hrv⟩:=hy 0 y rfl;simp only[Nat.add_zero]at hu hv;have ih:=Za d xs ys w' fs (k+1) ks' a c q e2 e4
          (fun i z hz=>by have:=hx (i+1) z (sX hz);rwa[show k+(i+1)=k+1+i by omega]at this)
          (fun i z hz=>by have:=hy (i+1) z (sX hz);rwa[show k+(i+1)=k+1+i by omega]at this)
         have hp:∀(zs:Array Value) z,zs[k]? =some z→(part f.type zs f.offset).run P w'=.ok z w':=by
          intro zs z hz;simp[part,Sem.run_bind,Yb (JDy e1),ho,hz]
         simp only[Op.eqFields,ne_eq,hn,not_false_eq_true,if_true,Sem.run_bind,hp xs u hu,hp ys v hv,Result.andThen_ok,JJT e1 e3 hru hrv d w'];cases p
         ·simp
         ·simp[ih]
  ·cases hf
theorem JJU{t:TypeId}{m n:List Dat}{xs ys:Array Value}(hb:Zw P op t y=some b)(h:UR b (.d (.agg m)) (.d (.agg n))=some (C,d))
  (hx:Rep A w (.agg m) (.agg xs))(hy:Rep A w (.agg n) (.agg ys))(x:Operand):
  (eqGuard op t x y (.agg xs) (.agg ys)).run P w=.ok () w∧∃u,(binOp op t (.agg xs) (.agg ys)).run P w=.ok u w∧Rep A w d u:=by
 unfold Zw at hb;split at hb
 ·split at hb<;>cases hb<;>simp[UR]at h
 ·split at hb<;>cases hb<;>simp[UR]at h
 ·split at hb<;>cases hb<;>simp[UR]at h
 ·split at hb<;>cases hb<;>simp[UR]at h
 ·rename_i fs hfs;cases e:Jq P 0 fs.toList with
  |none=>simp[e]at hb
  |some ks=>
   simp only[e]at hb;split at hb
   ·rename_i hg;have hel:∀{zs:List Dat} {arr:Array Value},Rep A w (.agg zs) (.agg arr)→∀(i:Nat) z,zs[i]? =some z→∃u,arr[0+i]? =some u∧Rep A w z u:=by
     intro zs arr hr i z hz;cases hr with
     |agg _ _ hl h1 hv=>
      have hi:=(VB.1 hz).1;refine⟨arr[i]'oM,by simp[show i<arr.size by omega],hv i z _ hz (by simp[show i<arr.size by omega])⟩
    have hfo:P.fieldsOf t=fs:=by unfold Program.fieldsOf;rw[hfs]
    have main:∀r,Ut ks m n=some r→(Op.equalIn 10000 t (.agg xs) (.agg ys)).run P w=.ok r w:=by
     intro r hr;rw[run_equalIn_struct w 9999 t xs ys (by rw[hfo,hfs]) hg.1,hfo];exact Za 9998 xs ys w fs.toList 0 ks m n r e hr (hel hx) (hel hy)
    refine⟨run_eqGuard_agg w op t x y xs ys hg.2,?_⟩;split at hb<;>cases hb
    ·simp only[UR]at h;cases e2:Ut ks m n with
     |none=>simp[e2]at h
     |some r=>
      simp only[e2,Vd,Ve]at h;rw[run_eql_struct,main r e2];exact⟨_,rfl,h.2▸ .bool _⟩
    ·simp only[UR]at h;cases e2:Ut ks m n with
     |none=>simp[e2]at h
     |some r=>
      simp only[e2,Vd,Ve]at h;rw[run_neq_struct,main r e2];exact⟨_,rfl,h.2▸ .bool _⟩
   ·cases hb
 ·cases hb
theorem JMq{v:Av}(h:isNil v=some false)(hv:VRep β A w H v u):(∃t x,u=.iface t x)∨(∃a,u=.pointer (some a))∨∃f x y,u=.func (.func f) x y:=by
 unfold isNil at h;split at h
 ·cases h
 ·cases h
 ·cases h
 ·cases h
 ·cases h;cases hv.JU;simp
 ·cases h;cases hv.JU;simp
 ·cases h;cases hv.JU;simp
 ·cases h;cases hv.JU;simp
 ·cases h;cases hv;simp
 ·cases h;cases hv with|ref _ _ b p _ hu=>rw[hu];simp
 ·cases h;cases hv with|el _ _ _ _ b p _ hu=>rw[hu];simp
 ·split at h
  ·rename_i hk;cases h;cases hv with
   |tr _ _ _ hu h0 hk' _=>
    obtain⟨b,o,e⟩:=hk' hk;exact .inr (.inl ⟨_,e⟩)
  ·cases h
 ·cases h
theorem JGZ(d:Nat){t:TypeId}{ms:Array (String×TypeId)}(h:P.underlying t=some (.interface ms))(w':World):
  (Op.equalIn (d+1) t .nilIface .nilIface).run P w'=.ok true w':=by
 simp[Op.equalIn,run_underlying h]
theorem JFK(d:Nat){t t':TypeId}{x:Value}{ms:Array (String×TypeId)}(h:P.underlying t=some (.interface ms))(w':World):
  (Op.equalIn (d+1) t (.iface t' x) .nilIface).run P w'=.ok false w':=by
 simp[Op.equalIn,run_underlying h]
theorem JSV{t:TypeId}{m:Av}(hb:Zw P op t y=some b)(h:UR b m (.d .nilIface)=some (C,d))
  (hx:VRep β A w H m u)(hy:Rep A w .nilIface v):
  (eqGuard op t x y u v).run P w=.ok () w∧∃z,(binOp op t u v).run P w=.ok z w∧Rep A w d z:=by
 cases hy;have hr:∃r,JGT m=some r∧((b=.nileq∧d=.bool r)∨(b=.nilne∧d=.bool (!r))):=by
  unfold UR at h;split at h<;>try (simp at*;done)
  split at h
  ·rename_i r hr;cases h;exact⟨r,hr,.inl ⟨rfl,rfl⟩⟩
  ·rename_i r hr;cases h;exact⟨r,hr,.inr ⟨rfl,rfl⟩⟩
  ·cases h
 obtain⟨r,hr,hbd⟩:=hr;have hty:∃ms,P.underlying t=some (.interface ms)∧y=.const .nilIface∧((op=.eql∧b=.nileq)∨(op=.neq∧b=.nilne)):=by
  unfold Zw at hb;split at hb
  ·split at hb<;>cases hb<;>rcases hbd with⟨h,_⟩|⟨h,_⟩<;>cases h
  ·split at hb<;>cases hb<;>rcases hbd with⟨h,_⟩|⟨h,_⟩<;>cases h
  ·split at hb<;>cases hb<;>rcases hbd with⟨h,_⟩|⟨h,_⟩<;>cases h
  ·rename_i ms hms;split at hb
   ·cases hb;exact⟨ms,hms,rfl,.inl ⟨rfl,rfl⟩⟩
   ·cases hb;exact⟨ms,hms,rfl,.inr ⟨rfl,rfl⟩⟩
   ·cases hb
  ·split at hb
   ·split at hb
    ·split at hb<;>cases hb<;>rcases hbd with⟨h,_⟩|⟨h,_⟩<;>cases h
    ·cases hb
   ·cases hb
  ·cases hb
 obtain⟨ms,hms,rfl,hop⟩:=hty;have hu:(r=true∧u=.nilIface)∨(r=false∧∃t x,u=.iface t x):=by
  unfold JGT at hr;split at hr
  ·cases hr;cases hx.JU;exact .inl ⟨rfl,rfl⟩
  ·cases hr;cases hx.JU;exact .inr ⟨rfl,_,_,rfl⟩
  ·cases hr
 have heq:(Op.equal t u .nilIface).run P w=.ok r w:=by
  rcases hu with⟨rfl,rfl⟩|⟨rfl,t',x',rfl⟩
  ·exact JGZ 9999 hms w
  ·exact JFK 9999 hms w
 refine⟨XB (by rcases hu with⟨_,rfl⟩|⟨_,_,_,rfl⟩<;>simp) (fun _=>.inr ⟨_,rfl⟩) w,?_⟩;rcases hop with⟨rfl,rfl⟩|⟨rfl,rfl⟩
 ·rcases hbd with⟨_,rfl⟩|⟨h,_⟩
  ·refine⟨.bool r,?_,.bool _⟩;rcases hu with⟨rfl,rfl⟩|⟨rfl,t',x',rfl⟩<;>simp[binOp,heq]
  ·cases h
 ·rcases hbd with⟨h,_⟩|⟨_,rfl⟩
  ·cases h
  ·refine⟨.bool (!r),?_,.bool _⟩;rcases hu with⟨rfl,rfl⟩|⟨rfl,t',x',rfl⟩<;>simp[binOp,heq]
theorem JMr{t:TypeId}{m n:Bool}(hb:Zw P op t y=some b)(h:UR b (.d (.bool m)) (.d (.bool n))=some (C,d))(w:World):
  ∃u,(binOp op t (.bool m) (.bool n)).run P w=.ok u w∧Rep A w d u:=by
 unfold Zw at hb;split at hb
 ·split at hb<;>cases hb<;>simp[UR]at h
 ·split at hb<;>cases hb<;>simp[UR]at h
 ·rename_i hty;split at hb<;>cases hb<;>simp only[UR,Vd,Ve]at h<;>obtain⟨_,rfl⟩:=h
  ·exact⟨.bool (m==n),by simp[binOp,Op.equal,Op.maxDepth,run_equalIn_bool' w 9999 t m n hty],.bool _⟩
  ·exact⟨.bool (!(m==n)),by simp[binOp,Op.equal,Op.maxDepth,run_equalIn_bool' w 9999 t m n hty],.bool _⟩
 ·split at hb<;>cases hb<;>simp[UR]at h
 ·split at hb
  ·split at hb
   ·split at hb<;>cases hb<;>simp[UR]at h
   ·cases hb
  ·cases hb
 ·cases hb
theorem JMs{t t':TypeId}{x' y':Opd}{r:Res}(hc:Core β A w H)(ht:UD β A w H τ a)(ho:o.op=.binOp op t x y t')(hb:Zw P op t y=some b)
  (hx:opd P t x=some x')(hy:opd P t y=some y')(hs:step τ H (o.dst.getD 0) (.bin b x' y')=some r)(hC:r.c):JY P a.eval o w β A H r.v r.ups:=by
 simp only[step]at hs;cases ex:val τ x' with
 |none=>simp[ex]at hs
 |some m=>
  cases ey:val τ y' with
  |none=>simp[ex,ey]at hs
  |some n=>
   simp only[ex,ey]at hs;cases e:UR b m n with
   |none=>simp[e]at hs
   |some p=>
    obtain⟨C,d⟩:=p;simp only[e,Vd]at hs;subst hs;have vx:=JD hx ex ht;have vy:=JD hy ey ht;have fin:((eqGuard op t x y (a.eval x) (a.eval y)).run P w=.ok () w∧∃z,(binOp op t (a.eval x) (a.eval y)).run P w=.ok z w∧Rep A w d z)→
      JY P a.eval o w β A H (.d d) []:=fun⟨hg,z,hr,hz⟩=>JY.pure hc (by simp[execOp,ho,Sem.run_bind,hg,hr]) (.d _ _ hz)
    apply fin;generalize a.eval x=u at*;generalize a.eval y=v at*;unfold UR at e;split at e
    ·split at e
     ·rename_i hk;subst hk;have hm:=vx.JU;have hn:=vy.JU;cases hm with
      |int _ _ hm=>
       cases hn;exact⟨XB sP sP w,JST hb e hC hm w⟩
     ·cases e
    ·have hm:=vx.JU;have hn:=vy.JU;cases hm;cases hn;exact⟨XB sP sP w,JSU hb e hC w⟩
    ·rename_i p q;have hm:=vx.JU;have hn:=vy.JU;have:UR b (.d (.bool p)) (.d (.bool q))=some (C,d):=e;cases hm;cases hn;exact⟨XB sP sP w,JMr hb this w⟩
    ·rename_i p q;have:UR b (.d (.agg p)) (.d (.agg q))=some (C,d):=e;have hm:=vx.JU;have hn:=vy.JU;cases hm with
     |agg _ xs h1 h2 h3=>
      cases hn with
      |agg _ ys g1 g2 g3=>exact JJU hb this (.agg _ _ h1 h2 h3) (.agg _ _ g1 g2 g3) x
    ·have:UR b m (.d .nilIface)=some (C,d):=by
      unfold UR;split<;>first|(simp at*;done)|exact e
     exact JSV hb this vx vy.JU
    ·cases e
end
end Av
namespace Av
open Go
variable [Glb][Rls]
variable {sz k:Nat}{xs:List Dat}{x:Operand}{x':Opd}{r:Res}{args:Array Operand}
theorem XY(x:Dat)(xs:List Dat):flat (x::xs)=x.cells++flat xs:=rfl
theorem Uh(xs ys:List Dat):flat (xs++ys)=flat xs++flat ys:=by simp[flat]
theorem JT:∀{xs:List Dat},(∀x∈xs,x.cells.length=sz)→(flat xs).length=xs.length*sz
 |[],_=>by simp[flat]
 |x::xs,h=>by
  rw[XY,Vg,JT fun y hy=>h y (Vn _ hy),h x Vh,Vf,Nat.succ_mul,Nat.add_comm]
theorem JAc:∀{xs:List Dat} (n:Nat),(∀x∈xs,x.cells.length=sz)→flat (xs.drop n)=(flat xs).drop (n*sz)
 |xs,0,_=>by simp
 |[],n+1,_=>by simp[flat]
 |x::xs,n+1,h=>by
  rw[List.drop_succ_cons,JAc n fun y hy=>h y (Vn _ hy),XY,Nat.succ_mul,Nat.add_comm,←List.drop_drop];congr 1;rw[←h x Vh,List.drop_left]
theorem JAd:∀{xs:List Dat} (n:Nat),(∀x∈xs,x.cells.length=sz)→flat (xs.take n)=(flat xs).take (n*sz)
 |xs,0,_=>by simp[flat]
 |[],n+1,_=>by simp[flat]
 |x::xs,n+1,h=>by
  rw[List.take_succ_cons,XY,JAd n fun y hy=>h y (Vn _ hy),XY,Nat.succ_mul,Nat.add_comm (n*sz)];have:=h x Vh;rw[←this,List.take_length_add_append]
theorem U3(h:k<xs.length):nth xs k=xs[k]:=by simp[nth,h]
theorem Yz(h:k<xs.length):nth xs k∈xs:=by rw[U3 h];exact Vk h
theorem JBo(h:∀x∈xs,x.cells.length=sz){j:Nat}(hk:k<xs.length)(hj:j<sz):(flat xs)[k*sz+j]? =(nth xs k).cells[j]? :=by
 have e1:=JAc k h;rw[Vq hk,XY,←U3 hk]at e1;have e2:=congrArg (fun l=>l[j]?) e1;simp only[List.getElem?_drop]at e2;rw[←e2,Vz (by rw[h _ (Yz hk)];exact hj)]
theorem JA1{α:Type}{x:α}{xs:List α}{i n:Nat}(h:x∈(xs.drop i).take n):x∈xs:=List.mem_of_mem_drop (List.mem_of_mem_take h)
structure SlVal(A:Nat→Prop)(w:World)(sz:Nat)(xs:List Dat)(u:Value)(vs:List Value):Prop where
 ex:∃ad cap,u=.slice ad xs.length cap∧xs.length≤cap∧(xs≠[]→∃b o,ad=some ⟨b,o,none⟩∧Holds w b o vs)
 len:(flat xs).length=vs.length
 one:∀v∈vs,v.oneCell'=true
 rep:∀(i:Nat) c v,(flat xs)[i]? =some c→vs[i]? =some v→Rep A w c v
 bnd:xs.length≤68719476736
 sz:∀x∈xs,x.cells.length=sz
section
variable {P:Program}{β:JM}{A:Nat→Prop}{w:World}{H:Heap}{τ:UX}{a:Act}{o:Oper}
theorem holds_of_block{b:Nat}{C:Array Value}{T:TypeId}{fz:Nat×Nat}(h:w.heap[b]? =some (.cells C T fz))(off n:Nat):Holds w b off ((C.toList.drop off).take n):=by
 intro i v hi;rw[List.getElem?_take]at hi;split at hi
 ·rw[List.getElem?_drop]at hi;simp only[World.cell?,h];simpa using hi
 ·cases hi
theorem Uo{v:Av}{u:Value}(hc:Core β A w H)(hl:UG H v=some (sz,xs))(hcur:curr H v)(hv:VRep β A w H v u):∃vs,SlVal A w sz xs u vs:=by
 have frz:∀{sz:Nat} {xs:List Dat} {u:Value},Rep A w (.list sz xs) u→∃vs,SlVal A w sz xs u vs:=by
  intro sz xs u hr;cases hr with
  |emp _ a cap=>exact⟨[],⟨a,cap,rfl,sP,sP⟩,rfl,sP,by simp[flat],sP,sP⟩
  |list _ _ b o n cap vs hn hA hl hb h1 hsz hh hvl hv=>exact⟨vs,⟨some ⟨b,o,none⟩,cap,by rw[hn],hl,fun _=>⟨b,o,rfl,hh⟩⟩,hvl,h1,hv,hb,hsz⟩
 unfold UG at hl;split at hl
 ·cases hl;exact frz hv.JU
 ·cases hl;cases hv.JU with
  |nil _ a=>exact⟨[],⟨a,0,rfl,sP,sP⟩,rfl,sP,by simp[flat],sP,sP⟩
 ·rename_i i ver;split at hl
  ·rename_i ver' sz' xs' hrow;cases hl;simp only[curr,hrow]at hcur;subst hcur;obtain⟨hs0,hsz,hb,hblk⟩:=hc.objs i _ hrow;cases hv with
   |ms _ _ _ hu h0 h1 h2=>
    rcases(h1 _ _ _ hrow).2 rfl with⟨e1,e2,ad,e3⟩|⟨b,C,T,fz,cap,e1,e2,e3,e4,e5⟩
    ·have hx:xs=[]:=List.eq_nil_of_length_eq_zero e2;subst hx;exact⟨[],⟨ad,0,by simp[e3],sP,sP⟩,rfl,sP,by simp[flat],sP,sP⟩
    ·rcases hblk with⟨g1,_⟩|⟨b',C',T',cap',g1,g2,g3,g4,g5,g6⟩
     ·rw[g1]at e1;cases e1
     ·rw[g1]at e1;cases e1;rw[g2]at e2;cases e2;have hfl:=JT hsz;have hle:(flat xs).length≤C.size:=by rw[hfl,g3];exact Nat.mul_le_mul_right _ g4
      have hlen:(flat xs).length=(C.toList.take (flat xs).length).length:=sO;refine⟨(C.toList.drop 0).take (flat xs).length,⟨_,cap,e5,e4,fun _=>⟨_,0,rfl,holds_of_block g2 0 _⟩⟩,by simpa using hlen,?_,?_,hb,hsz⟩
      ·intro v hv';obtain⟨j,hj⟩:=List.getElem?_of_mem hv';rw[List.drop_zero,List.getElem?_take]at hj;split at hj
       ·rename_i hlt;exact g5 j v hlt (sX hj)
       ·cases hj
      ·intro j c v hjc hjv;rw[List.drop_zero,List.getElem?_take]at hjv;split at hjv
       ·exact g6 j c v hjc (sX hjv)
       ·cases hjv
  ·rename_i ver' sz' xs' hf;cases hl;simp only[curr,hf]at hcur;subst hcur;cases hv with
   |ms _ _ _ hu h0 h1 h2=>exact frz (h2 _ _ hf)
  ·cases hl
 ·rename_i i ver off len;split at hl
  ·rename_i ver' sz' xs' hrow;cases hl;simp only[curr,hrow]at hcur;subst hcur;obtain⟨hs0,hsz,hb,hblk⟩:=hc.objs i _ hrow;have hsz':∀x∈(xs'.drop off).take len,x.cells.length=sz:=fun x hx=>hsz x (JA1 hx)
   cases hv with
   |sub _ _ _ _ _ hu h0 h1 h2=>
    obtain⟨hol,hsub⟩:=(h1 _ _ _ hrow).2 rfl;have hlen':((xs'.drop off).take len).length=len:=sO;rcases hsub with⟨e1,e2,e3,ad,e4⟩|⟨b,C,T,fz,cap,ad,e1,e2,e3,e4,e5,e6⟩
    ·subst e2 e3;simp only[List.drop_zero,List.take_zero];exact⟨[],⟨ad,0,by simp[e4],sP,sP⟩,rfl,sP,by simp[flat],sP,sP⟩
    ·rcases hblk with⟨g1,_⟩|⟨b',C',T',cap',g1,g2,g3,g4,g5,g6⟩
     ·rw[g1]at e1;cases e1
     ·rw[g1]at e1;cases e1;rw[g2]at e2;cases e2;have hfe:flat ((xs'.drop off).take len)=((flat xs').drop (off*sz)).take (len*sz):=by
       rw[JAd len fun x hx=>hsz x (List.mem_of_mem_drop hx),JAc off hsz]
      have hfl:=JT hsz;have hfl':=JT hsz';rw[hlen']at hfl';have hcs:(off+len)*sz≤C.size:=by rw[g3];exact Nat.mul_le_mul_right _ oM
      have hxs:(off+len)*sz≤(flat xs').length:=by rw[hfl];exact Nat.mul_le_mul_right _ hol
      rw[Nat.add_mul]at hcs hxs;refine⟨(C.toList.drop (off*sz)).take (len*sz),⟨some ad,cap-off,by rw[hlen',e6],by rw[hlen'];omega,?_⟩,?_,?_,?_,by rw[hlen'];omega,hsz'⟩
      ·intro hne;have hpos:0<len:=by
        rcases Nat.eq_zero_or_pos len with h|h
        ·subst h;simp at hne
        ·exact h
       exact⟨_,off*sz,by rw[e5 oM],holds_of_block g2 _ _⟩
      ·rw[hfl'];simp;omega
      ·intro v hv';obtain⟨j,hj⟩:=List.getElem?_of_mem hv';rw[List.getElem?_take]at hj;split at hj
       ·rename_i hlt;rw[List.getElem?_drop]at hj;exact g5 (off*sz+j) v oM (sX hj)
       ·cases hj
      ·intro j c v hjc hjv;rw[hfe,List.getElem?_take]at hjc;rw[List.getElem?_take]at hjv;split at hjc
       ·rename_i hlt;rw[if_pos hlt,List.getElem?_drop]at hjv;rw[List.getElem?_drop]at hjc;exact g6 _ c v hjc (sX hjv)
       ·cases hjc
  ·rename_i ver' sz' xs' hf;cases hl;simp only[curr,hf]at hcur;subst hcur;cases hv with
   |sub _ _ _ _ _ hu h0 h1 h2=>exact frz (h2 _ _ hf)
  ·cases hl
 ·cases hl
theorem JBp{t:TypeId}:∀{xs:List Operand} {ys:List Opd} {vs:List Av},Ji (xs.map (opd P t))=some ys→vals τ ys=some vs→UD β A w H τ a→
  vs.length=xs.length∧∀(i:Nat) c x,vs[i]? =some c→xs[i]? =some x→VRep β A w H c (a.eval x)
 |[],ys,vs,h1,h2,_=>by simp[Ji]at h1;subst h1;simp[vals]at h2;subst h2;simp
 |x::xs,ys,vs,h1,h2,ht=>by
  cases e:opd P t x with
  |none=>simp[e,Ji]at h1
  |some y=>
   simp only[Va,e,Ji]at h1;cases e2:Ji (xs.map (opd P t))with
   |none=>simp[e2]at h1
   |some ys'=>
    simp only[e2,Vj,Vd]at h1;subst h1;simp only[vals]at h2;cases e3:val τ y with
    |none=>simp[e3]at h2
    |some v=>
     cases e4:vals τ ys' with
     |none=>simp[e3,e4]at h2
     |some vs'=>
      simp only[e3,e4,Vd]at h2;subst h2;obtain⟨g1,g2⟩:=JBp e2 e4 ht;refine⟨by simp[g1],?_⟩;intro i c z hc hz;cases i with
      |zero=>simp at hc hz;subst hc hz;exact JD e e3 ht
      |succ i=>exact g2 i c z (sX hc) (sX hz)
theorem JMt{t:TypeId}(hc:Core β A w H)(ht:UD β A w H τ a)(ho:o.op=.unOp .not t x)(hx:opd P t x=some x')
  (hs:step τ H (o.dst.getD 0) (.not x')=some r):JY P a.eval o w β A H r.v r.ups:=by
 simp only[step]at hs;split at hs
 ·rename_i b e;cases hs;have hv:=(JD hx e ht).JU;generalize hu:a.eval x=u at*;cases hv;exact JY.pure hc (by simp[execOp,ho,hu,Op.unary]) (.d _ _ (.bool _))
 ·cases hs
theorem JMu{t:TypeId}{k:IntKind}(hc:Core β A w H)(ht:UD β A w H τ a)(ho:o.op=.unOp .neg t x)(hx:opd P t x=some x')
  (hs:step τ H (o.dst.getD 0) (.neg k x')=some r):JY P a.eval o w β A H r.v r.ups:=by
 simp only[step]at hs;split at hs
 ·rename_i k' n e;split at hs
  ·rename_i hk;subst hk;cases hs;have hv:=(JD hx e ht).JU;generalize hu:a.eval x=u at*;cases hv;exact JY.pure hc (by simp[execOp,ho,hu,Op.unary,Op.intArith]) (.d _ _ (.int _ _ (JAb _ _)))
  ·cases hs
 ·cases hs
theorem JMv{s t:TypeId}{k k':IntKind}(hc:Core β A w H)(ht:UD β A w H τ a)(ho:o.op=.convert s t x)(h1:P.underlying s=some (.int k'))(h2:P.underlying t=some (.int k))
  (hx:opd P s x=some x')(hs:step τ H (o.dst.getD 0) (.cvi k x')=some r):JY P a.eval o w β A H r.v r.ups:=by
 simp only[step]at hs;split at hs
 ·rename_i kk n e;cases hs;have hv:=(JD hx e ht).JU;generalize hu:a.eval x=u at*;cases hv;exact JY.pure hc (by simp[execOp,ho,hu,convert,Sem.run_bind,run_underlying h1,run_underlying h2,Conv.intToInt]) (.d _ _ (.int _ _ (JAb _ _)))
 ·cases hs
theorem JMw{t:TypeId}{d:TypeDesc}(hc:Core β A w H)(ht:UD β A w H τ a)(ho:o.op=.makeInterface t x)(h1:P.underlying t=some d)(h2:∀ms,d≠ .interface ms)
  (hx:opd P t x=some x')(hs:step τ H (o.dst.getD 0) (.ifc t x')=some r):JY P a.eval o w β A H r.v r.ups:=by
 simp only[step]at hs;split at hs
 ·rename_i v e;cases hs;have hv:=(JD hx e ht).JU;refine JY.pure hc (u:=.iface t (a.eval x)) ?_ (.d _ _ (.iface _ _ _ hv));simp only[execOp,ho,Instr.makeInterface,Sem.run_bind,run_underlying h1,Result.andThen_ok];cases d<;>first|rfl|exact absurd rfl (h2 _)
 ·rename_i i off e;cases hs;have hv:(a.eval x).oneCell'=true:=by
   cases(JD hx e ht)with|ref _ _ b p _ hu=>rw[hu];rfl
  refine JY.pure hc (u:=.iface t (a.eval x)) ?_ (.d _ _ (.iface _ _ _ (.opq _ hv)));simp only[execOp,ho,Instr.makeInterface,Sem.run_bind,run_underlying h1,Result.andThen_ok];cases d<;>first|rfl|exact absurd rfl (h2 _)
 ·cases hs
theorem JMx{fn:Fn}{first cap:Array Operand}{fs cs:List Opd}(hc:Core β A w H)(ht:UD β A w H τ a)(ho:o.op=.makeFunc fn first cap)
  (h1:Ji (first.toList.map (opd P 0))=some fs)(h2:Ji (cap.toList.map (opd P 0))=some cs)
  (hs:step τ H (o.dst.getD 0) (.fnv fn fs cs)=some r):JY P a.eval o w β A H r.v r.ups:=by
 simp only[step]at hs;cases e1:vals τ fs with
 |none=>simp[e1]at hs
 |some v1=>
  cases e2:vals τ cs with
  |none=>simp[e1,e2]at hs
  |some v2=>
   simp only[e1,e2]at hs;obtain⟨l1,p1⟩:=JBp h1 e1 ht;obtain⟨l2,p2⟩:=JBp h2 e2 ht;have q1:∀(i:Nat) c v,v1[i]? =some c→(first.map a.eval)[i]? =some v→VRep β A w H c v:=by
    intro i c v hc hv;rw[Array.getElem?_map]at hv;cases e:first[i]? with
    |none=>simp[e]at hv
    |some x=>simp[e]at hv;subst hv;exact p1 i c x hc (sX e)
   have q2:∀(i:Nat) c v,v2[i]? =some c→(cap.map a.eval)[i]? =some v→VRep β A w H c v:=by
    intro i c v hc hv;rw[Array.getElem?_map]at hv;cases e:cap[i]? with
    |none=>simp[e]at hv
    |some x=>simp[e]at hv;subst hv;exact p2 i c x hc (sX e)
   have run:(execOp a.eval o).run P w=.ok (.value (.func fn (first.map a.eval) (cap.map a.eval))) w:=by simp[execOp,ho,Instr.makeFunc]
   have gen:VRep β A w H (.clo fn v1 v2) (.func fn (first.map a.eval) (cap.map a.eval)):=.clo _ _ _ _ _ (sX l1) (sX l2) q1 q2;split at hs
   ·rename_i d1 d2 a1 a2;cases hs;have b1:=X0 a1;have b2:=X0 a2;subst b1 b2;refine JY.pure hc run (.d _ _ (.fn _ _ _ _ _ (sX l1) (sX l2) ?_ ?_))
    ·intro i c v hc hv;exact(q1 i (.d c) v (by simp[hc]) hv).JU
    ·intro i c v hc hv;exact(q2 i (.d c) v (by simp[hc]) hv).JU
   ·cases hs;exact JY.pure hc run gen
theorem JMy{i:Nat}(hc:Core β A w H)(ht:UD β A w H τ a)(ho:o.op=.extract x i)(hx:opd P 0 x=some x')
  (hs:step τ H (o.dst.getD 0) (.ext x' i)=some r):JY P a.eval o w β A H r.v r.ups:=by
 simp only[step]at hs;split at hs
 ·rename_i vs e;have hv:=JD hx e ht;generalize hu:a.eval x=u at*;split at hs
  ·rename_i v hv';cases hs;cases hv with
   |tup _ arr hl h1=>
    have hi:=(VB.1 hv').1;have hai:arr[i]? =some arr[i]:=by simp[show i<arr.size by omega]
    exact JY.pure hc (by simp[execOp,ho,hu,Instr.extract,hai]) (h1 i v _ hv' hai)
  ·cases hs
 ·cases hs
theorem YT{b:Builtin}{argTypes:Array TypeId}(ho:o.op=.call {callee:=.builtin b,args,argTypes})(w:World):
  ∃cs,(execOp a.eval o).run P w=(builtin b argTypes o.type cs (args.map a.eval)).run P w:=
 ⟨_,by unfold execOp;simp only[ho,resolve,Sem.run_bind,Sem.run_pure,Result.andThen_ok,invoke];rfl⟩
theorem JLu{argTypes:Array TypeId}{t:TypeId}(hc:Core β A w H)(ht:UD β A w H τ a)
  (ho:o.op=.call {callee:=.builtin .len,args,argTypes})(ha:args.toList=[x])(hat:argTypes.toList=[t])(hu:P.underlying t=some .string)
  (hx:opd P t x=some x')(hs:step τ H (o.dst.getD 0) (.slen x')=some r):JY P a.eval o w β A H r.v r.ups:=by
 obtain rfl:args=#[x]:=by apply Array.ext';simpa using ha
 obtain rfl:argTypes=#[t]:=by apply Array.ext';simpa using hat
 obtain⟨cs,run⟩:=YT (P:=P) (a:=a) ho w;simp only[step]at hs;split at hs
 ·rename_i s e;cases hs;have hv:=(JD hx e ht).JU;generalize hue:a.eval x=u at*;cases hv with
  |str _ hl=>
   refine JY.pure hc (u:=.int .i64 s.length) ?_ (.d _ _ (.int _ _ ?_))
   ·rw[run];simp only[builtin,List.map_toArray,Va,Vb,hue,Sem.run_bind,Builtin.len_,run_underlying hu,List.getElem?_toArray,List.getElem?_cons_zero,Result.andThen_ok,Sem.run_pure,goInt,ByteArray.size,List.size_toArray]
   ·simp[IntKind.min,IntKind.max,IntKind.signed,IntKind.bits];omega
 ·cases hs
theorem JMz{argTypes:Array TypeId}{t e:TypeId}(hc:Core β A w H)(ht:UD β A w H τ a)
  (ho:o.op=.call {callee:=.builtin .len,args,argTypes})(ha:args.toList=[x])(hat:argTypes.toList=[t])(hu:P.underlying t=some (.slice e))
  (hx:opd P t x=some x')(hs:step τ H (o.dst.getD 0) (.len x')=some r)(hC:r.c):JY P a.eval o w β A H r.v r.ups:=by
 obtain rfl:args=#[x]:=by apply Array.ext';simpa using ha
 obtain rfl:argTypes=#[t]:=by apply Array.ext';simpa using hat
 obtain⟨cs,run⟩:=YT (P:=P) (a:=a) ho w;simp only[step]at hs;split at hs
 ·rename_i v e;cases e2:UG H v with
  |none=>
   simp only[e2]at hs;split at hs
   ·rename_i i h;split at hs
    ·rename_i c s sz' ys ek er;simp only[Vd]at hs;subst hs;obtain⟨ad,cap,hue,hle⟩:=JMp hc (JD hx e ht) er hC ek;refine JY.pure hc (u:=.int .i64 ys.length) ?_ (.d _ _ (.int _ _ ?_))
     ·rw[run];simp only[builtin,List.map_toArray,Va,Vb,hue,Sem.run_bind,Builtin.len_,run_underlying hu,List.getElem?_toArray,List.getElem?_cons_zero,Result.andThen_ok,Sem.run_pure,goInt]
     ·simp[IntKind.min,IntKind.max,IntKind.signed,IntKind.bits];omega
    ·cases hs
   ·cases hs
  |some p=>
   obtain⟨sz,xs⟩:=p;simp only[e2,Vd]at hs;subst hs;obtain⟨vs,sv⟩:=Uo hc e2 hC (JD hx e ht);obtain⟨ad,cap,hue,_⟩:=sv.ex;refine JY.pure hc (u:=.int .i64 xs.length) ?_ (.d _ _ (.int _ _ ?_))
   ·rw[run];simp only[builtin,List.map_toArray,Va,Vb,hue,Sem.run_bind,Builtin.len_,run_underlying hu,List.getElem?_toArray,List.getElem?_cons_zero,Result.andThen_ok,Sem.run_pure,goInt]
   ·have:=sv.bnd;simp[IntKind.min,IntKind.max,IntKind.signed,IntKind.bits];omega
 ·cases hs
theorem JFd{argTypes:Array TypeId}{y:Operand}{t:TypeId}{y':Opd}{bu:Builtin}(hc:Core β A w H)(ht:UD β A w H τ a)
  (ho:o.op=.call {callee:=.builtin bu,args,argTypes})(ha:args.toList=[x,y])
  (hx:opd P t x=some x')(hy:opd P t y=some y')(hs:(bu=.min∧step τ H (o.dst.getD 0) (.mn x' y')=some r)∨(bu=.max∧step τ H (o.dst.getD 0) (.mx x' y')=some r)):
  JY P a.eval o w β A H r.v r.ups:=by
 obtain rfl:args=#[x,y]:=by apply Array.ext';simpa using ha
 obtain⟨cs,run⟩:=YT (P:=P) (a:=a) ho w;rcases hs with⟨rfl,hs⟩|⟨rfl,hs⟩
 all_goals
  simp only[step]at hs;split at hs
  ·rename_i k m k' n e1 e2;split at hs
   ·rename_i hk;subst hk;cases hs;have h1:=(JD hx e1 ht).JU;have h2:=(JD hy e2 ht).JU;generalize hu1:a.eval x=u1 at*;generalize hu2:a.eval y=u2 at*;cases h1 with
    |int _ _ w1=>
     cases h2 with
     |int _ _ w2=>
      refine JY.pure hc ?_ (.d _ _ (.int _ _ (by split<;>assumption)));rw[run];simp[builtin,hu1,hu2,Builtin.min_,Builtin.max_,Builtin.min2,Builtin.max2]
   ·cases hs
  ·cases hs
end
end Av
namespace Av
open Go
variable [Glb][Rls]
variable {x i:Operand}{x' i':Opd}{r:Res}{cs:List Dat}{u:Value}{n:Option Nat}{sz:Nat}
section
variable {P:Program}{β:JM}{A:Nat→Prop}{w:World}{H:Heap}{τ:UX}{a:Act}{o:Oper}
theorem JM0(hc:Core β A w H)(ht:UD β A w H τ a)(ho:o.op=.nilCheck x)(hx:opd P 0 x=some x')
  (hs:step τ H (o.dst.getD 0) (.nck x')=some r):JY P a.eval o w β A H r.v r.ups:=by
 simp only[step]at hs;cases e:val τ x' with
 |none=>simp[e]at hs
 |some v=>
  simp only[e]at hs;split at hs
  ·rename_i hn;cases hs;have hv:=JD hx e ht;refine JY.pure hc (u:=a.eval x) ?_ hv;rcases JMq hn hv with⟨t,y,hu⟩|⟨ad,hu⟩|⟨f,y,z,hu⟩<;>simp[execOp,ho,hu]
  ·cases hs
theorem Rep.ZX(h:Rep A w (.ptr cs) u)(n:Nat):∃b p,u=.pointer (some ⟨b,p,none⟩)∧Rep A w (.ptr (cs.drop n)) (.pointer (some ⟨b,p+n,none⟩)):=by
 cases h with
 |ptr _ b p vs hA h1 hh hvl hv=>
  refine⟨b,p,rfl,.ptr _ b (p+n) (vs.drop n) hA (fun v hv'=>h1 v (List.mem_of_mem_drop hv')) ?_ (by simp[hvl]) ?_⟩
  ·intro i v hi;rw[List.getElem?_drop]at hi;have:=hh _ v hi;rwa[←Nat.add_assoc]at this
  ·intro i c v h2 h3;rw[List.getElem?_drop]at h2 h3;exact hv _ c v h2 h3
theorem JSW{t:TypeId}{f:Nat}{fs:Array Field}{fd:Field}{n:Nat}(hc:Core β A w H)(ht:UD β A w H τ a)(ho:o.op=.fieldAddr t x f)
  (hu:P.underlying t=some (.struct fs))(hf:fs[f]? =some fd)(hn:szT P fd.type=some n)(hn0:n≠0)(hx:opd P t x=some x')
  (hs:step τ H (o.dst.getD 0) (.fa x' fd.offset)=some r):JY P a.eval o w β A H r.v r.ups:=by
 have run:∀b p,a.eval x=.pointer (some ⟨b,p,none⟩)→(execOp a.eval o).run P w=.ok (.value (.pointer (some ⟨b,p+fd.offset,none⟩))) w:=by
  intro b p hp;simp[execOp,ho,Instr.fieldAt,Sem.run_bind,run_underlying hu,hf,hp,Instr.sureAddr,fieldPlace,UI hn,hn0,Addr.add_lit]
 simp only[step]at hs;split at hs
 ·rename_i i off e;cases hs;have hv:=JD hx e ht;generalize hue:a.eval x=u at*;cases hv with
  |ref _ _ b p _ hu2 h0 h1 h2=>
   refine JY.pure hc (run b _ hu2) (.ref _ _ b p _ (by rw[Nat.add_assoc]) h0 h1 ?_);intro ds hds;obtain⟨b',p',e1,e2⟩:=(h2 ds hds).ZX fd.offset;rw[hu2]at e1;cases e1;rwa[List.drop_drop]at e2
 ·rename_i i ver k off e;cases hs;have hv:=JD hx e ht;generalize hue:a.eval x=u at*;cases hv with
  |el _ _ _ _ b p _ hu2 h0 h1=>exact JY.pure hc (run b _ hu2) (.el _ _ _ _ b p _ (by rw[Nat.add_assoc]) h0 h1)
 ·rename_i cs e;cases hs;have hv:=(JD hx e ht).JU;obtain⟨b,p,e1,e2⟩:=hv.ZX fd.offset;exact JY.pure hc (run b p e1) (.d _ _ e2)
 ·rename_i g e;have hv:=(JD hx e ht).JU;split at hs
  ·rename_i cs hg;cases hs;obtain⟨b,p,e1,e2⟩:=(hc.glob g cs hg).rep.ZX fd.offset;generalize hue:a.eval x=u at*;cases hv;exact JY.pure hc (run b p e1) (.d _ _ e2)
  ·cases hs
 ·rename_i i h e;split at hs
  ·rename_i k o' ek;cases hs;have hv:=JD hx e ht;generalize hue:a.eval x=u at*;cases hv with
   |tr _ _ _ hu' h0 hk h1=>
    obtain⟨b,p,hu2⟩:=hk (by rw[ek];rfl);refine JY.pure hc (run b p hu2) (.tr _ _ _ rfl h0 (fun _=>⟨_,_,rfl⟩) ?_);intro v' s' sz xs hi;obtain⟨l1,l2,l3⟩:=h1 _ _ _ _ hi;refine⟨l1,l2,fun g1 g2=>?_⟩;obtain⟨u0,u1,r1,r2,r3⟩:=l3 g1 g2;rw[ek]at r3;obtain⟨b',n',cap,sz',ys,e1,e2,e3,e4⟩:=r3;refine⟨u0,u1,r1,r2,b',n',cap,sz',ys,e1,e2,e3,?_⟩;rw[hu2]at e4;cases e4;rw[Nat.add_assoc]
  ·cases hs
 ·cases hs
theorem JCU{t:TypeId}(h:shT P t=some n):(n=none∧agT P t=some false∧szT P t=some 1)∨∃k,n=some k∧agT P t=some true∧szT P t=some k:=by
 unfold shT at h;split at h
 ·cases h;exact .inr ⟨_,rfl,by assumption,by assumption⟩
 ·cases h;exact .inl ⟨rfl,by assumption,by assumption⟩
 ·cases h
theorem ZJ{t:TypeId}(h:shT P t=some n)(cs:Array Value)(off:Nat)(w:World):
  (n=none→∀v,cs[off]? =some v→(part t cs off).run P w=.ok v w)∧(∀k,n=some k→(part t cs off).run P w=.ok (.agg (cs.extract off (off+k))) w):=by
 rcases JCU h with⟨rfl,h1,h2⟩|⟨k,rfl,h1,h2⟩
 ·refine⟨fun _ v hv=>by simp[part,Sem.run_bind,Yb h1,hv],sP⟩
 ·refine⟨sP,fun k' e=>?_⟩;cases e;simp[part,Sem.run_bind,Yb h1,UI h2]
theorem VRep.seg{cs:List Av}{arr:Array Value}(hl:cs.length=arr.size)(h1:∀v∈arr.toList,v.oneCell'=true)(hv:∀(i:Nat) c v,cs[i]? =some c→arr[i]? =some v→VRep β A w H c v)
  {off n:Nat}(hle:off+n≤cs.length):VRep β A w H (JCy ((cs.drop off).take n)) (.agg (arr.extract off (off+n))):=by
 have hsz:(arr.extract off (off+n)).size=n:=sO;refine JDx (by rw[hsz];simp;omega) ?_ ?_
 ·intro v hv';have hv2:v∈List.take n (List.drop off arr.toList):=by simpa using hv'
  exact h1 v (List.mem_of_mem_drop (List.mem_of_mem_take hv2))
 ·intro i c v hc hv';rw[List.getElem?_take]at hc;split at hc
  ·rw[List.getElem?_drop]at hc;rw[Array.getElem?_extract]at hv';split at hv'
   ·exact hv _ c v hc hv'
   ·cases hv'
  ·cases hc
theorem Rep.seg{arr:Array Value}(h:Rep A w (.agg cs) (.agg arr)){off n:Nat}(hle:off+n≤cs.length):Rep A w (.agg ((cs.drop off).take n)) (.agg (arr.extract off (off+n))):=by
 cases h with
 |agg _ _ hl h1 hv=>
  have hsz:(arr.extract off (off+n)).size=n:=sO;refine .agg _ _ (by rw[hsz];simp;omega) ?_ ?_
  ·intro v hv';have hv2:v∈List.take n (List.drop off arr.toList):=by simpa using hv'
   exact h1 v (List.mem_of_mem_drop (List.mem_of_mem_take hv2))
  ·intro i c v hc hv';rw[List.getElem?_take]at hc;split at hc
   ·rw[List.getElem?_drop]at hc;rw[Array.getElem?_extract]at hv';split at hv'
    ·exact hv _ c v hc hv'
    ·cases hv'
   ·cases hc
theorem Rep.JCR(h:Rep A w (.agg cs) u):∃arr,u=.agg arr:=by cases h;exact⟨_,rfl⟩
theorem JM1{t:TypeId}{f:Nat}{fs:Array Field}{fd:Field}(hc:Core β A w H)(ht:UD β A w H τ a)(ho:o.op=.field t x f)
  (hu:P.underlying t=some (.struct fs))(hf:fs[f]? =some fd)(hn:shT P fd.type=some n)(hx:opd P t x=some x')
  (hs:step τ H (o.dst.getD 0) (.fld n x' fd.offset)=some r)(hC:r.c):JY P a.eval o w β A H r.v r.ups:=by
 have run:∀arr v,a.eval x=.agg arr→(part fd.type arr fd.offset).run P w=.ok v w→(execOp a.eval o).run P w=.ok (.value v) w:=by
  intro arr v hp hv;simp[execOp,ho,Instr.field,Sem.run_bind,run_underlying hu,hf,hp,asAgg,hv]
 simp only[step]at hs;split at hs
 ·rename_i cs e;have hv:=(JD hx e ht).JU;obtain⟨arr,hue⟩:=hv.JCR;rw[hue]at hv;split at hs
  ·rename_i c hc';cases hs;cases hv with
   |agg _ _ hl h1 h2=>
    have hi:=(VB.1 hc').1;have hai:arr[fd.offset]? =some arr[fd.offset]:=by simp[show fd.offset<arr.size by omega]
    exact JY.pure hc (run arr _ hue ((ZJ hn arr _ w).1 rfl _ hai)) (.d _ _ (h2 _ c _ hc' hai))
  ·cases hs
 ·rename_i cs n' e;cases hs;have hv:=(JD hx e ht).JU;obtain⟨arr,hue⟩:=hv.JCR;rw[hue]at hv;exact JY.pure hc (run arr _ hue ((ZJ hn arr _ w).2 _ rfl)) (.d _ _ (hv.seg hC))
 ·rename_i cs e;have hv:=JD hx e ht;generalize hue:a.eval x=u at*;split at hs
  ·rename_i c hc';cases hs;cases hv with
   |agg _ arr hl h1 h2=>
    have hi:=(VB.1 hc').1;have hai:arr[fd.offset]? =some arr[fd.offset]:=by simp[show fd.offset<arr.size by omega]
    exact JY.pure hc (run arr _ rfl ((ZJ hn arr _ w).1 rfl _ hai)) (h2 _ c _ hc' hai)
  ·cases hs
 ·rename_i cs n' e;have hv:=JD hx e ht;generalize hue:a.eval x=u at*;split at hs
  ·rename_i hle;cases hs;cases hv with
   |agg _ arr hl h1 h2=>exact JY.pure hc (run arr _ rfl ((ZJ hn arr _ w).2 _ rfl)) (VRep.seg hl h1 h2 hle)
  ·cases hs
 ·cases hs
theorem JM2{t:TypeId}(hc:Core β A w H)(ht:UD β A w H τ a)(ho:o.op=.index t x i)(hu:P.underlying t=some .string)(hx:opd P t x=some x'){ti:TypeId}(hi:opd P ti i=some i')
  (hs:step τ H (o.dst.getD 0) (.ixs x' i')=some r)(hC:r.c):JY P a.eval o w β A H r.v r.ups:=by
 simp only[step]at hs;split at hs
 ·rename_i s k n e1 e2;cases hs;obtain⟨hC1,hC2⟩:=hC;have h1:=(JD hx e1 ht).JU;have h2:=(JD hi e2 ht).JU;generalize hu1:a.eval x=u1 at*;generalize hu2:a.eval i=u2 at*;cases h1 with
  |str _ hl=>
   cases h2 with
   |int _ _ hk=>
    have hlt:n.toNat<s.length:=oM;have hg:(⟨s.toArray⟩:ByteArray)[n.toNat]? =some (s[n.toNat]):=by
     rw[getElem?_pos (⟨s.toArray⟩:ByteArray) n.toNat (by simpa[ByteArray.size]using hlt)];rfl
    refine JY.pure hc (u:=.int .u8 (s[n.toNat]).toNat) ?_ (.d _ _ ?_)
    ·simp[execOp,ho,hu1,hu2,Instr.index,Sem.run_bind,run_underlying hu,asIntOf,hC1,hg]
    ·have:(s.getD n.toNat 0)=s[n.toNat]:=by simp[hlt]
     rw[this];refine .int _ _ ?_;have:=(s[n.toNat]).toNat_lt;simp[IntKind.min,IntKind.max,IntKind.signed,IntKind.bits];omega
 ·cases hs
theorem JM3{t e:TypeId}{len:Nat}(hc:Core β A w H)(ht:UD β A w H τ a)(ho:o.op=.index t x i)(hu:P.underlying t=some (.array len e))
  (hn:shT P e=some n)(hsz:szT P e=some sz)(hx:opd P t x=some x'){ti:TypeId}(hi:opd P ti i=some i')
  (hs:step τ H (o.dst.getD 0) (.ixv n len sz x' i')=some r)(hC:r.c):JY P a.eval o w β A H r.v r.ups:=by
 have run:∀arr k m v,a.eval x=.agg arr→a.eval i=.int k m→0≤m→m<len→(part e arr (m.toNat*sz)).run P w=.ok v w→(execOp a.eval o).run P w=.ok (.value v) w:=by
  intro arr k m v hp hq h0 h1 hv;simp[execOp,ho,Instr.index,Sem.run_bind,run_underlying hu,hp,hq,asIntOf,h0,h1,UI hsz,hv]
 simp only[step]at hs;split at hs
 ·rename_i cs k m e1 e2;cases hs;obtain⟨h0,h1,h2⟩:=hC;have hv:=(JD hx e1 ht).JU;have hw:=(JD hi e2 ht).JU;obtain⟨arr,hue⟩:=hv.JCR;rw[hue]at hv;generalize hu2:a.eval i=u2 at*;cases hw;cases hv with
  |agg _ _ hl g1 g2=>
   have hai:arr[m.toNat*sz]? =some (arr[m.toNat*sz]'oM):=by simp[show m.toNat*sz<arr.size by omega]
   have hci:cs[m.toNat*sz]? =some (cs.getD (m.toNat*sz) .opq):=by simp[h2]
   exact JY.pure hc (run arr _ _ _ hue rfl h0 h1 ((ZJ hn arr _ w).1 rfl _ hai)) (.d _ _ (g2 _ _ _ hci hai))
 ·rename_i cs k m n' e1 e2;cases hs;obtain⟨h0,h1,h2⟩:=hC;have hv:=(JD hx e1 ht).JU;have hw:=(JD hi e2 ht).JU;obtain⟨arr,hue⟩:=hv.JCR;rw[hue]at hv;generalize hu2:a.eval i=u2 at*;cases hw;exact JY.pure hc (run arr _ _ _ hue rfl h0 h1 ((ZJ hn arr _ w).2 _ rfl)) (.d _ _ (hv.seg h2))
 ·cases hs
theorem JDz(off:Nat):∀(vs:List Value) (j:Nat) (cells:Array Value),off+j+vs.length≤cells.size→
  ((vs.zipIdx j).foldl (fun cs (p:Value×Nat)=>cs.setIfInBounds (off+p.2) p.1) cells).toList=Jh cells.toList (off+j) vs
 |[],j,cells,h=>by simp[Jh]
 |v::vs,j,cells,h=>by
  simp only[List.zipIdx_cons,List.foldl_cons];rw[JDz off vs (j+1) (cells.setIfInBounds (off+j) v) (by simp at h⊢;omega)];simp only[Vf]at h;apply List.ext_getElem?;intro i;simp only[Jh,Array.toList_setIfInBounds,Vf,List.getElem?_append,List.length_take,List.length_set,Array.length_toList,List.getElem?_take,List.getElem?_drop,List.getElem?_set,List.getElem?_cons];by_cases h1:i<off+j
  ·simp[h1,show i<off+(j+1) by omega,show min (off+(j+1)) cells.size=off+(j+1) by omega,show min (off+j) cells.size=off+j by omega,show ¬off+j=i by omega]
  ·by_cases h2:i=off+j
   ·subst h2;simp[show min (off+(j+1)) cells.size=off+(j+1) by omega,show min (off+j) cells.size=off+j by omega,show off+j<off+(j+1) by omega,show off+j<cells.size by omega]
   ·have h3:¬i<off+(j+1):=oM;simp only[show min (off+(j+1)) cells.size=off+(j+1) by omega,show min (off+j) cells.size=off+j by omega,if_neg h1,if_neg h3,show ¬i-(off+j)=0 by omega,if_false];simp only[show i-(off+j)-1=i-(off+(j+1)) by omega,show i-(off+j)<vs.length+1↔i-(off+(j+1))<vs.length by omega];split
    ·rfl
    ·simp only[show off+(j+1)+vs.length+(i-(off+(j+1))-vs.length)=off+j+(vs.length+1)+(i-(off+j)-(vs.length+1)) by omega];rw[if_neg oM]
theorem Jr{α:Type}(cs new:List α)(off i:Nat)(h:off+new.length≤cs.length):(Jh cs off new)[i]? =if off≤i∧i<off+new.length then new[i-off]? else cs[i]? :=by
 simp only[Jh,List.getElem?_append,List.length_take,List.getElem?_take,List.getElem?_drop,show min off cs.length=off by omega];by_cases h1:i<off
 ·simp[h1,show ¬off≤i by omega]
 ·by_cases h2:i<off+new.length
  ·simp[h1,h2,show off≤i by omega,show i-off<new.length by omega]
  ·simp only[if_neg h1,show ¬(i-off<new.length) by omega,show ¬(off≤i∧i<off+new.length) by omega,if_false];congr 1;omega
theorem J2{α:Type}(cs new:List α)(off:Nat)(h:off+new.length≤cs.length):(Jh cs off new).length=cs.length:=by
 simp[Jh];omega
theorem JKV{place:Nat→Option (Nat×Nat)}:∀(parts:List (Nat×Operand)) (ps:List (Nat×Nat×Opd)) (cs:List Av) (cells:Array Value) (out:List Av),
  parts.length=ps.length→(∀(j:Nat) i x q,parts[j]? =some (i,x)→ps[j]? =some q→place i=some (q.1,q.2.1)∧∃t,opd P t x=some q.2.2)→
  UD β A w H τ a→cs.length=cells.size→(∀v∈cells.toList,v.oneCell'=true)→(∀(i:Nat) c v,cs[i]? =some c→cells[i]? =some v→VRep β A w H c v)→JA0 τ cs ps=some out→
  ∃cells',Instr.fill place cells (parts.map fun(i,x)=>(i,a.eval x))=some cells'∧out.length=cells'.size∧(∀v∈cells'.toList,v.oneCell'=true)∧
   ∀(i:Nat) c v,out[i]? =some c→cells'[i]? =some v→VRep β A w H c v
 |[],[],cs,cells,out,_,_,_,h1,h2,h3,h4=>by
  simp only[JA0,Vd]at h4;subst h4;exact⟨cells,rfl,h1,h2,h3⟩
 |[],q::ps,cs,cells,out,hl,_,_,_,_,_,_=>by simp at hl
 |(i,x)::parts,[],cs,cells,out,hl,_,_,_,_,_,_=>by simp at hl
 |(i,x)::parts,(off,n,y)::ps,cs,cells,out,hl,hp,ht,h1,h2,h3,h4=>by
  obtain⟨hpl,t,hy⟩:=hp 0 i x (off,n,y) rfl rfl;simp only[JA0]at h4;cases e1:val τ y with
  |none=>simp[e1]at h4
  |some v=>
   cases e2:v.cells with
   |none=>simp[e1,e2]at h4
   |some vs=>
    simp only[e1,e2]at h4;split at h4
    ·rename_i hn;obtain⟨c1,c2,c3⟩:=(JD hy e1 ht).XP e2;generalize hu:a.eval x=u at*;have hsz:u.cells.size=n:=oM;have hfold:=JDz off u.cells.toList 0 cells sO;simp only[Nat.add_zero]at hfold;have hcells':∃cells1:Array Value,u.cells.zipIdx.foldl (fun cs (c,j)=>cs.setIfInBounds (off+j) c) cells=cells1∧cells1.toList=Jh cells.toList off u.cells.toList:=by
      refine⟨_,rfl,?_⟩;rw[←hfold,←Array.foldl_toList,Array.toList_zipIdx]
     obtain⟨cells1,hcf,hcl⟩:=hcells';have hlen1:cells1.size=cells.size:=by
      rw[←Array.length_toList,hcl,J2 _ _ _ sO,Array.length_toList]
     have hget:∀j,cells1[j]? =if off≤j∧j<off+n then u.cells[j-off]? else cells[j]? :=by
      intro j;rw[←Array.getElem?_toList,hcl,Jr _ _ _ _ sO];simp[hsz]
     obtain⟨cells',g1,g2,g3,g4⟩:=JKV parts ps (Jh cs off vs) cells1 out (sX hl) (fun j i' x' q h5 h6=>hp (j+1) i' x' q (sX h5) (sX h6)) ht
      (by rw[J2 _ _ _ oM,hlen1,h1])
      (by
       intro z hz;obtain⟨j,hj⟩:=List.getElem?_of_mem hz;rw[Array.getElem?_toList,hget]at hj;split at hj
       ·exact c2 z (List.mem_of_getElem? (by rw[Array.getElem?_toList];exact hj))
       ·exact h2 z (List.mem_of_getElem? (by rw[Array.getElem?_toList];exact hj)))
      (by
       intro j c z hjc hjz;rw[Jr _ _ _ _ oM,hn.1]at hjc;rw[hget]at hjz;split at hjc
       ·rename_i hin;rw[if_pos hin]at hjz;exact c3 _ c z hjc hjz
       ·rename_i hin;rw[if_neg hin]at hjz;exact h3 _ c z hjc hjz) h4
     refine⟨cells',?_,g2,g3,g4⟩;simp only[Va,hu,Instr.fill,hpl];rw[if_neg sO];rw[hcf];exact g1
    ·cases h4
theorem JHc{t:TypeId}{parts:Array (Nat×Operand)}{zs:List Dat}{ps:List (Nat×Nat×Opd)}(hc:Core β A w H)(ht:UD β A w H τ a)(ho:o.op=.build t parts)
  (hz:zsT P t=some zs){place:Nat→Option (Nat×Nat)}
  (hpl:parts.toList.length=ps.length∧∀(j:Nat) i x q,parts.toList[j]? =some (i,x)→ps[j]? =some q→place i=some (q.1,q.2.1)∧∃t,opd P t x=some q.2.2)
  (hb:∀i z vs,P.info? t=some i→i.zero=some z→P.built t vs=Instr.fill place z.cells vs)
  (hs:step τ H (o.dst.getD 0) (.bld zs ps)=some r):JY P a.eval o w β A H r.v r.ups:=by
 simp only[step]at hs;split at hs
 ·rename_i cs e;cases hs;obtain⟨i,z,h1,h2,h3,h4,h5,h6⟩:=JGY hz;obtain⟨cells',g1,g2,g3,g4⟩:=JKV (place:=place) parts.toList ps (zs.map .d) z.cells cs hpl.1 hpl.2 ht (sX h4) h5
   (by
    intro j c v hc' hv;rw[Vo]at hc';cases e:zs[j]? with
    |none=>simp[e]at hc'
    |some y=>simp[e]at hc';subst hc';exact .d _ _ (h6 A w j y v e hv)) e
  have hrun:=run_build (P:=P) w t (parts.map fun(i,x)=>(i,a.eval x)) cells' (by rw[hb i z _ h1 h2];simpa using g1);exact JY.pure hc (by simp[execOp,ho,hrun]) (JDx g2 g3 g4)
 ·cases hs
theorem JBq{xs:List Dat}(h:Rep A w (.list sz xs) u){k:Nat}(hk:k<xs.length):∃b p cap,u=.slice (some ⟨b,p,none⟩) xs.length cap∧
  Rep A w (.ptr (nth xs k).cells) (.pointer (some ⟨b,p+k*sz,none⟩)):=by
 cases h with
 |emp=>simp at hk
 |list _ _ b p n cap vs hn hA hl hb h1 hsz hh hvl hv=>
  subst hn;have hfl:=JT hsz;have hc:(nth xs k).cells.length=sz:=hsz _ (Yz hk);have hle:k*sz+sz≤vs.length:=by
   rw[←hvl,hfl,←Nat.succ_mul];exact Nat.mul_le_mul_right _ hk
  refine⟨b,p,cap,rfl,.ptr _ b _ ((vs.drop (k*sz)).take sz) hA (fun v hv'=>h1 v (List.mem_of_mem_drop (List.mem_of_mem_take hv'))) ?_ sO ?_⟩
  ·intro i v hi;rw[List.getElem?_take]at hi;split at hi
   ·rw[List.getElem?_drop]at hi;have:=hh _ v hi;rwa[←Nat.add_assoc]at this
   ·cases hi
  ·intro i c v h2 h3;rw[List.getElem?_take]at h3;split at h3
   ·rename_i hlt;rw[List.getElem?_drop]at h3;exact hv (k*sz+i) c v (by rw[JBo hsz hk hlt];exact h2) h3
   ·cases h3
theorem JM4{t e:TypeId}{ag:Bool}(hc:Core β A w H)(ht:UD β A w H τ a)(ho:o.op=.indexAddr t x i)(hu:P.underlying t=some (.slice e))
  (hsz:szT P e=some sz)(hx:opd P t x=some x'){ti:TypeId}(hi:opd P ti i=some i')
  (hs:step τ H (o.dst.getD 0) (.ixa ag sz x' i')=some r)(hC:r.c):JY P a.eval o w β A H r.v r.ups:=by
 have run:∀b p len cap k m,a.eval x=.slice (some ⟨b,p,none⟩) len cap→a.eval i=.int k m→0≤m→m<len→(execOp a.eval o).run P w=.ok (.value (.pointer (some ⟨b,p+m.toNat*sz,none⟩))) w:=by
  intro b p len cap k m hp hq h0 h1;simp[execOp,ho,Instr.indexAt,Sem.run_bind,run_underlying hu,hp,hq,asIntOf,h0,h1,UI hsz,Addr.add_lit]
 simp only[step]at hs;split at hs
 ·rename_i sz' xs k m e1 e2;cases hs;obtain⟨rfl,h0,h1⟩:=hC;have hv:=(JD hx e1 ht).JU;have hw:=(JD hi e2 ht).JU;obtain⟨b,p,cap,g1,g2⟩:=JBq hv (k:=m.toNat) oM;generalize hu2:a.eval i=u2 at*;cases hw;exact JY.pure hc (run b p _ cap _ _ g1 rfl h0 h1) (.d _ _ g2)
 ·rename_i j ver k m e1 e2;have hv:=JD hx e1 ht;have hw:=(JD hi e2 ht).JU;split at hs
  ·rename_i v' sz' xs hrow;cases hs;obtain⟨rfl,rfl,h0,h1⟩:=hC;generalize hu1:a.eval x=u1 at*;generalize hu2:a.eval i=u2 at*;cases hw;cases hv with
   |ms _ _ _ hu3 h3 h4 h5=>
    rcases(h4 _ _ _ hrow).2 rfl with⟨g1,g2,_⟩|⟨b,C,T,fz,cap,g1,g2,g3,g4,g5⟩
    ·omega
    ·refine JY.pure hc (run b 0 _ cap _ _ g5 rfl h0 h1) (.el _ _ _ _ b (m.toNat*sz') _ sP h3 ?_);intro v2 sz2 xs2 hr2;rw[hrow]at hr2;cases hr2;exact⟨Nat.le_refl _,fun _=>⟨oM,g1,rfl⟩⟩
  ·rename_i v' sz' xs hf;cases hs;obtain⟨rfl,rfl,h0,h1⟩:=hC;generalize hu1:a.eval x=u1 at*;generalize hu2:a.eval i=u2 at*;cases hw;cases hv with
   |ms _ _ _ hu3 h3 h4 h5=>
    obtain⟨b,p,cap,g1,g2⟩:=JBq (h5 _ _ hf) (k:=m.toNat) oM;exact JY.pure hc (run b p _ cap _ _ g1 rfl h0 h1) (.d _ _ g2)
  ·cases hs
 ·rename_i j ver off len k m e1 e2;have hv:=JD hx e1 ht;have hw:=(JD hi e2 ht).JU;split at hs
  ·rename_i v' sz' xs hrow;cases hs;obtain⟨rfl,rfl,h0,h1⟩:=hC;generalize hu1:a.eval x=u1 at*;generalize hu2:a.eval i=u2 at*;cases hw;cases hv with
   |sub _ _ _ _ _ hu3 h3 h4 h5=>
    obtain⟨hol,hsub⟩:=(h4 _ _ _ hrow).2 rfl;rcases hsub with⟨g1,g2,g3,_⟩|⟨b,C,T,fz,cap,ad,g1,g2,g3,g4,g5,g6⟩
    ·omega
    ·rw[g5 oM]at g6;refine JY.pure hc (run b _ _ _ _ _ g6 rfl h0 h1) (.el _ _ _ _ b ((off+m.toNat)*sz') _ (by simp[Nat.add_mul]) h3 ?_);intro v2 sz2 xs2 hr2;rw[hrow]at hr2;cases hr2;exact⟨Nat.le_refl _,fun _=>⟨oM,g1,rfl⟩⟩
  ·cases hs
 ·rename_i j h k m e1 e2;have hv:=JD hx e1 ht;have hw:=(JD hi e2 ht).JU;split at hs
  ·rename_i c s sz' ys ek er;cases hs;obtain⟨hcc,rfl,h0,h1⟩:=hC;obtain⟨v0,szr,xs,u0,u1,F1,hh,q1,q2,hn,r1,r2,o1,o2,r3⟩:=JGX hc hv er hcc;rw[ek]at r3;obtain⟨b,C,T,cap,Fs,g1,_⟩:=Ya o2 oM;generalize hu1:a.eval x=w1 at*;generalize hu2:a.eval i=w2 at*;cases hw;have r3':w1=u1:=r3;refine JY.pure hc (run b 0 _ cap _ _ (r3'.trans g1) rfl h0 h1) (.tr _ _ _ rfl (by rw[hh];rfl) (fun _=>⟨_,_,rfl⟩) ?_);intro v2 s2 sz2 xs2 hr2;rw[hh]at hr2;cases hr2;exact⟨by rw[q1];exact Nat.le_refl _,Nat.le_refl _,fun _ _=>⟨u0,u1,r1,r2,b,_,cap,_,ys,g1,hn,oM,sP⟩⟩
  ·cases hs
 ·cases hs
theorem JM5{t e:TypeId}{len:Nat}(hc:Core β A w H)(ht:UD β A w H τ a)(ho:o.op=.indexAddr t x i)(hu:P.underlying t=some (.array len e))
  (hsz:szT P e=some sz)(hx:opd P t x=some x'){ti:TypeId}(hi:opd P ti i=some i')
  (hs:step τ H (o.dst.getD 0) (.ixr len sz x' i')=some r)(hC:r.c):JY P a.eval o w β A H r.v r.ups:=by
 simp only[step]at hs;split at hs
 ·rename_i j off k m e1 e2;cases hs;obtain⟨h0,h1⟩:=hC;have hv:=JD hx e1 ht;have hw:=(JD hi e2 ht).JU;generalize hu1:a.eval x=u1 at*;generalize hu2:a.eval i=u2 at*;cases hw;cases hv with
  |ref _ _ b p _ hu3 h3 h4 h5=>
   refine JY.pure hc (u:=.pointer (some ⟨b,p+(off+m.toNat*sz),none⟩)) ?_ (.ref _ _ b p _ rfl h3 h4 ?_)
   ·simp[execOp,ho,Instr.indexAt,Sem.run_bind,run_underlying hu,hu1,hu2,hu3,asIntOf,Instr.sureAddr,h0,h1,UI hsz,Addr.add_lit,Nat.add_assoc]
   ·intro ds hds;obtain⟨b',p',q1,q2⟩:=(h5 ds hds).ZX (m.toNat*sz);rw[hu3]at q1;cases q1;rw[List.drop_drop,Nat.add_assoc]at q2;exact q2
 ·rename_i cs k m e1 e2;cases hs;obtain⟨h0,h1⟩:=hC;have hv:=(JD hx e1 ht).JU;have hw:=(JD hi e2 ht).JU;generalize hu1:a.eval x=u1 at*;generalize hu2:a.eval i=u2 at*;cases hw;obtain⟨b,p,q1,q2⟩:=hv.ZX (m.toNat*sz);refine JY.pure hc (u:=.pointer (some ⟨b,p+m.toNat*sz,none⟩)) ?_ (.d _ _ q2);simp[execOp,ho,Instr.indexAt,Sem.run_bind,run_underlying hu,hu1,hu2,q1,asIntOf,Instr.sureAddr,h0,h1,UI hsz,Addr.add_lit,Nat.add_assoc]
 ·rename_i g k m e1 e2;split at hs
  ·rename_i cs hg;cases hs;obtain⟨h0,h1⟩:=hC;have hv:=(JD hx e1 ht).JU;have hw:=(JD hi e2 ht).JU;generalize hu1:a.eval x=u1 at*;generalize hu2:a.eval i=u2 at*;cases hw;cases hv;obtain⟨b,p,q1,q2⟩:=(hc.glob g cs hg).rep.ZX (m.toNat*sz);cases q1;refine JY.pure hc (u:=.pointer (some ⟨g,0+m.toNat*sz,none⟩)) ?_ (.d _ _ q2);simp[execOp,ho,Instr.indexAt,Sem.run_bind,run_underlying hu,hu1,hu2,asIntOf,Instr.sureAddr,h0,h1,UI hsz,Addr.add_lit,Nat.add_assoc]
  ·cases hs
 ·cases hs
end
end Av
namespace Av
open Go
variable [Glb][Rls]
variable {lo hi:Option Operand}
section
variable {P:Program}{β:JM}{A:Nat→Prop}{w:World}{H:Heap}{τ:UX}{a:Act}{o:Oper}
theorem Ua:∀(H:Heap) (u u':List (Nat×Obj)),JA H (u++u')=JA (JA H u) u'
 |_,[],_=>rfl
 |H,(i,o)::r,u'=>Ua (upd H i (some o)) r u'
theorem Zb{t:TypeId}{dflt l:Int}{x:Option Operand}{x':Option Opd}(hx:ZB P t x=some x')(h:UY τ dflt x'=some l)(ht:UD β A w H τ a):
  (x=none∧l=dflt)∨∃y k,x=some y∧a.eval y=.int k l:=by
 cases x with
 |none=>simp[ZB]at hx;subst hx;simp[UY]at h;exact .inl ⟨rfl,h.symm⟩
 |some y=>
  simp only[ZB]at hx;cases e:opd P t y with
  |none=>simp[e]at hx
  |some y'=>
   simp[e]at hx;subst hx;simp only[UY]at h;split at h
   ·rename_i k n e2;cases h;have hv:=(JD e e2 ht).JU;refine .inr ⟨y,k,rfl,?_⟩;generalize a.eval y=u at*;cases hv;rfl
   ·cases h
theorem JAe{v:Value}{k:IntKind}{n:Int}{y:Nat}(code:BoundsCode)(hv:v=.int k n)(h0:0≤n)(h1:n≤y)(w:World):(Instr.sliceBound v y code).run P w=.ok n.toNat w:=by
 simp[Instr.sliceBound,hv,asIntOf,h0,h1]
theorem JD0{isSlice:Bool}{len cap:Nat}{l h:Int}(hl:(lo=none∧l=0)∨∃y k,lo=some y∧a.eval y=.int k l)
  (hh:(hi=none∧h=len)∨∃y k,hi=some y∧a.eval y=.int k h)(h0:0≤l)(h1:l≤h)(h2:h≤cap)(w:World):
  (Instr.sliceBounds isSlice len cap (lo.map a.eval) (hi.map a.eval) none).run P w=.ok (l.toNat,h.toNat,cap) w:=by
 have hc:h≤(cap:Int):=h2;have hl2:l≤(h.toNat:Int):=oM;rcases hl with⟨rfl,rfl⟩|⟨y,k,rfl,hy⟩<;>rcases hh with⟨rfl,rfl⟩|⟨z,k',rfl,hz⟩
 ·simp[Instr.sliceBounds]
 ·simp[Instr.sliceBounds,JAe (P:=P) _ hz oM hc]
 ·simp[Instr.sliceBounds,JAe (P:=P) _ hy h0 (show l≤((len:Nat):Int) by simpa using h1)]
 ·simp[Instr.sliceBounds,Sem.run_bind,JAe (P:=P) _ hz oM hc,JAe (P:=P) _ hy h0 hl2]
theorem JM6{t:TypeId}{x:Operand}{x':Opd}{lo' hi':Option Opd}{ti:TypeId}{r:Res}(hc:Core β A w H)(ht:UD β A w H τ a)(ho:o.op=.slice t x lo hi none)(hu:P.underlying t=some .string)
  (hx:opd P t x=some x')(hlo:ZB P ti lo=some lo')(hhi:ZB P ti hi=some hi')(hs:step τ H (o.dst.getD 0) (.sls x' lo' hi')=some r)(hC:r.c):JY P a.eval o w β A H r.v r.ups:=by
 simp only[step]at hs;split at hs
 ·rename_i s e;split at hs
  ·rename_i l h e1 e2;cases hs;obtain⟨h0,h1,h2⟩:=hC;have hv:=(JD hx e ht).JU;have b1:=Zb hlo e1 ht;have b2:=Zb hhi e2 ht;generalize hue:a.eval x=u at*;cases hv with
   |str _ hl=>
    have hb:=JD0 (P:=P) (isSlice:=false) (len:=s.length) (cap:=s.length) b1 b2 h0 h1 h2 w;have hd:((s.drop l.toNat).take (h-l).toNat).length≤68719476736:=sO;refine JY.pure hc (u:=.string ⟨((s.drop l.toNat).take (h-l).toNat).toArray⟩) ?_ (.d _ _ (.str _ hd));have hsz:(⟨s.toArray⟩:ByteArray).size=s.length:=by simp[ByteArray.size]
    simp only[execOp,ho,Instr.sliceAt,Instr.slice,Sem.run_bind,run_underlying hu,hue,Result.andThen_ok,Option.map_none,Option.isSome_none,Vu,if_false,hsz,hb];have hh:(h-l).toNat=h.toNat-l.toNat:=oM;simp[ByteArray.extract_mk,hh]
  ·cases hs
 ·cases hs
theorem Rep.slice{sz:Nat}{xs:List Dat}{u:Value}(h:Rep A w (.list sz xs) u){l n:Nat}(hln:l+n≤xs.length):
  ∃ad cap,u=.slice ad xs.length cap∧xs.length≤cap∧∀u',(∃ad',u'=.slice ad' n (cap-l)∧(l<cap→ad'=ad.map (·.add (l*sz))))→Rep A w (.list sz ((xs.drop l).take n)) u':=by
 cases h with
 |emp _ ad cap=>
  refine⟨ad,cap,rfl,sP,?_⟩;rintro u' ⟨ad',rfl,_⟩;have hn:n=0:=by simp at hln;omega
  subst hn;simpa using Rep.emp sz ad' (cap-l)
 |list _ _ b p m cap vs hm hA hl hb h1 hsz hh hvl hv=>
  subst hm;refine⟨_,cap,rfl,hl,?_⟩;rintro u' ⟨ad',rfl,hap⟩;by_cases hn:n=0
  ·subst hn;simpa using Rep.emp sz ad' (cap-l)
  ·have:ad'=some ⟨b,p+l*sz,none⟩:=by rw[hap oM];simp[Addr.add_lit]
   subst this;have hlen:((xs.drop l).take n).length=n:=sO;have hsz':∀x∈(xs.drop l).take n,x.cells.length=sz:=fun x hx=>hsz x (JA1 hx)
   have hfe:flat ((xs.drop l).take n)=((flat xs).drop (l*sz)).take (n*sz):=by
    rw[JAd n fun x hx=>hsz x (List.mem_of_mem_drop hx),JAc l hsz]
   have hfl':=JT hsz';rw[hlen]at hfl';have hfl:=JT hsz;have hxs:(l+n)*sz≤(flat xs).length:=by rw[hfl];exact Nat.mul_le_mul_right _ hln
   rw[Nat.add_mul]at hxs;refine .list sz _ b (p+l*sz) n (cap-l) ((vs.drop (l*sz)).take (n*sz)) hlen.symm hA oM oM (fun v hv'=>h1 v (mem_drop_take' hv')) hsz' ?_ ?_ ?_
   ·intro i v hi;rw[List.getElem?_take]at hi;split at hi
    ·rw[List.getElem?_drop]at hi;have:=hh _ v hi;rwa[←Nat.add_assoc]at this
    ·cases hi
   ·rw[hfl'];simp;omega
   ·intro i c v h2 h3;rw[hfe,List.getElem?_take]at h2;rw[List.getElem?_take]at h3;split at h2
    ·rename_i hlt;rw[if_pos hlt,List.getElem?_drop]at h3;rw[List.getElem?_drop]at h2;exact hv _ c v h2 h3
    ·cases h2
where
 mem_drop_take' {α:Type} {x:α} {xs:List α} {i n:Nat} (h:x∈(xs.drop i).take n):x∈xs:=List.mem_of_mem_drop (List.mem_of_mem_take h)
theorem Rep.full{sz:Nat}{xs:List Dat}{u:Value}(h:Rep A w (.list sz xs) u):∃ad cap,u=.slice ad xs.length cap∧xs.length≤cap∧∀ad',ad'=ad∨ad'=ad.map (·.add 0)→Rep A w (.list sz xs) (.slice ad' xs.length xs.length):=by
 cases h with
 |emp _ ad cap=>exact⟨ad,cap,rfl,sP,fun ad' _=>.emp _ _ _⟩
 |list _ _ b o n cap vs hn hA hl hc h1 hsz hh hvl hv=>
  subst hn;refine⟨_,cap,rfl,hl,fun ad' h=>?_⟩;have:ad'=some ⟨b,o,none⟩:=by
   rcases h with rfl|rfl
   ·rfl
   ·simp[Addr.add_lit]
  subst this;exact .list sz xs b o _ _ vs rfl hA (Nat.le_refl _) hc h1 hsz hh hvl hv
theorem JM7{t e:TypeId}{x:Operand}{mx:Option Operand}{x':Opd}{lo' hi' mx':Option Opd}{ti:TypeId}{n:Nat}{r:Res}(hc:Core β A w H)(ht:UD β A w H τ a)(ho:o.op=.slice t x lo hi mx)(hu:P.underlying t=some (.slice e))
  (hn:szT P e=some n)(hx:opd P t x=some x')(hlo:ZB P ti lo=some lo')(hhi:ZB P ti hi=some hi')(hmx:ZB P ti mx=some mx')
  (hs:step τ H (o.dst.getD 0) (.slc n x' lo' hi' mx')=some r)(hC:r.c):JY P a.eval o w β A H r.v r.ups:=by
 simp only[step]at hs;cases ev:val τ x' with
 |none=>simp[ev]at hs
 |some v=>
  simp only[ev]at hs;have hv:=JD hx ev ht;cases el:UG H v with
  |none=>simp[el]at hs
  |some p=>
   obtain⟨sz,xs⟩:=p;simp only[el]at hs;have run:∀(ad:Option Addr) (cap:Nat) (l h:Int),a.eval x=.slice ad xs.length cap→xs.length≤cap→mx=none→((lo=none∧l=0)∨∃y k,lo=some y∧a.eval y=.int k l)→((hi=none∧h=xs.length)∨∃y k,hi=some y∧a.eval y=.int k h)→
     0≤l→l≤h→h≤(xs.length:Int)→
     (execOp a.eval o).run P w=.ok (.value (.slice (if cap=l.toNat then ad else ad.map (·.add (l.toNat*n))) (h-l).toNat (cap-l.toNat))) w:=by
    intro ad cap l h hue hle hm b1 b2 h0 h1 h2;subst hm;have hb:=JD0 (P:=P) (isSlice:=true) (len:=xs.length) (cap:=cap) b1 b2 h0 h1 oM w;simp only[execOp,ho,Instr.sliceAt,Instr.slice,Sem.run_bind,run_underlying hu,hue,Result.andThen_ok,Option.map_none,hb,UI hn];have hh:(h-l).toNat=h.toNat-l.toNat:=oM;simp[hh]
   split at hs
   ·
    have hmx0:mx=none:=by
     cases mx with
     |none=>rfl
     |some m=>simp only[ZB]at hmx;cases em:opd P ti m<;>simp[em]at hmx
    split at hs
    ·rename_i l h e1 e2;have b1:=Zb hlo e1 ht;have b2:=Zb hhi e2 ht;split at hs
     ·rename_i d;cases hs;obtain⟨rfl,h0,h1,h2⟩:=hC;have hrep:Rep A w (.list sz xs) (a.eval x):=by
       have hd:=hv.JU;generalize a.eval x=u at*;cases d with
       |list=>cases el;exact hd
       |nil=>
        cases el;cases hd with
        |nil _ ad=>exact .emp _ ad 0
       |_=>simp[UG]at el
      obtain⟨ad,cap,g1,g2,g3⟩:=hrep.slice (l:=l.toNat) (n:=(h-l).toNat) oM;refine JY.pure hc (run ad cap l h g1 g2 hmx0 b1 b2 h0 h1 h2) (.d _ _ (g3 _ ⟨_,rfl,fun hlt=>?_⟩));rw[if_neg oM]
     ·rename_i i ver;cases hs;obtain⟨hcur,rfl,h0,h1,h2⟩:=hC;simp only[UG]at el;split at el
      ·rename_i v' sz' xs' hrow;cases el;simp only[curr,hrow]at hcur;subst hcur;generalize hue:a.eval x=u at*;cases hv with
       |ms _ _ _ hu3 h3 h4 h5=>
        rcases(h4 _ _ _ hrow).2 rfl with⟨q1,q2,ad,q3⟩|⟨b,C,T,fz,cap,q1,q2,q3,q4,q5⟩
        ·refine JY.pure hc (run ad 0 l h (by rw[q3,q2]) oM hmx0 b1 b2 h0 h1 h2) (.sub _ _ _ _ _ rfl h3 ?_ (by rw[hrow];simp));intro v2 sz2 xs2 hr2;rw[hrow]at hr2;cases hr2;have:l=0:=oM;have:h=0:=oM;subst l h;exact⟨Nat.le_refl _,fun _=>⟨sP,.inl ⟨q1,rfl,rfl,ad,sP⟩⟩⟩
        ·refine JY.pure hc (run _ cap l h q5 q4 hmx0 b1 b2 h0 h1 h2) (.sub _ _ _ _ _ rfl h3 ?_ (by rw[hrow];simp));intro v2 sz2 xs2 hr2;rw[hrow]at hr2;cases hr2;refine⟨Nat.le_refl _,fun _=>⟨oM,.inr ⟨b,C,T,fz,cap,if cap=l.toNat then⟨b,0,none⟩else⟨b,l.toNat*sz,none⟩,q1,q2,q3,oM,fun hlt=>by rw[if_neg oM],?_⟩⟩⟩;split<;>simp[Addr.add_lit]
      ·rename_i v' sz' xs' hf;cases el;simp only[curr,hf]at hcur;subst hcur;generalize hue:a.eval x=u at*;cases hv with
       |ms _ _ _ hu3 h3 h4 h5=>
        obtain⟨ad,cap,g1,g2,g3⟩:=(h5 _ _ hf).slice (l:=l.toNat) (n:=(h-l).toNat) oM;refine JY.pure hc (run ad cap l h g1 g2 hmx0 b1 b2 h0 h1 h2) (.sub _ _ _ _ _ rfl h3 (by rw[hf];simp) ?_);intro sz2 xs2 hr2;rw[hf]at hr2;cases hr2;exact g3 _ ⟨_,rfl,fun hlt=>by rw[if_neg oM]⟩
      ·cases el
     ·rename_i i ver off len;cases hs;obtain⟨hcur,rfl,h0,h1,h2⟩:=hC;simp only[UG]at el;split at el
      ·rename_i v' sz' xs' hrow;cases el;simp only[curr,hrow]at hcur;subst hcur;generalize hue:a.eval x=u at*;cases hv with
       |sub _ _ _ _ _ hu3 h3 h4 h5=>
        obtain⟨hol,hsub⟩:=(h4 _ _ _ hrow).2 rfl;have hlen':((xs'.drop off).take len).length=len:=sO;rw[hlen']at run h2 b2;rcases hsub with⟨q1,q2,q3,ad,q4⟩|⟨b,C,T,fz,cap,ad,q1,q2,q3,q4,q5,q6⟩
        ·refine JY.pure hc (run ad 0 l h (by rw[q4,q3]) oM hmx0 b1 b2 h0 h1 h2) (.sub _ _ _ _ _ rfl h3 ?_ (by rw[hrow];simp));intro v2 sz2 xs2 hr2;rw[hrow]at hr2;cases hr2;have:l=0:=oM;have:h=0:=oM;subst l h;exact⟨Nat.le_refl _,fun _=>⟨by simp[q2],.inl ⟨q1,by simp[q2],rfl,ad,sP⟩⟩⟩
        ·refine JY.pure hc (run _ (cap-off) l h q6 oM hmx0 b1 b2 h0 h1 h2) (.sub _ _ _ _ _ rfl h3 ?_ (by rw[hrow];simp));intro v2 sz2 xs2 hr2;rw[hrow]at hr2;cases hr2;refine⟨Nat.le_refl _,fun _=>⟨oM,.inr ⟨b,C,T,fz,cap,if cap-off=l.toNat then ad else ad.add (l.toNat*sz),q1,q2,q3,oM,fun hlt=>by rw[if_neg oM,q5 oM,Addr.add_lit,Nat.add_mul],?_⟩⟩⟩;rw[show cap-off-l.toNat=cap-(off+l.toNat) by omega];split<;>simp
      ·rename_i v' sz' xs' hf;cases el;simp only[curr,hf]at hcur;subst hcur;generalize hue:a.eval x=u at*;cases hv with
       |sub _ _ _ _ _ hu3 h3 h4 h5=>
        obtain⟨ad,cap,g1,g2,g3⟩:=(h5 _ _ hf).slice (l:=l.toNat) (n:=(h-l).toNat) oM;refine JY.pure hc (run ad cap l h g1 g2 hmx0 b1 b2 h0 h1 h2) (.sub _ _ _ _ _ rfl h3 (by rw[hf];simp) ?_);intro sz2 xs2 hr2;rw[hf]at hr2;cases hr2;have:=g3 (.slice (if cap=l.toNat then ad else ad.map (·.add (l.toNat*sz))) (h-l).toNat (cap-l.toNat)) ⟨_,rfl,fun hlt=>by rw[if_neg oM]⟩;rw[List.drop_take,List.drop_drop,List.take_take]at this;rw[show min (h-l).toNat (len-l.toNat)=(h-l).toNat by simp at h2;omega]at this;exact this
      ·cases el
     ·cases hs
    ·cases hs
   ·rename_i k;split at hs
    ·cases hs;have hlo0:lo=none:=by
      cases lo with
      |none=>rfl
      |some m=>simp only[ZB]at hlo;cases em:opd P ti m<;>simp[em]at hlo
     have h0:∀{z:Option Operand} {k:IntKind},ZB P ti z=some (some (.k (.int k 0)))→∃y k',z=some y∧a.eval y=.int k' 0:=by
      intro z k hz;cases z with
      |none=>simp[ZB]at hz
      |some y=>
       simp only[ZB]at hz;cases em:opd P ti y with
       |none=>simp[em]at hz
       |some y'=>
        simp[em]at hz;subst hz;have:=(JD (τ:=τ) (v:=.d (.int k 0)) em rfl ht).JU;refine⟨y,k,rfl,?_⟩;generalize a.eval y=u at*;cases this;rfl
     obtain⟨y1,k1,rfl,hy1⟩:=h0 hhi;obtain⟨y2,k2,rfl,hy2⟩:=h0 hmx;subst hlo0;obtain⟨vs,sv⟩:=Uo hc el hC hv;obtain⟨ad,cap,g1,g2,_⟩:=sv.ex;refine JY.pure hc (u:=.slice ad 0 0) ?_ (.d _ _ (.nil _ _));simp[execOp,ho,Instr.sliceAt,Instr.slice,Instr.sliceBounds,Instr.sliceBound,Sem.run_bind,run_underlying hu,g1,hy1,hy2,asIntOf,UI hn]
    ·cases hs
   ·rename_i mo;split at hs
    ·rename_i ho';split at hs
     ·rename_i k1 m k2 h d em eh;cases hs;obtain⟨rfl,rfl,rfl⟩:=hC;have hlo0:lo=none:=by
       cases lo with
       |none=>rfl
       |some m=>simp only[ZB]at hlo;cases em:opd P ti m<;>simp[em]at hlo
      have h0:∀{z:Option Operand} {q k:_} {n:Int},ZB P ti z=some (some (.t q))→τ q=some (.d (.int k n))→∃y,z=some y∧a.eval y=.int k n:=by
       intro z q k n hz hq;cases z with
       |none=>simp[ZB]at hz
       |some y=>
        simp only[ZB]at hz;cases em:opd P ti y with
        |none=>simp[em]at hz
        |some y'=>
         simp[em]at hz;subst hz;have:=(JD (τ:=τ) (v:=.d (.int k n)) em hq ht).JU;refine⟨y,rfl,?_⟩;generalize a.eval y=u at*;cases this;rfl
      obtain⟨y1,rfl,hy1⟩:=h0 hhi eh;obtain⟨y2,rfl,hy2⟩:=h0 hmx em;subst hlo0;have hrep:Rep A w (.list sz xs) (a.eval x):=by
       have hd:=hv.JU;generalize a.eval x=u at*;cases d with
       |list=>cases el;exact hd
       |nil=>
        cases el;cases hd with
        |nil _ ad=>exact .emp _ ad 0
       |_=>simp[UG]at el
      obtain⟨ad,cap,g1,g2,g3⟩:=hrep.full;refine JY.pure hc (u:=.slice (if xs.length=0 then ad else ad.map (·.add (0*sz))) xs.length xs.length) ?_ (.ful _ _ _ ?_ ⟨_,_,rfl⟩)
      ·simp[execOp,ho,Instr.sliceAt,Instr.slice,Instr.sliceBounds,Instr.sliceBound,Sem.run_bind,run_underlying hu,g1,hy1,hy2,asIntOf,UI hn,g2]
      ·rw[Nat.zero_mul];split<;>exact g3 _ (by first|exact .inl rfl|exact .inr rfl)
     ·cases hs
    ·cases hs
   ·cases hs
end
end Av
namespace Av
open Go
variable [Glb][Rls]
variable {d:Nat}{r:Res}{x:Operand}{x':Opd}{n:Option Nat}
section
variable {P:Program}{β:JM}{A:Nat→Prop}{w:World}{H:Heap}{τ:UX}{a:Act}{o:Oper}
theorem alloc_old(w:World)(x:Go.Obj){b:Nat}(h:b<w.heap.size):(w.alloc x).heap[b]? =w.heap[b]? :=by
 show(w.heap.push x)[b]? =_;rw[Array.getElem?_push,if_neg oM]
theorem US(w:World)(x:Go.Obj):(w.alloc x).heap[w.heap.size]? =some x:=by
 show(w.heap.push x)[w.heap.size]? =_;simp
theorem Stp.alloc(hc:Core β A w H){i:Nat}(hn:H i=none)(x:Go.Obj)(o':Obj)
  (hobj:(∀c u,VRep β A w H c u→VRep (upd β i (some w.heap.size)) A (w.alloc x) (upd H i (some o')) c u)→JBC (upd β i (some w.heap.size)) A (w.alloc x) (upd H i (some o')) i o')
  (hnt':∀a b c d,o'≠ .tre a b c d:=by intros;nofun):
  Stp β A w H (upd β i (some w.heap.size)) A (w.alloc x) (upd H i (some o')):=
 Stp.one hc i o' (some w.heap.size) rfl rfl rfl sP (fun b hb _=>alloc_old w x hb) (fun _ h=>h) (fun _ h=>.inl h) (fun b h=>by have:=hc.old b h;simp;omega)
  (fun b hb _=>by cases hb;exact⟨.inl (Nat.le_refl _),fun h=>by have:=hc.old _ h;omega⟩)
  (fun c u hcase hv=>by
   exfalso;rcases hcase with⟨off,rfl⟩|⟨ver,rfl⟩|⟨ver,off,len,rfl⟩|⟨ver,k,off,rfl⟩|rfl<;>cases hv<;>simp_all)
  hobj (hnt':=hnt')
theorem Stp.allocD(hc:Core β A w H)(x:Go.Obj):Stp β A w H β (fun b=>A b∨b=w.heap.size) (w.alloc x) H:=
 Stp.new hc rfl rfl rfl sP (fun b hb=>alloc_old w x hb) (fun _ h=>.inl h) (fun b h=>by rcases h with h|h;exact .inl h;exact .inr oM)
  (fun b h=>by rcases h with h|h;(have:=hc.old b h;simp;omega);(simp;omega))
theorem JM8{e:TypeId}{zs:List Dat}(hc:Core β A w H)(ho:o.op=.alloc e)(hz:zsT P e=some zs)(hs:step τ H d (.new zs)=some r):JY P a.eval o w β A H r.v r.ups:=by
 simp only[step]at hs;split at hs
 ·rename_i hn;cases hs;obtain⟨i,z,h1,h2,h3,h4,h5,h6⟩:=JGY hz;refine⟨.pointer (some ⟨w.heap.size,0,none⟩),_,A,w.alloc (.cells z.cells e),.inl ?_,Stp.alloc hc hn _ _ fun hv=>?_,?_⟩
  ·simp[execOp,ho,Instr.alloc,Sem.run_bind,Ux h1 h2,newVar,newRow]
  ·refine⟨w.heap.size,z.cells,e,JB _ _ _,US _ _,by simpa using h4,h5,?_⟩;intro j c v hc' hv';rw[Vo]at hc';cases e1:zs[j]? with
   |none=>simp[e1]at hc'
   |some y=>simp[e1]at hc';subst hc';exact .d _ _ (h6 _ _ j y v e1 hv')
  ·refine .ref _ _ w.heap.size 0 _ rfl (by simp[JA,upd]) (fun cs _=>⟨JB _ _ _,rfl⟩) (by simp[JA,upd])
 ·cases hs
theorem JM9{e:TypeId}(hc:Core β A w H)(ht:UD β A w H τ a)(ho:o.op=.box e x)(hx:opd P e x=some x')(hs:step τ H d (.box x')=some r):
  JY P a.eval o w β A H r.v r.ups:=by
 simp only[step]at hs;split at hs
 ·rename_i v hn ev;split at hs
  ·rename_i cs ec;cases hs;obtain⟨h1,h2,h3⟩:=(JD hx ev ht).XP ec;refine⟨.pointer (some ⟨w.heap.size,0,none⟩),_,A,w.alloc (.cells (a.eval x).cells e),.inl ?_,Stp.alloc hc hn _ _ fun hv=>?_,?_⟩
   ·simp[execOp,ho,Instr.box,newVar,newRow]
   ·exact⟨w.heap.size,_,e,JB _ _ _,US _ _,h1,h2,fun j c u hc' hu=>hv _ _ (h3 j c u hc' hu)⟩
   ·refine .ref _ _ w.heap.size 0 _ rfl (by simp[JA,upd]) (fun cs _=>⟨JB _ _ _,rfl⟩) (by simp[JA,upd])
  ·cases hs
 ·cases hs
theorem Ur{t:TypeId}(h:shT P t=some n){b p:Nat}(w:World):
  (n=none→∀v,w.cell? ⟨b,p,none⟩=some v→(loadVar t ⟨b,p,none⟩).run P w=.ok v w)∧
  (∀k vs,n=some k→vs.length=k→Holds w b p vs→(loadVar t ⟨b,p,none⟩).run P w=.ok (.agg vs.toArray) w):=by
 rcases JCU h with⟨rfl,h1,h2⟩|⟨k,rfl,h1,h2⟩
 ·refine⟨fun _ v hv=>by simp[loadVar,Sem.run_bind,Yb h1,hv],sP⟩
 ·refine⟨sP,fun k' vs e hl hh=>?_⟩;cases e;subst hl;have:=run_loadCells_list (P:=P) w ⟨b,p,none⟩ vs (fun j v hj=>by rw[Addr.add_lit];exact hh j v hj);simp[loadVar,Sem.run_bind,Yb h1,UI h2,this]
theorem Rep.load{cs:List Dat}{u:Value}{t:TypeId}(h:Rep A w (.ptr cs) u)(hn:shT P t=some n):
  ∃b p,u=.pointer (some ⟨b,p,none⟩)∧(n=none→0<cs.length→∃v,(loadVar t ⟨b,p,none⟩).run P w=.ok v w∧Rep A w (cs.getD 0 .opq) v)∧
   (∀k,n=some k→k≤cs.length→∃v,(loadVar t ⟨b,p,none⟩).run P w=.ok v w∧Rep A w (.agg (cs.take k)) v):=by
 cases h with
 |ptr _ b p vs hA h1 hh hvl hv=>
  refine⟨b,p,rfl,?_,?_⟩
  ·intro hnn h0;have hv0:vs[0]? =some (vs[0]'oM):=sP;have hc0:cs[0]? =some (cs.getD 0 .opq):=by simp[h0]
   exact⟨_,(Ur hn w).1 hnn _ (hh 0 _ hv0),hv 0 _ _ hc0 hv0⟩
  ·intro k hk hle;refine⟨_,(Ur hn w).2 k (vs.take k) hk sO ?_,.agg _ _ sO ?_ ?_⟩
   ·intro i v hi;rw[List.getElem?_take]at hi;split at hi
    ·exact hh i v hi
    ·cases hi
   ·intro v hv';exact h1 v (List.mem_of_mem_take (by simpa using hv'))
   ·intro i c v hc' hv';rw[List.getElem?_take]at hc';simp only[List.getElem?_toArray,List.getElem?_take]at hv';split at hc'
    ·rename_i hlt;rw[if_pos hlt]at hv';exact hv i c v hc' hv'
    ·cases hc'
theorem ld_ok{t:TypeId}(hc:Core β A w H)(ht:UD β A w H τ a)(ho:o.op=.load t x)(hn:shT P t=some n)(hx:opd P t x=some x')
  (hs:step τ H d (.ld n x')=some r)(hC:r.c):∃u,(execOp a.eval o).run P w=.ok (.value u) w∧VRep β A w H r.v u∧r.ups=[]:=by
 have run:∀b p v,a.eval x=.pointer (some ⟨b,p,none⟩)→(loadVar t ⟨b,p,none⟩).run P w=.ok v w→(execOp a.eval o).run P w=.ok (.value v) w:=by
  intro b p v hp hv;simp[execOp,ho,Instr.loadAt,hp,Instr.sureAddr,hv]
 have fromBox:∀{i off:Nat} {cs:List Av} {u:Value},H i=some (.box cs)→VRep β A w H (.ref i off) u→∃b C,u=.pointer (some ⟨b,off,none⟩)∧cs.length=C.size∧(∀v∈C.toList,v.oneCell'=true)∧
   (∀(j:Nat) c v,cs[j]? =some c→C[j]? =some v→VRep β A w H c v)∧∃T,w.heap[b]? =some (.cells C T (0,0)):=by
  intro i off cs u hi hv;obtain⟨b,C,T,e1,e2,e3,e4,e5⟩:=hc.objs i _ hi;cases hv with
  |ref _ _ b' p _ hu h0 h1 h2=>
   obtain⟨g1,rfl⟩:=h1 _ hi;rw[g1]at e1;cases e1;exact⟨_,C,by rw[hu];simp,e3,e4,e5,T,e2⟩
 simp only[step]at hs;split at hs
 ·rename_i i off ev;have hv:=JD hx ev ht;split at hs
  ·
   rename_i cs hi;split at hs
   ·rename_i c hcs;cases hs;obtain⟨b,C,g1,g2,g3,g4,T,g5⟩:=fromBox hi hv;have hlt:=(VB.1 hcs).1;have hC1:C[off]? =some (C[off]'oM):=by simp[show off<C.size by omega]
    have hcell:w.cell? ⟨b,off,none⟩=some (C[off]'oM):=by simp[World.cell?,g5,hC1]
    exact⟨_,(run b off _ g1 ((Ur hn w).1 rfl _ hcell)),(g4 off c _ hcs hC1),rfl⟩
   ·cases hs
  ·rename_i cs k hi;split at hs
   ·rename_i hle;cases hs;obtain⟨b,C,g1,g2,g3,g4,T,g5⟩:=fromBox hi hv;have hh:=holds_of_block g5 off k;have hlen:((C.toList.drop off).take k).length=k:=sO;have hv2:=VRep.seg (β:=β) (A:=A) (w:=w) (H:=H) g2 g3 g4 hle;refine⟨_,(run b off _ g1 ((Ur hn w).2 k _ rfl hlen hh)),?_,rfl⟩;have:((C.toList.drop off).take k).toArray=C.extract off (off+k):=by apply Array.ext';simp
    rw[this];exact hv2
   ·cases hs
  ·rename_i ds hi;cases hs;cases hv with
   |ref _ _ b p _ hu h0 h1 h2=>
    obtain⟨b',p',q1,q2,_⟩:=(h2 _ hi).load hn;obtain⟨v,q3,q4⟩:=q2 rfl sO;refine⟨_,(run b' p' _ q1 q3),(.d _ _ ?_),rfl⟩;simpa[List.getD_eq_getElem?_getD]using q4
  ·rename_i ds k hi;cases hs;cases hv with
   |ref _ _ b p _ hu h0 h1 h2=>
    obtain⟨b',p',q1,_,q2⟩:=(h2 _ hi).load hn;obtain⟨v,q3,q4⟩:=q2 k rfl sO;exact⟨_,(run b' p' _ q1 q3),(.d _ _ q4),rfl⟩
  ·cases hs
 ·rename_i i ver k off ev;have hv:=JD hx ev ht;have fromRow:∀{v' sz:Nat} {xs:List Dat},H i=some (.row v' sz xs)→ver=v'→∃b,a.eval x=.pointer (some ⟨b,k*sz+off,none⟩)∧
    (∀j c,(nth xs k).cells[j]? =some c→∃v,w.cell? ⟨b,k*sz+j,none⟩=some v∧v.oneCell'=true∧Rep A w c v):=by
   intro v' sz xs hrow hver;subst hver;obtain⟨hs0,hsz,hb,hblk⟩:=hc.objs i _ hrow;cases hv with
   |el _ _ _ _ b p _ hu h0 h1=>
    obtain⟨hk,g1,rfl⟩:=(h1 _ _ _ hrow).2 rfl;rcases hblk with⟨q1,_⟩|⟨b',C,T,cap,q1,q2,q3,q4,q5,q6⟩
    ·rw[q1]at g1;cases g1
    ·rw[q1]at g1;cases g1;refine⟨_,hu,fun j c hj=>?_⟩;have hj':j<sz:=by
      have:=(VB.1 hj).1;rwa[hsz _ (Yz hk)]at this
     have hf:=JBo hsz hk hj';have hfl:=JT hsz;have hlt:k*sz+j<(flat xs).length:=by
      have:(k+1)*sz≤xs.length*sz:=Nat.mul_le_mul_right _ hk;rw[Nat.succ_mul]at this;omega
     have hcsz:(flat xs).length≤C.size:=by rw[hfl,q3];exact Nat.mul_le_mul_right _ q4
     have hCj:C[k*sz+j]? =some (C[k*sz+j]'oM):=by simp[show k*sz+j<C.size by omega]
     exact⟨_,by simp[World.cell?,q2,hCj],q5 _ _ hlt hCj,q6 _ c _ (by rw[hf];exact hj) hCj⟩
  split at hs
  ·rename_i v' sz xs hrow;cases hs;obtain⟨rfl,hlt⟩:=hC;obtain⟨b,g1,g2⟩:=fromRow hrow rfl;obtain⟨v,q1,q2,q3⟩:=g2 off ((nth xs k).cells.getD off .opq) (by simp[hlt]);exact⟨_,(run b _ _ g1 ((Ur hn w).1 rfl _ q1)),(.d _ _ q3),rfl⟩
  ·rename_i v' sz xs n hrow;cases hs;obtain⟨rfl,hle⟩:=hC;obtain⟨b,g1,g2⟩:=fromRow hrow rfl;have hvs:∃vs:List Value,vs.length=n∧(∀v∈vs,v.oneCell'=true)∧Holds w b (k*sz+off) vs∧∀(j:Nat) c v,(((nth xs k).cells.drop off).take n)[j]? =some c→vs[j]? =some v→Rep A w c v:=by
    refine⟨(List.range n).map fun j=>(w.cell? ⟨b,k*sz+(off+j),none⟩).getD undef,sP,?_,?_,?_⟩
    ·intro v hv';obtain⟨j,hj,rfl⟩:=VC.1 hv';have hj':off+j<(nth xs k).cells.length:=by simp at hj;omega
     obtain⟨v,q1,q2,q3⟩:=g2 (off+j) _ (Vl hj');rw[q1];exact q2
    ·intro j v hj;simp only[Vo]at hj;cases e:(List.range n)[j]? with
     |none=>simp[e]at hj
     |some j'=>
      simp only[e,Vj,Vd]at hj;obtain⟨hjn,rfl⟩:=VB.1 e;simp at hjn hj;have hj':off+j<(nth xs k).cells.length:=oM;obtain⟨v',q1,q2,q3⟩:=g2 (off+j) _ (Vl hj');rw[q1]at hj;simp at hj;rw[←hj,Nat.add_assoc];exact q1
    ·intro j c v hjc hjv;simp only[Vo]at hjv;cases e:(List.range n)[j]? with
     |none=>simp[e]at hjv
     |some j'=>
      simp only[e,Vj,Vd]at hjv;obtain⟨hjn,rfl⟩:=VB.1 e;simp at hjn hjv;rw[List.getElem?_take,if_pos hjn,List.getElem?_drop]at hjc;obtain⟨v',q1,q2,q3⟩:=g2 (off+j) c hjc;rw[q1]at hjv;simp at hjv;rw[←hjv];exact q3
   obtain⟨vs,q1,q2,q3,q4⟩:=hvs;refine⟨_,(run b _ _ g1 ((Ur hn w).2 n vs rfl q1 q3)),(.d _ _ (.agg _ _ sO (sX q2) ?_)),rfl⟩;intro j c v hjc hjv;exact q4 j c v hjc (sX hjv)
  ·cases hs
 ·rename_i cs ev;have hv:=(JD hx ev ht).JU;obtain⟨b,p,q1,q2,q3⟩:=hv.load hn;split at hs
  ·cases hs;obtain⟨v,g1,g2⟩:=q2 rfl hC;exact⟨_,(run b p _ q1 g1),(.d _ _ g2),rfl⟩
  ·rename_i k;cases hs;obtain⟨v,g1,g2⟩:=q3 k rfl hC;exact⟨_,(run b p _ q1 g1),(.d _ _ g2),rfl⟩
 ·rename_i g ev;have hv:=(JD hx ev ht).JU;split at hs
  ·rename_i cs hg;cases hs;obtain⟨b,p,q1,q2,q3⟩:=(hc.glob g cs hg).rep.load hn;obtain⟨v,g1,g2⟩:=q2 rfl hC;generalize hue:a.eval x=u at*;cases hv;exact⟨_,(run b p _ q1 g1),(.d _ _ g2),rfl⟩
  ·rename_i cs k hg;cases hs;obtain⟨b,p,q1,q2,q3⟩:=(hc.glob g cs hg).rep.load hn;obtain⟨v,g1,g2⟩:=q3 k rfl hC;generalize hue:a.eval x=u at*;cases hv;exact⟨_,(run b p _ q1 g1),(.d _ _ g2),rfl⟩
  ·cases hs
 ·rename_i i h ev;have hv:=JD hx ev ht;split at hs
  ·rename_i k off c s sz' ys ek er;split at hs
   ·cases hs;obtain⟨hcc,hk,hlt⟩:=hC;obtain⟨b,g1,_,g2⟩:=JKU hc hv er hcc ek;obtain⟨v,q1,q2,q3⟩:=g2 off ((nth ys k).cells.getD off .opq) (by simp[hlt]);exact⟨_,(run b _ _ g1 ((Ur hn w).1 rfl _ q1)),q3,rfl⟩
   ·rename_i n;cases hs;obtain⟨hcc,hk,hle⟩:=hC;obtain⟨b,g1,_,g2⟩:=JKU hc hv er hcc ek;have hvs:∃vs:List Value,vs.length=n∧(∀v∈vs,v.oneCell'=true)∧Holds w b (k*sz'+off) vs∧∀(j:Nat) c v,(((nth ys k).cells.drop off).take n)[j]? =some c→vs[j]? =some v→VRep β A w H (JBD i h.ver s h.p k (off+j) c) v:=by
     refine⟨(List.range n).map fun j=>(w.cell? ⟨b,k*sz'+(off+j),none⟩).getD undef,sP,?_,?_,?_⟩
     ·intro v hv';obtain⟨j,hj,rfl⟩:=VC.1 hv';have hj':off+j<(nth ys k).cells.length:=by simp at hj;omega
      obtain⟨v,q1,q2,q3⟩:=g2 (off+j) _ (Vl hj');rw[q1];exact q2
     ·intro j v hj;simp only[Vo]at hj;cases e:(List.range n)[j]? with
      |none=>simp[e]at hj
      |some j'=>
       simp only[e,Vj,Vd]at hj;obtain⟨hjn,rfl⟩:=VB.1 e;simp at hjn hj;have hj':off+j<(nth ys k).cells.length:=oM;obtain⟨v',q1,q2,q3⟩:=g2 (off+j) _ (Vl hj');rw[q1]at hj;simp at hj;rw[←hj,Nat.add_assoc];exact q1
     ·intro j c v hjc hjv;simp only[Vo]at hjv;cases e:(List.range n)[j]? with
      |none=>simp[e]at hjv
      |some j'=>
       simp only[e,Vj,Vd]at hjv;obtain⟨hjn,rfl⟩:=VB.1 e;simp at hjn hjv;rw[List.getElem?_take,if_pos hjn,List.getElem?_drop]at hjc;obtain⟨v',q1,q2,q3⟩:=g2 (off+j) c hjc;rw[q1]at hjv;simp at hjv;rw[←hjv];exact q3
    obtain⟨vs,q1,q2,q3,q4⟩:=hvs;refine⟨_,(run b _ _ g1 ((Ur hn w).2 n vs rfl q1 q3)),JDx (by rw[JC0];simp;omega) (sX q2) ?_,rfl⟩;intro j c v hjc hjv;rw[JCz]at hjc;cases e:(((nth ys k).cells.drop off).take n)[j]? with
    |none=>rw[e]at hjc;cases hjc
    |some y=>
     rw[e]at hjc;cases hjc;exact q4 j y v e (sX hjv)
  ·cases hs
 ·cases hs
theorem JSX{t:TypeId}(hc:Core β A w H)(ht:UD β A w H τ a)(ho:o.op=.load t x)(hn:shT P t=some n)(hx:opd P t x=some x')
  (hs:step τ H d (.ld n x')=some r)(hC:r.c):JY P a.eval o w β A H r.v r.ups:=by
 obtain⟨u,h1,h2,h3⟩:=ld_ok hc ht ho hn hx hs hC;rw[h3];exact JY.pure hc h1 h2
end
end Av
namespace Av
open Go
variable [Glb][Rls]
variable {sz k c:Nat}
section
variable {A:Nat→Prop}{w w':World}
theorem JBG{xs:List Dat}{k1 c1:Nat}{y:Dat}(hy:XR y=true)(hsz:∀x∈xs,x.cells.length=sz)(hk:k<xs.length)(hc:c<sz):
  cellAt (xs.set k (X3 (xs.getD k .opq) c y)) k1 c1=if k1=k∧c1=c then some y else cellAt xs k1 c1:=by
 have hl:=hsz xs[k] (Vk hk);unfold cellAt;rw[List.getElem?_set];by_cases e:k=k1
 ·subst e;rw[if_pos rfl,if_pos hk];simp only[Option.bind_some,true_and];have eg:xs.getD k .opq=xs[k]:=by simp[List.getD,Vl hk]
  rw[eg,Z4 hy oM,Vl hk,Option.bind_some,List.getElem?_set];by_cases e2:c=c1
  ·subst e2;rw[if_pos rfl,if_pos oM,if_pos rfl]
  ·rw[if_neg e2,if_neg (fun h=>e2 h.symm)]
 ·rw[if_neg e,if_neg (fun h=>e h.1.symm)]
theorem JNA{k1 c1:Nat}(hc:c<sz)(hc1:c1<sz)(h:¬(k1=k∧c1=c)):k1*sz+c1≠k*sz+c:=by
 intro e;apply h;have h1:k1=k:=by
  rcases Nat.lt_trichotomy k1 k with g|g|g
  ·have:(k1+1)*sz≤k*sz:=Nat.mul_le_mul_right _ g;rw[Nat.succ_mul]at this;omega
  ·exact g
  ·have:(k+1)*sz≤k1*sz:=Nat.mul_le_mul_right _ g;rw[Nat.succ_mul]at this;omega
 subst h1;exact⟨rfl,oM⟩
theorem Own.keep{F:List Nat}{x:Dat}{u:Value}(h:Own A w F x u):F.Nodup→∀{p:List (Nat×Nat)} {k c b n cap sz:Nat} {ys:List Dat},
  TAt w x u p (.slice (some ⟨b,0,none⟩) n cap)→nodeAt x p=some (.own sz ys)→k<ys.length→c<sz→∀(y:Dat),XR y=true→
  (∀b'∈F,b'≠b→w'.heap[b']? =w.heap[b']?)→(∀j,j≠k*sz+c→w'.cell? ⟨b,j,none⟩=w.cell? ⟨b,j,none⟩)→
  b∈F∧∀(q:List (Nat×Nat)) (u':Value) (s:Nat) (zs:List Dat),¬(p++[(k,c)])<+:q→TAt w x u q u'→nodeAt x q=some (.own s zs)→
   TAt w' (setAt x p k c y) u q u'∧∃zs',nodeAt (setAt x p k c y) q=some (.own s zs')∧zs'.length=zs.length∧(q=p→zs'=zs.set k (X3 (zs.getD k .opq) c y)):=by
 induction h with
 |dat x u h=>
  intro _ p k c b n cap sz ys _ hn _ _;obtain⟨sz',xs,rfl⟩:=XI hn;cases h
 |nil sz0 a hs=>
  intro _ p k c b n cap sz ys _ hn hk hc
  match p,hn with
  |[],hn=>cases hn;simp at hk
  |(k',c')::p,hn=>simp[nodeAt,cellAt]at hn
 |row sz0 xs b0 C0 T0 cap0 n0 Fs hh hC hn0 hl hcl hs hsz hFl h1 hv ih=>
  intro hnd p k c b n cap sz ys ha hn hk hc y hy hsame hcell;have hxl:=UB hsz;have hCs:(flat xs).length≤C0.size:=by rw[hxl,hC];exact Nat.mul_le_mul_right _ hl
  have hidx:∀{k c:Nat},k<xs.length→c<sz0→k*sz0+c<(flat xs).length:=by
   intro k c hk hc;rw[hxl];have:k*sz0+sz0≤xs.length*sz0:=by rw[←Nat.succ_mul];exact Nat.mul_le_mul_right _ hk
   omega
  obtain⟨n1,n2⟩:=List.nodup_cons.1 hnd;have child:∀{k1 c1:Nat} {y1:Dat} {v1:Value},cellAt xs k1 c1=some y1→w.cell? ⟨b0,k1*sz0+c1,none⟩=some v1→∃F1,Fs[k1*sz0+c1]? =some F1∧k1<xs.length∧c1<sz0∧F1.Nodup∧(∀b'∈F1,b'∈Fs.flatten∧b'≠b0)∧Own A w F1 y1 v1∧(flat xs)[k1*sz0+c1]? =some y1∧C0[k1*sz0+c1]? =some v1:=by
   intro k1 c1 y1 v1 e1 e2;obtain⟨hk',hc',eg⟩:=ZI e1 hsz;have hj:=hidx hk' hc';have hfj:(flat xs)[k1*sz0+c1]? =some y1:=(XQ hsz hc').trans e1;have hFj:Fs[k1*sz0+c1]? =some Fs[k1*sz0+c1]:=Vl oM;have hCj:C0[k1*sz0+c1]? =some v1:=by
    simp only[World.cell?,hh]at e2;simpa using e2
   have hFin:∀b'∈Fs[k1*sz0+c1],b'∈Fs.flatten:=fun b' hb'=>Um.2 ⟨_,_,hFj,hb'⟩
   exact⟨_,hFj,hk',hc',(List.pairwise_flatten.1 n2).1 _ (List.mem_of_getElem? hFj),fun b' hb'=>⟨hFin b' hb',fun e=>n1 (e▸hFin b' hb')⟩,hv _ _ _ _ hfj hCj hFj,hfj,hCj⟩
  match p,ha,hn with
  |[],ha,hn=>
   cases hn;cases ha;refine⟨Vh,?_⟩;intro q u' s zs hq ht hnq
   match q,ht,hnq with
   |[],ht,hnq=>
    cases hnq;exact⟨ht,_,rfl,by rw[List.length_set],fun _=>rfl⟩
   |(k1,c1)::q,⟨y1,v1,e1,e2,e3⟩,hnq=>
    simp only[nodeAt,e1]at hnq;obtain⟨F1,f1,f2,f3,f4,f5,f6,f7,f8⟩:=child e1 e2;have hne:¬(k1=k∧c1=c):=by
     rintro⟨rfl,rfl⟩;exact hq ⟨q,rfl⟩
    have hc1:cellAt (xs.set k (X3 (xs.getD k .opq) c y)) k1 c1=some y1:=by rw[JBG hy hsz hk hc,if_neg hne,e1]
    refine⟨⟨y1,v1,hc1,(hcell _ (JNA hc f3 hne)).trans e2,e3.mono f6 fun b' hb'=>hsame b' (Vn _ (f5 b' hb').1) (f5 b' hb').2⟩,zs,?_,rfl,fun e=>by cases e⟩;show nodeAt (.own sz0 (xs.set k (X3 (xs.getD k .opq) c y))) ((k1,c1)::q)=_;simp only[nodeAt,hc1];exact hnq
  |(k',c')::p,ha,hn=>
   obtain⟨y',v',e1,e2,e3⟩:=ha;simp only[nodeAt,e1]at hn;obtain⟨Fp,f1,f2,f3,f4,f5,f6,f7,f8⟩:=child e1 e2;obtain⟨hk',hc',eg⟩:=ZI e1 hsz;obtain⟨i1,i2⟩:=ih _ _ _ _ f7 f8 f1 f4 e3 hn hk hc y hy (fun b' hb'=>hsame b' (Vn _ (f5 b' hb').1)) hcell;have hbne:b0≠b:=fun e=>(f5 b i1).2 e.symm
   have hcb:∀j,w'.cell? ⟨b0,j,none⟩=w.cell? ⟨b0,j,none⟩:=fun j=>by simp only[World.cell?,hsame b0 Vh hbne]
   have hcs:XR (setAt y' p k c y)=true:=JDs (XI hn) p k c y;refine⟨Vn _ (f5 b i1).1,?_⟩;intro q u' s zs hq ht hnq;show TAt w' (.own sz0 (xs.set k' (X3 (xs.getD k' .opq) c' (setAt ((xs.getD k' .opq).cells.getD c' .opq) p k c y)))) _ q u'∧∃zs',nodeAt (.own sz0 (xs.set k' (X3 (xs.getD k' .opq) c' (setAt ((xs.getD k' .opq).cells.getD c' .opq) p k c y)))) q=some (.own s zs')∧_;rw[eg]
   match q,ht,hnq with
   |[],ht,hnq=>
    cases hnq;exact⟨ht,_,rfl,by rw[List.length_set],fun e=>by cases e⟩
   |(k1,c1)::q,⟨y1,v1,g1,g2,g3⟩,hnq=>
    simp only[nodeAt,g1]at hnq;by_cases e:k1=k'∧c1=c'
    ·obtain⟨rfl,rfl⟩:=e;rw[e1]at g1;cases g1;rw[e2]at g2;cases g2;obtain⟨j1,zs',j2,j3,j4⟩:=i2 q u' s zs (fun⟨r,hr⟩=>hq ⟨r,by rw[←hr];rfl⟩) g3 hnq;have hc1:cellAt (xs.set k1 (X3 (xs.getD k1 .opq) c1 (setAt y' p k c y))) k1 c1=some (setAt y' p k c y):=by rw[JBG hcs hsz hk' hc',if_pos ⟨rfl,rfl⟩]
     refine⟨⟨_,v',hc1,(hcb _).trans e2,j1⟩,zs',?_,j3,fun e=>j4 (List.cons.inj e).2⟩;simp only[nodeAt,hc1];exact j2
    ·obtain⟨F1,h1',h2',h3',h4',h5',h6',h7',h8'⟩:=child g1 g2;have hc1:cellAt (xs.set k' (X3 (xs.getD k' .opq) c' (setAt y' p k c y))) k1 c1=some y1:=by rw[JBG hcs hsz hk' hc',if_neg e,g1]
     refine⟨⟨y1,v1,hc1,(hcb _).trans g2,g3.mono h6' fun b' hb'=>hsame b' (Vn _ (h5' b' hb').1) ?_⟩,zs,?_,rfl,fun e'=>absurd ⟨(Prod.mk.inj (List.cons.inj e').1).1,(Prod.mk.inj (List.cons.inj e').1).2⟩ e⟩
     ·intro e';subst e';exact Yw n2 h1' f1 (JNA f3 h3' e) hb' i1
     ·simp only[nodeAt,hc1];exact hnq
theorem JC1{α:Type}{l:List α}{o:Nat}{v:α}{r:List α}(h:o+(v::r).length≤l.length):Jh (l.set o v) (o+1) r=Jh l o (v::r):=by
 simp only[Vf]at h;apply List.ext_getElem?;intro j;rw[Jr _ _ _ _ (by rw[List.length_set];omega),Jr _ _ _ _ (by simp only[Vf];omega),List.getElem?_set];simp only[Vf];by_cases h1:j<o
 ·rw[if_neg oM,if_neg oM,if_neg oM]
 ·by_cases h2:j=o
  ·subst h2;rw[if_neg oM,if_pos rfl,if_pos oM,if_pos oM];simp
  ·by_cases h3:j<o+1+r.length
   ·rw[if_pos oM,if_pos oM];obtain⟨d,rfl⟩:∃d,j=o+1+d:=⟨j-(o+1),oM⟩;rw[show o+1+d-(o+1)=d by omega,show o+1+d-o=d+1 by omega];rfl
   ·rw[if_neg oM,if_neg oM,if_neg oM]
theorem JHd{d:Dat}{v:Value}(h:Rep A w d v)(h1:v.oneCell'=true):XR d=true:=by
 cases h<;>first|rfl|cases h1
theorem Own.many:∀(ds:List Dat) (vs:List Value) {x:Dat} {u:Value} {F:List Nat} {w:World} {off:Nat} {p:List (Nat×Nat)} {k b n cap sz:Nat} {ys:List Dat} {C:Array Value} {T:TypeId},Own A w F x u→F.Nodup→(∀b∈F,¬A b)→
  TAt w x u p (.slice (some ⟨b,0,none⟩) n cap)→nodeAt x p=some (.own sz ys)→k<ys.length→off+ds.length≤sz→ds.length=vs.length→(∀v∈vs,v.oneCell'=true)→(∀(j:Nat) c v,ds[j]? =some c→vs[j]? =some v→Rep A w c v)→
  w.heap[b]? =some (.cells C T (0,0))→(∀b'∈F,b'≠b→w'.heap[b']? =w.heap[b']?)→XG A w w'→w'.heap[b]? =some (.cells (Jh C.toList (k*sz+off) vs).toArray T (0,0))→
  ∃F',Own A w' F' (YS x p k off ds) u∧F'.Nodup∧(∀b∈F',b∈F)∧F'.head? =F.head?∧
   ∀(q:List (Nat×Nat)) (u':Value) (s:Nat) (zs:List Dat),(∀j,j<ds.length→¬(p++[(k,off+j)])<+:q)→TAt w x u q u'→nodeAt x q=some (.own s zs)→
    TAt w' (YS x p k off ds) u q u'∧∃zs',nodeAt (YS x p k off ds) q=some (.own s zs')∧zs'.length=zs.length
 |[],vs,x,u,F,w,off,p,k,b,n,cap,sz,ys,C,T,ho,hnd,hA,ht,hn,hk,hle,hl,h1,hv,hC,hs,hsA,hw=>by
  obtain rfl:vs=[]:=by cases vs with|nil=>rfl|cons _ _=>cases hl
  have hsp:(Jh C.toList (k*sz+off) []).toArray=C:=by apply Array.ext';simp[Jh]
  rw[hsp]at hw;have hall:∀b'∈F,w'.heap[b']? =w.heap[b']? :=fun b' hb'=>by
   by_cases e:b'=b
   ·rw[e,hw,hC]
   ·exact hs b' hb' e
  exact⟨F,ho.mono hsA (fun _ h=>h) hall,hnd,fun _ h=>h,rfl,fun q u' s zs _ h2 h3=>⟨h2.mono ho hall,zs,h3,rfl⟩⟩
 |d::r,vs,x,u,F,w,off,p,k,b,n,cap,sz,ys,C,T,ho,hnd,hA,ht,hn,hk,hle,hl,h1,hv,hC,hs,hsA,hw=>by
  obtain⟨v,vr,rfl⟩:∃v vr,vs=v::vr:=by cases vs with|nil=>cases hl|cons v vr=>exact⟨_,_,rfl⟩
  simp only[Vf]at hle hl;have hd:=hv 0 d v rfl rfl;have h1v:=h1 v Vh;have hdc:=JHd hd h1v;obtain⟨F0,v0,C0,T0,i1,i2,i3,i4,i5,i6,i7,i8,i9,i10,i11,i12⟩:=ho.set hnd ht hn hk (show off<sz by omega);rw[hC]at i2;cases i2;have hCs:k*sz+off+(r.length+1)≤C.size:=by
   have:(k+1)*sz≤cap*sz:=Nat.mul_le_mul_right _ oM;rw[Nat.succ_mul]at this;omega
  have hwb:(w.setRow b (C.setIfInBounds (k*sz+off) v)).heap[b]? =some (.cells (C.setIfInBounds (k*sz+off) v) T (0,0)):=setRow_heap w b C _ T (0,0) hC;have hwo:∀b',b'≠b→(w.setRow b (C.setIfInBounds (k*sz+off) v)).heap[b']? =w.heap[b']? :=fun b' hb'=>setRow_other w b b' _ hb'
  have hbA:¬A b:=hA b i1;have hs1:XG A w (w.setRow b (C.setIfInBounds (k*sz+off) v)):=fun b' hb'=>hwo b' fun e=>hbA (e▸hb')
  obtain⟨F1,q1,q2,q3,q4⟩:=i12 A _ [] d v hs1 (fun _ h=>h) (fun b' _ _ hb'=>hwo b' hb') hwb (.dat d v (hd.mono hs1 fun _ h=>h)) hdc h1v List.Pairwise.nil (fun b' hb'=>by cases hb');have hF1:∀b'∈F1,b'∈F:=fun b' hb'=>by
   rcases(q3 b').1 hb' with h|h
   ·exact h.1
   ·cases h
  obtain⟨_,hkeep⟩:=ho.keep (w':=w.setRow b (C.setIfInBounds (k*sz+off) v)) hnd ht hn hk (show off<sz by omega) d hdc (fun b' _ hb'=>hwo b' hb') (fun j hj=>by
   simp only[World.cell?,hC,hwb,Array.getElem?_setIfInBounds,if_neg (Ne.symm hj)])
  have hpp:¬(p++[(k,off)])<+:p:=fun h=>by have:=h.length_le;simp only[Vg,Vf,Vm]at this;omega
  obtain⟨k1,ys1,k2,k3,_⟩:=hkeep p _ _ _ hpp ht hn;obtain⟨F',g1,g2,g3,g4,g5⟩:=Own.many r vr (w:=w.setRow b (C.setIfInBounds (k*sz+off) v)) (off:=off+1) (sz:=sz) (ys:=ys1) q1 q2 (fun b' hb'=>hA b' (hF1 b' hb')) k1 k2 (by rw[k3];exact hk) (by rw[Nat.add_assoc,Nat.add_comm 1];exact hle) (sX hl) (fun z hz=>h1 z (Vn _ hz))
   (fun j c z hj hz=>(hv (j+1) c z hj hz).mono hs1 fun _ h=>h) hwb (fun b' hb' hne=>(hs b' (hF1 b' hb') hne).trans (hwo b' hne).symm) (fun b' hb'=>(hsA b' hb').trans (hs1 b' hb').symm)
   (by rw[hw,Array.toList_setIfInBounds,show k*sz+(off+1)=k*sz+off+1 by omega,JC1 (by simp only[Vf,Array.length_toList];omega)])
  refine⟨F',g1,g2,fun b' hb'=>hF1 b' (g3 b' hb'),g4.trans q4,?_⟩;intro q u' s zs hq h2 h3;obtain⟨e1,zs1,e2,e3,_⟩:=hkeep q u' s zs (hq 0 sP) h2 h3;obtain⟨f1,zs2,f2,f3⟩:=g5 q u' s zs1 (fun j hj=>by rw[show off+1+j=off+(j+1) by omega];exact hq (j+1) (by simp only[Vf];omega)) e1 e2;exact⟨f1,zs2,f2,f3.trans e3⟩
theorem JCV{xs:List Dat}(p:List (Nat×Nat))(k c:Nat)(y:Dat):∃xs',setAt (.own sz xs) p k c y=.own sz xs'∧xs'.length=xs.length:=by
 match p with
 |[]=>exact⟨_,rfl,by rw[List.length_set]⟩
 |(_,_)::_=>exact⟨_,rfl,by rw[List.length_set]⟩
theorem JC2:∀(ds:List Dat) {sz:Nat} {xs:List Dat} (p:List (Nat×Nat)) (k c:Nat),∃xs',YS (.own sz xs) p k c ds=.own sz xs'∧xs'.length=xs.length
 |[],sz,xs,p,k,c=>⟨xs,rfl,rfl⟩
 |d::r,sz,xs,p,k,c=>by
  obtain⟨xs1,e1,l1⟩:=JCV (sz:=sz) (xs:=xs) p k c d;obtain⟨xs2,e2,l2⟩:=JC2 r (sz:=sz) (xs:=xs1) p k (c+1);exact⟨xs2,by simp only[YS,e1];exact e2,l2.trans l1⟩
theorem JNB{x:Dat}:∀{p:List (Nat×Nat)} {u u':Value},TAt w x u p u'→∃s zs,nodeAt x p=some (.own s zs):=by
 intro p
 induction p generalizing x with
 |nil=>
  intro u u' h;obtain⟨sz,xs,rfl⟩:=Yy h;exact⟨_,_,rfl⟩
 |cons kc p ih=>
  intro u u' h;obtain⟨sz,xs,rfl⟩:=Yy h;obtain⟨k,c⟩:=kc
  match u,h with
  |.slice (some a) _ _,⟨y,v,e1,e2,e3⟩=>
   obtain⟨s,zs,e⟩:=ih e3;exact⟨s,zs,by simp only[nodeAt,e1];exact e⟩
theorem through{ys:List Dat}{z:Dat}:∀{p q:List (Nat×Nat)} {x:Dat},nodeAt x q=some z→nodeAt x p=some (.own sz ys)→(p++[(k,c)])<+:q→∃y,cellAt ys k c=some y∧Z5 y=true:=by
 intro p
 induction p with
 |nil=>
  rintro q x h1 h2 ⟨r,rfl⟩;obtain⟨s,zs,rfl⟩:=XI h1;cases h2;simp only[List.nil_append,List.singleton_append,nodeAt]at h1;split at h1
  ·rename_i y e;obtain⟨s2,zs2,rfl⟩:=XI h1;exact⟨_,e,rfl⟩
  ·cases h1
 |cons kc p ih=>
  rintro q x h1 h2 ⟨r,rfl⟩;obtain⟨s,zs,rfl⟩:=XI h1;obtain⟨k',c'⟩:=kc;simp only[nodeAt,List.cons_append]at h1 h2;split at h1
  ·rename_i y e;simp only[e]at h2;exact ih h1 h2 ⟨r,rfl⟩
  ·cases h1
end
end Av
namespace Av
open Go
variable [Glb][Rls]
variable {i sz n sz' ver s k:Nat}{u:Value}{xs ys:List Dat}{p:List (Nat×Nat)}{C:Array Value}
section
variable {β:JM}{A:Nat→Prop}{w:World}{H:Heap}{β':JM}{A':Nat→Prop}{w':World}{H':Heap}
theorem Xe.keep(h:Xe β w i sz n u)(hr:(β' i).r=(β i).r)(hh:∀b C T fz,(β i).r=some b→w.heap[b]? =some (.cells C T fz)→∃C',w'.heap[b]? =some (.cells C' T fz)∧C'.size=C.size):Xe β' w' i sz n u:=by
 rcases h with⟨e1,e2,e3⟩|⟨b,C,T,fz,cap,e1,e2,e3,e4,e5⟩
 ·exact .inl ⟨hr.trans e1,e2,e3⟩
 ·obtain⟨C',g1,g2⟩:=hh b C T fz e1 e2;exact .inr ⟨b,C',T,fz,cap,hr.trans e1,g1,g2.trans e3,e4,e5⟩
theorem JBj.top{xs':List Dat}{h:Hd}(ht:JBj β w i sz xs h u)(hp:h.p=[])(hl:xs'.length=xs.length)(hr:∀u,Xe β w i sz xs.length u→Xe β' w' i sz xs.length u):JBj β' w' i sz xs' h u:=by
 obtain⟨a0,a1,r1,r2,r3⟩:=ht;rw[hp]at r2;have e:=JDg r2;subst e;refine⟨a1,a1,by rw[hl];exact hr _ r1,by rw[hp];rfl,?_⟩
 revert r3
 cases h.k with
 |none=>exact id
 |some kk=>
  rintro⟨b,n,cap,sz',ys,e1,e2,e3,e4⟩;rw[hp]at e2;cases e2;exact⟨b,n,cap,sz,xs',e1,by rw[hp];rfl,oM,e4⟩
theorem JJV{r:Option Nat}{F:List Nat}(h:F.head? =r):BK.all ⟨r,F.tail⟩=F:=by
 cases F with
 |nil=>cases h;rfl
 |cons a t=>cases h;rfl
theorem JNC{x:Dat}(hx:x=.own sz xs)(h:nodeAt x p=some (.own sz' ys))(hk:0<ys.length):0<xs.length:=by
 subst hx
 match p,h with
 |[],h=>cases h;exact hk
 |(k,c)::p,h=>
  cases xs with
  |nil=>simp[nodeAt,cellAt]at h
  |cons _ _=>simp
theorem Stp.trMany(hc:Core β A w H)(hi:H i=some (.tre ver s sz xs)){u0:Value}(hr:Xe β w i sz xs.length u0){off b cap:Nat}
  (ht:TAt w (.own sz xs) u0 p (.slice (some ⟨b,0,none⟩) n cap))(hn:nodeAt (.own sz xs) p=some (.own sz' ys))(hk:k<ys.length){ds:List Dat}{vs:List Value}(hle:off+ds.length≤sz')(hl:ds.length=vs.length)
  (h1:∀v∈vs,v.oneCell'=true)(hv:∀(j:Nat) c v,ds[j]? =some c→vs[j]? =some v→Rep A w c v){T:TypeId}(hC:w.heap[b]? =some (.cells C T (0,0))){s':Nat}
  (hs':(s'=s∧∀j,j<ds.length→∀y,cellAt ys k (off+j)=some y→Z5 y=false)∨s'=s+1):
  ∃β',Stp β A w H β' A (w.setRow b (Jh C.toList (k*sz'+off) vs).toArray) (upd H i (some (.tre ver s' sz (JDb (YS (.own sz xs) p k off ds))))):=by
 obtain⟨u2,o1,o2,o3,o4⟩:=hc.objs _ _ hi;have o5:=hr.own o1 o3 o4;have hA:∀b∈(β i).all,¬A b:=fun b hb=>hc.sep i _ b hi rfl hb
 obtain⟨u1,F1,n1,n2,_,n3⟩:=o5.node hn;have:=JGS ht n1;subst this;obtain⟨b2,C2,T2,cap2,Fs,m1,m2,m3,m4,m5,_⟩:=Ya n2 oM;cases m1;rw[hC]at m3;cases m3;have hbF:b∈(β i).all:=n3 b (by rw[m2];exact Vh);have hwb:=setRow_heap w b C (Jh C.toList (k*sz'+off) vs).toArray T (0,0) hC;have hwo:∀b',b'≠b→(w.setRow b (Jh C.toList (k*sz'+off) vs).toArray).heap[b']? =w.heap[b']? :=fun b' hb'=>setRow_other w b b' _ hb'
 have hCs:k*sz'+off+vs.length≤C.size:=by
  have:(k+1)*sz'≤cap*sz':=Nat.mul_le_mul_right _ oM;rw[Nat.succ_mul]at this;omega
 have hsz2:(Jh C.toList (k*sz'+off) vs).toArray.size=C.size:=by rw[List.size_toArray,J2 _ _ _ (by rw[Array.length_toList];exact hCs),Array.length_toList]
 obtain⟨F',g1,g2,g3,g4,g5⟩:=Own.many ds vs (w':=w.setRow b (Jh C.toList (k*sz'+off) vs).toArray) o5 o2 hA ht hn hk hle hl h1 hv hC (fun b' _ hne=>hwo b' hne) (fun b' hb'=>hwo b' fun e=>hA b hbF (e▸hb')) hwb;obtain⟨xs',ex,lx⟩:=JC2 ds (sz:=sz) (xs:=xs) p k off;rw[ex]at g1 g5⊢;have hall:BK.all ⟨(β i).r,F'.tail⟩=F':=JJV (g4.trans o4.symm);have hroot:∀u,Xe β w i sz xs.length u→Xe (upd β i ⟨(β i).r,F'.tail⟩) (w.setRow b (Jh C.toList (k*sz'+off) vs).toArray) i sz xs.length u:=fun u h=>h.keep (by rw[JB]) fun b' C' T' fz' _ hb'=>by
  by_cases e:b'=b
  ·subst e;rw[hC]at hb';cases hb';exact⟨_,hwb,hsz2⟩
  ·exact⟨C',(hwo b' e).trans hb',rfl⟩
 refine⟨upd β i ⟨(β i).r,F'.tail⟩,?_⟩;refine Stp.oneG hc i (.tre ver s' sz xs') ⟨(β i).r,F'.tail⟩ rfl rfl rfl sP (fun b' _ hn'=>hwo b' (fun e=>hn' _ hi rfl (e▸hbF))) (fun _ h=>h) (fun _ h=>.inl h) (fun b' h=>by simpa using hc.old b' h) ?_ ?_ ?_ (by intro l hl;rw[hi]at hl;cases hl)
 ·intro b' hb' _;have hb2:b'∈F':=by rw[←hall];exact hb'
  exact⟨.inr ⟨_,hi,rfl,g3 b' hb2⟩,hA b' (g3 b' hb2)⟩
 ·intro c u hcase hvr;refine Xx (.inl hi) (JB _ _ _) (Nat.le_refl _) (by rcases hs' with⟨rfl,_⟩|rfl<;>omega) hcase hvr ?_;intro _ h u hsv hver hp hold hvv;by_cases hp0:h.p=[]
  ·exact(hold rfl (.inl hp0)).top hp0 lx hroot
  ·rcases hs' with⟨rfl,hno⟩|rfl
   ·obtain⟨a0,a1,r1,r2,r3⟩:=hold rfl (.inr rfl);obtain⟨s2,zs,hz⟩:=JNB r2;have ea:a0=u0:=r1.det hr o5.sz0 (JNC rfl hn oM);subst ea;obtain⟨t1,zs',t2,t3⟩:=g5 h.p a1 s2 zs (fun j hj hpre=>by
     obtain⟨y,y1,y2⟩:=through hz hn hpre;rw[hno j hj y y1]at y2;cases y2) r2 hz
    refine⟨a0,a1,by rw[lx];exact hroot _ r1,t1,?_⟩
    revert r3
    cases h.k with
    |none=>exact id
    |some kk=>
     rintro⟨b',n',cap',sz2,ys2,e1,e2,e3,e4⟩;rw[hz]at e2;cases e2;exact⟨b',n',cap',s2,zs',e1,t2,oM,e4⟩
   ·exfalso;rcases hp with hp|hp
    ·exact hp0 hp
    ·omega
 ·intro _;refine⟨u0,?_,?_,by rw[show xs'.length=xs.length from lx];exact hroot _ hr,?_⟩
  ·rw[JB,hall];exact g1
  ·rw[JB,hall];exact g2
  ·rw[JB,hall];exact o4.trans g4.symm
theorem Stp.trMove(hc:Core β A w H)(hi:H i=some (.tre ver s sz xs)){u0:Value}(hr:Xe β w i sz xs.length u0){off b cap:Nat}
  (ht:TAt w (.own sz xs) u0 p (.slice (some ⟨b,0,none⟩) n cap))(hn:nodeAt (.own sz xs) p=some (.own sz' ys))(hk:k<ys.length)(hle:off<sz'){j:Nat}(hij:i≠j){oj:Obj}(hj:H j=some oj)(hjl:oj.live=true)
  {sz2:Nat}{zs:List Dat}{v:Value}(hov:Own A w (β j).all (.own sz2 zs) v)(hnd:(β j).all.Nodup)(h1v:v.oneCell'=true){T:TypeId}(hC:w.heap[b]? =some (.cells C T (0,0))):
  ∃β',Stp β A w H β' A (w.setRow b (C.setIfInBounds (k*sz'+off) v)) (upd (upd H i (some (.tre ver (s+1) sz (JDb (setAt (.own sz xs) p k off (.own sz2 zs)))))) j (some .gone)):=by
 obtain⟨u2,o1,o2,o3,o4⟩:=hc.objs _ _ hi;have o5:=hr.own o1 o3 o4;have hA:∀b∈(β i).all,¬A b:=fun b hb=>hc.sep i _ b hi rfl hb
 have hAj:∀b∈(β j).all,¬A b:=fun b hb=>hc.sep j _ b hj hjl hb
 obtain⟨F0,v0,C0,T0,i1,i2,i3,i4,i5,i6,i7,i8,i9,i10,i11,i12⟩:=o5.set o2 ht hn hk hle;rw[hC]at i2;cases i2;have hwb:=setRow_heap w b C (C.setIfInBounds (k*sz'+off) v) T (0,0) hC;have hwo:∀b',b'≠b→(w.setRow b (C.setIfInBounds (k*sz'+off) v)).heap[b']? =w.heap[b']? :=fun b' hb'=>setRow_other w b b' _ hb'
 have hsA:XG A w (w.setRow b (C.setIfInBounds (k*sz'+off) v)):=fun b' hb'=>hwo b' fun e=>hA b i1 (e▸hb')
 have hdis:∀b'∈(β j).all,b'∉(β i).all:=fun b' h1 h2=>hij (hc.inj i j _ _ b' hi rfl hj hjl h2 h1)
 obtain⟨F',q1,q2,q3,q4⟩:=i12 A _ (β j).all (.own sz2 zs) v hsA (fun _ h=>h) (fun b' _ _ hb'=>hwo b' hb') hwb (hov.mono hsA (fun _ h=>h) fun b' hb'=>hwo b' fun e=>hdis b' hb' (e▸i1)) rfl h1v hnd (fun b' h1 h2=>absurd h2 (hdis b' h1));obtain⟨xs',ex,lx⟩:=JCV (sz:=sz) (xs:=xs) p k off (.own sz2 zs);rw[ex]at q1⊢;have hall:BK.all ⟨(β i).r,F'.tail⟩=F':=JJV (q4.trans o4.symm);have hroot:∀u,Xe β w i sz xs.length u→Xe (upd β i ⟨(β i).r,F'.tail⟩) (w.setRow b (C.setIfInBounds (k*sz'+off) v)) i sz xs.length u:=fun u h=>h.keep (by rw[JB]) fun b' C' T' fz' _ hb'=>by
  by_cases e:b'=b
  ·subst e;rw[hC]at hb';cases hb';exact⟨_,hwb,by rw[Array.size_setIfInBounds]⟩
  ·exact⟨C',(hwo b' e).trans hb',rfl⟩
 have hHi:upd (upd H i (some (.tre ver (s+1) sz xs'))) j (some .gone) i=some (.tre ver (s+1) sz xs'):=by rw[JN _ _ hij,JB]
 have hHj:upd (upd H i (some (.tre ver (s+1) sz xs'))) j (some .gone) j=some .gone:=JB _ _ _;refine⟨upd β i ⟨(β i).r,F'.tail⟩,?_⟩;refine Stp.many hc (fun t=>t=i∨t=j) ?_ ?_ rfl rfl rfl sP ?_ (fun _ h=>h) (fun _ h=>.inl h) (fun b' h=>by simpa using hc.old b' h) ?_ ?_ ?_ ?_ ?_
 ·intro t ht;rw[JN _ _ fun e=>ht (.inr e),JN _ _ fun e=>ht (.inl e)]
 ·intro t ht;rw[JN _ _ fun e=>ht (.inl e)]
 ·intro b' _ hn';exact hwo b' fun e=>hn' i _ (.inl rfl) hi rfl (e▸i1)
 ·intro t o b' ht ho hlo hb';rcases ht with rfl|rfl
  ·rw[JB]at hb';have hb2:b'∈F':=by rw[←hall];exact hb'
   rcases(q3 b').1 hb2 with h|h
   ·exact⟨.inr ⟨t,_,.inl rfl,hi,rfl,h.1⟩,hA b' h.1⟩
   ·exact⟨.inr ⟨j,_,.inr rfl,hj,hjl,h⟩,hAj b' h⟩
  ·have e:JDb (Dat.own sz xs')=xs':=rfl;rw[JB]at ho;cases ho;cases hlo
 ·intro t t' o o' b' ht ht' ho hlo ho' hlo' _ _;rcases ht with rfl|rfl
  ·rcases ht' with rfl|rfl
   ·rfl
   ·rw[JB]at ho';cases ho';cases hlo'
  ·rw[JB]at ho;cases ho;cases hlo
 ·intro t c u ht hh hvr;rcases ht with rfl|rfl
  ·refine Xx (.inl hi) hHi (Nat.le_refl _) (Nat.le_succ _) hh hvr ?_;intro _ h u hsv hver hp hold hvv;have hp0:h.p=[]:=by
    rcases hp with hp|hp
    ·exact hp
    ·omega
   exact(hold rfl (.inl hp0)).top hp0 lx hroot
  ·exact Yx (JB _ _ _) hh hvr
 ·intro hv' t o ht ho;rcases ht with rfl|rfl
  ·have ho':some (Obj.tre ver (s+1) sz xs')=some o:=hHi.symm.trans ho;cases ho';refine⟨u0,?_,?_,by rw[show xs'.length=xs.length from lx];exact hroot _ hr,?_⟩
   ·rw[JB,hall];exact q1
   ·rw[JB,hall];exact q2
   ·rw[JB,hall];exact o4.trans q4.symm
  ·rw[JB]at ho;cases ho;trivial
 ·rintro b' r hb' ⟨t,o,ht,ho,hlo,hb2⟩;exfalso;rcases ht with rfl|rfl
  ·obtain⟨C',T',fz,e⟩:=o5.JHM b' hb2;rw[e]at hb';cases hb'
  ·obtain⟨C',T',fz,e⟩:=hov.JHM b' hb2;rw[e]at hb';cases hb'
theorem JHe{F:List Nat}{y:Dat}(h:Own A w F y u)(hy:Z5 y=false):F=[]∧Rep A w y u:=by
 cases h with
 |dat _ _ h=>exact⟨rfl,h⟩
 |nil _ _ _=>cases hy
 |row _ _=>cases hy
theorem JHf{x:Dat}:∀{p:List (Nat×Nat)} {k c:Nat} {u u':Value},TAt w x u (p++[(k,c)]) u'→∃a n cap sz ys,TAt w x u p (.slice (some a) n cap)∧nodeAt x p=some (.own sz ys)∧∃y,cellAt ys k c=some y∧w.cell? ⟨a.block,k*sz+c,none⟩=some u'∧∃s zs,y=.own s zs
 |[],k,c,u,u',h=>by
  obtain⟨sz,xs,rfl⟩:=Yy h;cases u with
  |slice a n cap=>
   cases a with
   |some a=>
    obtain⟨y,v,h1,h2,h3⟩:=h;obtain⟨s,zs,rfl⟩:=Yy h3;have h3:u'=v:=h3;subst h3;exact⟨a,n,cap,sz,xs,rfl,rfl,_,h1,h2,_,_,rfl⟩
   |none=>exact h.elim
  |_=>exact h.elim
 |(k0,c0)::p,k,c,u,u',h=>by
  obtain⟨sz,xs,rfl⟩:=Yy h;cases u with
  |slice a n cap=>
   cases a with
   |some a=>
    obtain⟨y,v,h1,h2,h3⟩:=h;obtain⟨a',n',cap',sz',ys,g1,g2,g3⟩:=JHf h3;exact⟨a',n',cap',sz',ys,⟨y,v,h1,h2,g1⟩,by rw[JLq,h1];exact g2,g3⟩
   |none=>exact h.elim
  |_=>exact h.elim
theorem JHg{c:Av}(hi:H i=none)(hh:handle i c)(hv:VRep β A w H c u):False:=by
 rcases hh with⟨off,rfl⟩|⟨ver,rfl⟩|⟨ver,off,len,rfl⟩|⟨ver,k,off,rfl⟩|rfl|⟨h,rfl⟩<;>cases hv<;>simp_all
theorem JHh{q:List (Nat×Nat)}{c:Nat}(h:inner sz xs q=some (p,k,c,sz',ys)):q=p++[(k,c)]∧nodeAt (.own sz xs) q=some (.own sz' ys):=by
 unfold inner at h;split at h
 ·rename_i k' c' hl;split at h
  ·rename_i sz2 zs hn;cases h;refine⟨?_,hn⟩;obtain⟨ys,rfl⟩:=List.getLast?_eq_some_iff.1 hl;rw[List.dropLast_concat]
  ·cases h
 ·cases h
theorem Stp.detach(hc:Core β A w H){d:Nat}(hi:H i=some (.tre ver s sz xs)){h:Hd}(hk:h.k=none)(hver:h.ver=ver)(hsv:h.sv=s)(hv:VRep β A w H (.tr i h) u){c:Nat}
  (hin:inner sz xs h.p=some (p,k,c,sz',ys))(hda:(flat ys).any Z5=false)(hd:H d=none)(hs':0<sz')(hys:∀y∈ys,y.cells.length=sz')(hyb:ys.length≤68719476736):
  ∃β',Stp β A w H β' A w (upd (upd H i (some (.tre ver (s+1) sz (JDb (setAt (.own sz xs) p k c .opq))))) d (some (.row 0 sz' ys)))∧
   VRep β' A w (upd (upd H i (some (.tre ver (s+1) sz (JDb (setAt (.own sz xs) p k c .opq))))) d (some (.row 0 sz' ys))) (.ms d 0) u:=by
 obtain⟨hq,hnq⟩:=JHh hin;have hid:i≠d:=fun e=>by subst e;rw[hi]at hd;cases hd
 obtain⟨u2,o1,o2,o3,o4⟩:=hc.objs _ _ hi;have hA:∀b∈(β i).all,¬A b:=fun b hb=>hc.sep i _ b hi rfl hb
 cases hv with
 |tr _ _ _ hu h0 hk' h1=>
 obtain⟨_,_,l3⟩:=h1 _ _ _ _ hi;obtain⟨u0,u1,r1,r2,r3⟩:=l3 hver (.inr hsv);rw[hk]at r3;have r3:u=u1:=r3;subst r3;have o5:=r1.own o1 o3 o4;rw[hq]at r2 hnq;obtain⟨ad,n,cap,sz1,ys1,g1,g2,y,g3,g4,s2,zs2,rfl⟩:=JHf r2;have hn2:=JLr g2 g3;rw[hnq]at hn2;have e2:Dat.own s2 zs2=Dat.own sz' ys:=by
  have:nodeAt (.own s2 zs2) []=some (.own s2 zs2):=rfl;rw[this]at hn2;exact(Option.some.inj hn2).symm
 rw[e2]at g3;obtain⟨uP,FP,n1,n2,_,n3⟩:=o5.node g2;have:=JGS g1 n1;subst this;have hkl:k<ys1.length:=by
  unfold cellAt at g3;cases e:ys1[k]? with
  |none=>rw[e]at g3;cases g3
  |some z=>exact(VB.1 e).1
 obtain⟨b,C,T,cap2,Fs,m1,m2,m3,m4,m5,m6,_⟩:=Ya n2 oM;cases m1;obtain⟨_,hcl,hgd⟩:=ZI g3 m6;obtain⟨F0,v0,C0,T0,i1,i2,i3,i4,i5,i6,i7,i8,i9,i10,i11,i12⟩:=o5.set o2 g1 g2 hkl hcl;rw[m3]at i2;cases i2;have hv0:v0=u:=by
  have:w.cell? ⟨b,k*sz1+c,none⟩=some u:=g4;simp only[World.cell?,m3]at this;simp only[Option.isSome_none,Vu,if_false]at this;rw[i3]at this;exact Option.some.inj this
 subst hv0;have i9:Own A w F0 (.own sz' ys) v0:=by rw[←hgd];exact i9
 have hCs:C.setIfInBounds (k*sz1+c) v0=C:=by
  apply Array.ext_getElem?;intro j;rw[Array.getElem?_setIfInBounds];split
  ·rename_i e;subst e;split
   ·exact i3.symm
   ·rename_i hlt;rw[Array.getElem?_eq_none oM]
  ·rfl
 obtain⟨F',q1,q2,q3,q4⟩:=i12 A w [] .opq v0 (fun _ _=>rfl) (fun _ h=>h) (fun _ _ _ _=>rfl) (by rw[hCs];exact m3) (.dat _ _ (.opq v0 i4)) rfl i4 List.nodup_nil (fun b' h1=>by cases h1);obtain⟨xs',ex,lx⟩:=JCV (sz:=sz) (xs:=xs) p k c .opq;rw[ex]at q1⊢;have e:JDb (Dat.own sz xs')=xs':=rfl;rw[e];have hall:BK.all ⟨(β i).r,F'.tail⟩=F':=JJV (q4.trans o4.symm);have hrow:∃ob:Option Nat,F0=ob.toList∧((ob=none∧ys=[]∧∃a,v0=.slice a 0 0)∨∃b C T cap,ob=some b∧w.heap[b]? =some (.cells C T (0,0))∧C.size=cap*sz'∧ys.length≤cap∧v0=.slice (some ⟨b,0,none⟩) ys.length cap∧
   (∀(j:Nat) v,j<(flat ys).length→C[j]? =some v→v.oneCell'=true)∧∀(j:Nat) c v,(flat ys)[j]? =some c→C[j]? =some v→Rep A w c v):=by
  generalize hD:Dat.own sz' ys=D at i9;cases i9 with
  |dat _ _ h=>subst hD;cases h
  |nil _ a _=>cases hD;exact⟨none,rfl,.inl ⟨rfl,rfl,a,rfl⟩⟩
  |row _ _ b C T cap n Fs hh hC hn hl hcl hs hsz hFl h1 hv=>
   cases hD;have hCl:(flat ys).length≤C.size:=by rw[UB hsz,hC];exact Nat.mul_le_mul_right _ hl
   have hno:∀(j:Nat) c,(flat ys)[j]? =some c→Z5 c=false:=fun j c hj=>by
    have:=List.any_eq_false.1 hda c (List.mem_of_getElem? hj);simpa using this
   have hFe:Fs.flatten=[]:=by
    rw[List.flatten_eq_nil_iff];intro F hF;obtain⟨j,hj⟩:=List.getElem?_of_mem hF;have hjl:j<(flat ys).length:=by rw[←hFl];exact(VB.1 hj).1
    exact(JHe (hv j _ C[j] F (Vl hjl) (Array.getElem?_eq_getElem oM) hj) (hno j _ (Vl hjl))).1
   refine⟨some b,by rw[hFe];rfl,.inr ⟨b,C,T,cap,rfl,hh,hC,hl,by rw[hn],h1,fun j c v hj hv'=>?_⟩⟩;have hjl:=(VB.1 hj).1;exact(JHe (hv j c v _ hj hv' (Vl (by omega:j<Fs.length))) (hno j c hj)).2
 obtain⟨ob,hob,hrow⟩:=hrow;have hHi:upd (upd H i (some (.tre ver (s+1) sz xs'))) d (some (.row 0 sz' ys)) i=some (.tre ver (s+1) sz xs'):=by rw[JN _ _ hid,JB]
 have hHd:upd (upd H i (some (.tre ver (s+1) sz xs'))) d (some (.row 0 sz' ys)) d=some (.row 0 sz' ys):=JB _ _ _;have hβi:upd (upd β i ⟨(β i).r,F'.tail⟩) d (ob:BK) i=⟨(β i).r,F'.tail⟩:=by rw[JN _ _ hid,JB]
 have hβd:upd (upd β i ⟨(β i).r,F'.tail⟩) d (ob:BK) d=(ob:BK):=JB _ _ _;have hroot:∀u,Xe β w i sz xs.length u→Xe (upd (upd β i ⟨(β i).r,F'.tail⟩) d (ob:BK)) w i sz xs.length u:=fun u h=>h.keep (by rw[hβi]) fun b' C' T' fz' _ hb'=>⟨C',hb',rfl⟩
 have hobF:∀b',BK.has (ob:BK) b'→b'∈F0:=fun b' hb'=>by
  rw[hob];have:=BK.Jo.1 hb';rw[this];simp
 refine⟨upd (upd β i ⟨(β i).r,F'.tail⟩) d (ob:BK),?_,?_⟩
 ·refine Stp.many hc (fun t=>t=i∨t=d) ?_ ?_ rfl rfl rfl (Nat.le_refl _) (fun _ _ _=>rfl) (fun _ h=>h) (fun _ h=>.inl h) hc.old ?_ ?_ ?_ ?_ ?_
  ·intro t ht;rw[JN _ _ fun e=>ht (.inr e),JN _ _ fun e=>ht (.inl e)]
  ·intro t ht;rw[JN _ _ fun e=>ht (.inr e),JN _ _ fun e=>ht (.inl e)]
  ·intro t o b' ht ho hlo hb';rcases ht with rfl|rfl
   ·rw[hβi]at hb';have hb2:b'∈F':=by rw[←hall];exact hb'
    rcases(q3 b').1 hb2 with h|h
    ·exact⟨.inr ⟨t,_,.inl rfl,hi,rfl,h.1⟩,hA b' h.1⟩
    ·cases h
   ·rw[hβd]at hb';have hb2:=(i10 b' (hobF b' hb')).1;exact⟨.inr ⟨i,_,.inl rfl,hi,rfl,hb2⟩,hA b' hb2⟩
  ·intro t t' o o' b' ht ht' ho hlo ho' hlo' hb1 hb2;have no:∀b',BK.has (upd (upd β i ⟨(β i).r,F'.tail⟩) d (ob:BK) i) b'→BK.has (upd (upd β i ⟨(β i).r,F'.tail⟩) d (ob:BK) d) b'→False:=by
    intro b' h1 h2;rw[hβi]at h1;rw[hβd]at h2;have h3:b'∈F':=by rw[←hall];exact h1
    rcases(q3 b').1 h3 with h|h
    ·exact h.2 (hobF b' h2)
    ·cases h
   rcases ht with rfl|rfl<;>rcases ht' with rfl|rfl
   ·rfl
   ·exact(no b' hb1 hb2).elim
   ·exact(no b' hb2 hb1).elim
   ·rfl
  ·intro t c u ht hh hvr;rcases ht with rfl|rfl
   ·refine Xx (.inl hi) hHi (Nat.le_refl _) (Nat.le_succ _) hh hvr ?_;intro _ h u hsv hver hp hold hvv;have hp0:h.p=[]:=by
     rcases hp with hp|hp
     ·exact hp
     ·omega
    exact(hold rfl (.inl hp0)).top hp0 lx hroot
   ·exact(JHg hd hh hvr).elim
  ·intro hv' t o ht ho;rcases ht with rfl|rfl
   ·have ho':some (Obj.tre ver (s+1) sz xs')=some o:=hHi.symm.trans ho;cases ho';refine⟨u0,?_,?_,by rw[show xs'.length=xs.length from lx];exact hroot _ r1,?_⟩
    ·rw[hβi,hall];exact q1
    ·rw[hβi,hall];exact q2
    ·rw[hβi,hall];exact o4.trans q4.symm
   ·have ho':some (Obj.row 0 sz' ys)=some o:=hHd.symm.trans ho;cases ho';refine⟨hs',hys,hyb,?_⟩;rcases hrow with⟨rfl,g2,_⟩|⟨b',C',T',cap',rfl,g2,g3,g4,_,g6,g7⟩
    ·exact .inl ⟨hβd,g2⟩
    ·exact .inr ⟨b',C',T',cap',hβd,g2,g3,g4,g6,g7⟩
  ·rintro b' r hb' ⟨t,o,ht,ho,hlo,hb2⟩;exact⟨r,hb'⟩
 ·refine .ms _ _ _ hu (by rw[hHd];rfl) ?_ (by intro sz3 xs3 h3;rw[hHd]at h3;cases h3);intro v3 sz3 xs3 h3;have h3':=hHd.symm.trans h3;cases h3';refine⟨Nat.le_refl _,fun _=>?_⟩;rcases hrow with⟨rfl,g2,a,g3⟩|⟨b',C',T',cap',rfl,g2,g3,g4,g5,g6,g7⟩
  ·exact .inl ⟨hβd,by rw[g2];rfl,a,g3⟩
  ·exact .inr ⟨b',C',T',(0,0),cap',hβd,g2,g3,g4,g5⟩
theorem ZK(hc:Core β A w H){v:Av}(hv:VRep β A w H v u){q:Prop}{j:Nat}{zs:List Dat}(ho:X5 H v=some (q,j,sz,zs))(hq:q):
  ∃oj,H j=some oj∧oj.live=true∧Own A w (β j).all (.own sz zs) u∧(β j).all.Nodup∧(β j).r=(β j).all.head?∧Xe β w j sz zs.length u:=by
 unfold X5 at ho;split at ho
 ·rename_i j' h;split at ho
  ·rename_i v' s' sz' zs' ek ep hj;cases ho;cases hv with
   |tr _ _ _ hu h0 hk h1=>
    obtain⟨_,_,l3⟩:=h1 _ _ _ _ hj;obtain⟨a0,a1,r1,r2,r3⟩:=l3 hq (.inl ep);rw[ep]at r2;have e:=JDg r2;subst e;rw[ek]at r3;subst r3;obtain⟨u2,o1,o2,o3,o4⟩:=hc.objs _ _ hj;exact⟨_,hj,rfl,r1.own o1 o3 o4,o2,o4,r1⟩
  ·cases ho
 ·rename_i j' ver;split at ho
  ·rename_i v' sz' zs' hj;cases ho;cases hv with
   |ms _ _ _ hu h0 h1 h2=>
    have hrv:=(h1 _ _ _ hj).2 hq.symm;obtain⟨g1,g2⟩:=(hc.objs _ _ hj).ownRow hrv;refine⟨_,hj,rfl,g1,g2,?_,?_⟩
    ·rcases hrv with⟨e1,_⟩|⟨b,C,T,fz,cap,e1,_⟩<;>rw[e1]<;>rfl
    ·rcases hrv with⟨e1,e2⟩|⟨b,C,T,fz,cap,e1,e2⟩
     ·exact .inl ⟨by rw[e1],e2⟩
     ·exact .inr ⟨b,C,T,fz,cap,by rw[e1],e2⟩
  ·cases ho
 ·cases ho
theorem JJW{p:Nat}{v:Value}(h:p<C.size):(Jh C.toList p [v]).toArray=C.setIfInBounds p v:=by
 apply Array.ext';rw[Array.toList_setIfInBounds];show Jh C.toList p [v]=_;rw[←JC1 (r:=[]) (by simp only[Vf,Vm,Array.length_toList];omega)];simp[Jh]
end
end Av
