/- What a world owns: a list of items, each on blocks of its own, all new since a world 'we', and a list of blocks that are only read. What single operations do, for the walk over an environment. -/
import Derived.Test.YtcikdogkkgefcaaGreatDoorProg
import Derived.Test.YtcikdogkkgefcaaGreatDoorRows
import Derived.WalkKit
import Derived.OrdersHeld
import Derived.Deep.Quiet
namespace Go.Proofs.YtcikdogkkgefcaaGreatDoor
set_option maxRecDepth 8000
set_option maxHeartbeats 16000000
set_option linter.unusedVariables false
set_option linter.unusedSimpArgs false
open Go Go.RowKit
abbrev pI (x:Int):Value:=.int .i64 x
abbrev pP (b:Nat):Value:=.pointer (some ⟨b,0,none⟩)
structure HP where
 holds:World→List Nat→Prop
 loc:∀{w w':World} {X:List Nat},holds w X→(∀b∈X,w'.heap[b]? = w.heap[b]?)→holds w' X
def Blk (b:Nat)(o:Obj):HP where
 holds w X:=X=[b]∧w.heap[b]? = some o
 loc:=fun⟨hx,h⟩ hk=>⟨hx,by rw[hk _ (by simp[hx])];exact h⟩
abbrev Row (b:Nat)(cs:List Value)(e:TypeId):HP:=Blk b (.cells cs.toArray e (0,0))
def HP.star (A B:HP):HP where
 holds w X:=∃X1 X2,X=X1++X2∧A.holds w X1∧B.holds w X2
 loc:=fun⟨X1,X2,hx,h1,h2⟩ hk=>⟨X1,X2,hx,A.loc h1 (fun b hb=>hk b (by simp[hx,hb])),B.loc h2 (fun b hb=>hk b (by simp[hx,hb]))⟩
def HP.ex {α:Type}(f : α→HP):HP where
 holds w X:=∃a,(f a).holds w X
 loc:=fun⟨a,h⟩ hk=>⟨a,(f a).loc h hk⟩
def HP.pure (p:Prop)(A:HP):HP where
 holds w X:=p∧A.holds w X
 loc:=fun⟨hp,h⟩ hk=>⟨hp,A.loc h hk⟩
def sep:List HP→World→List Nat→Prop
 | [],_,X=>X=[]
 | A :: σ,w,X=>∃X1 X2,X=X1++X2∧A.holds w X1∧sep σ w X2
theorem zIB:∀{σ:List HP} {w w':World} {X:List Nat},sep σ w X→(∀b∈X,w'.heap[b]? = w.heap[b]?)→sep σ w' X
 | [],_,_,_,h,_=>h
 | A::_,_,_,_,⟨X1,X2,hx,h1,h2⟩,hk =>
   ⟨X1,X2,hx,A.loc h1 (fun b hb=>hk b (by simp[hx,hb])),zIB h2 (fun b hb=>hk b (by simp[hx,hb]))⟩
structure St (we:World)(ρ:List (Nat × Obj))(σ:List HP)(w:World):Prop where
 below:Below we.heap.size we w
 own:∃X,sep σ w X∧X.Nodup∧(∀b∈X,we.heap.size≤b∧b<w.heap.size)∧(∀x ∈ ρ,x.1∉X)
 ro:∀x ∈ ρ,w.heap[x.1]? = some x.2
inductive Has (A:HP):List HP→Prop
 | head {σ}:Has A (A :: σ)
 | tail {B σ}:Has A σ→Has A (B :: σ)
inductive Take (A:HP):List HP→List HP→Prop
 | head {σ}:Take A (A :: σ) σ
 | tail {B σ σ'}:Take A σ σ'→Take A (B :: σ) (B :: σ')
inductive Put (A A':HP):List HP→List HP→Prop
 | head {σ}:Put A A' (A :: σ) (A' :: σ)
 | tail {B σ σ'}:Put A A' σ σ'→Put A A' (B :: σ) (B :: σ')
theorem Put.take {A A':HP}{σ σ':List HP}(h:Put A A' σ σ'):∃F,Take A σ F∧Take A' σ' F:=by
 induction h with
 | head=>exact⟨_,.head,.head⟩
 | tail _ ih=>obtain⟨F,h1,h2⟩:=ih;exact⟨_,.tail h1,.tail h2⟩
theorem Has.take {A:HP}{σ:List HP}(h:Has A σ):∃F,Take A σ F:=by
 induction h with
 | head=>exact⟨_,.head⟩
 | tail _ ih=>obtain⟨F,h1⟩:=ih;exact⟨_,.tail h1⟩
theorem Put.has {A A':HP}{σ σ':List HP}(h:Put A A' σ σ'):Has A σ:=by
 induction h with
 | head=>exact .head
 | tail _ ih=>exact .tail ih
theorem zOQ {A:HP}{σ F:List HP}(h:Take A σ F):∀{w:World} {X:List Nat},sep σ w X →
 ∃X1 X2,X.Perm (X1++X2)∧A.holds w X1∧sep F w X2:=by
 induction h with
 | head=>rintro w X ⟨X1,X2,rfl,h1,h2⟩;exact⟨X1,X2,.refl _,h1,h2⟩
 | tail _ ih =>
   rintro w X ⟨Y1,Y2,rfl,h1,h2⟩;obtain⟨X1,X2,hp,ha,hs⟩:=ih h2;refine⟨X1,Y1++X2,?_,ha,Y1,X2,rfl,h1,hs⟩;exact(List.Perm.append_left Y1 hp).trans (List.perm_append_comm_assoc Y1 X1 X2)
theorem zPJ {A:HP}{σ F:List HP}(h:Take A σ F):∀{w:World} {X1 X2:List Nat},A.holds w X1→sep F w X2 →
 ∃X,X.Perm (X1++X2)∧sep σ w X:=by
 induction h with
 | head=>intro w X1 X2 h1 h2;exact⟨X1++X2,.refl _,X1,X2,rfl,h1,h2⟩
 | tail _ ih =>
   rintro w X1 X2 h1 ⟨Y1,Y2,rfl,hb,h2⟩;obtain⟨X,hp,hs⟩:=ih h1 h2;refine⟨Y1++X,?_,Y1,X,rfl,hb,hs⟩;exact(List.Perm.append_left Y1 hp).trans (List.perm_append_comm_assoc Y1 X1 Y2)
inductive Picks:List HP→List HP→Prop
 | all {σ}:Picks σ σ
 | nil {σ}:Picks [] σ
 | cons {A σ F r}:Take A σ F→Picks r F→Picks (A::r) σ
 | drop {B σ r}:Picks r σ→Picks r (B :: σ)
theorem zRA {σ' σ:List HP}(h:Picks σ' σ):∀{w:World} {X:List Nat},sep σ w X→∃Y Z,X.Perm (Y++Z)∧sep σ' w Y:=by
 induction h with
 | all=>intro w X h;exact⟨X,[],by simp,h⟩
 | nil=>intro w X h;exact⟨[],X,by simp,rfl⟩
 | cons ht _ ih =>
   intro w X h;obtain⟨X1,X2,hp,ha,hf⟩:=zOQ ht h;obtain⟨Y,Z,hq,hs⟩:=ih hf;refine⟨X1++Y,Z,?_,X1,Y,rfl,ha,hs⟩;rw[List.append_assoc];exact hp.trans (List.Perm.append_left X1 hq)
 | drop _ ih =>
   rintro w X ⟨X1,X2,rfl,_,h2⟩;obtain⟨Y,Z,hq,hs⟩:=ih h2;refine⟨Y,X1++Z,?_,hs⟩;exact(List.Perm.append_left X1 hq).trans (List.perm_append_comm_assoc X1 Y Z)
section
variable {we w w':World}{ρ:List (Nat × Obj)}{σ σ' F:List HP}{A A' B:HP}
theorem St.start (w:World)(ρ:List (Nat × Obj))(h:∀x ∈ ρ,w.heap[x.1]? = some x.2):St w ρ [] w :=
 ⟨Below.refl _ _,⟨[],rfl,List.nodup_nil,by simp,by simp⟩,h⟩
theorem St.take (h:St we ρ σ w)(ht:Take A σ F):St we ρ (A::F) w:=by
 obtain⟨hb,⟨X,hs,hn,hr,hρ⟩,hro⟩:=h;obtain⟨X1,X2,hp,ha,hf⟩:=zOQ ht hs;refine⟨hb,⟨X1++X2,⟨X1,X2,rfl,ha,hf⟩,hp.nodup_iff.1 hn,fun b hb'=>hr b (hp.mem_iff.2 hb'),fun x hx hx'=>hρ x hx (hp.mem_iff.2 hx')⟩,hro⟩
theorem St.untake (h:St we ρ (A::F) w)(ht:Take A σ F):St we ρ σ w:=by
 obtain⟨hb,⟨X,⟨X1,X2,rfl,ha,hf⟩,hn,hr,hρ⟩,hro⟩:=h;obtain⟨X,hp,hs⟩:=zPJ ht ha hf;refine⟨hb,⟨X,hs,hp.nodup_iff.2 hn,fun b hb'=>hr b (hp.mem_iff.1 hb'),fun x hx hx'=>hρ x hx (hp.mem_iff.1 hx')⟩,hro⟩
theorem St.tail (h:St we ρ (A :: σ) w):St we ρ σ w:=by
 obtain⟨hb,⟨X,⟨X1,X2,rfl,ha,hf⟩,hn,hr,hρ⟩,hro⟩:=h;exact⟨hb,⟨X2,hf,(List.nodup_append.1 hn).2.1,fun b hb'=>hr b (by simp[hb']),fun x hx hx'=>hρ x hx (by simp[hx'])⟩,hro⟩
theorem St.take2 {F':List HP}(h:St we ρ σ w)(ht:Take A σ F)(ht':Take B F F'):St we ρ (A::B::F') w:=by
 have h1:=h.take ht;exact(h1.take (.tail ht')).take (.tail .head)
theorem St.untake2 {F':List HP}(h:St we ρ (A::B::F') w)(ht:Take A σ F)(ht':Take B F F'):St we ρ σ w :=
 ((h.take (.tail .head)).untake (.tail ht')).untake ht
theorem St.drop (h:St we ρ σ w)(ht:Take A σ F):St we ρ F w:=(h.take ht).tail
theorem St.picks (h:St we ρ σ w)(hp:Picks σ' σ):St we ρ σ' w:=by
 obtain⟨hb,⟨X,hs,hn,hr,hρ⟩,hro⟩:=h;obtain⟨Y,Z,hq,hs'⟩:=zRA hp hs;have hn':=hq.nodup_iff.1 hn;refine⟨hb,⟨Y,hs',(List.nodup_append.1 hn').1,fun b hb'=>hr b (hq.mem_iff.2 (by simp[hb'])),fun x hx hx'=>hρ x hx (hq.mem_iff.2 (by simp[hx']))⟩,hro⟩
theorem St.turn (h:St we ρ (A :: σ) w)(hos:w'.os=w.os)(htape:w'.tape=w.tape)(hout:w'.output=w.output)(hsize:w.heap.size≤w'.heap.size)
 (ht:∀X,A.holds w X→X.Nodup→∃X',A'.holds w' X'∧X'.Nodup∧(∀b∈X',b∈X∨w.heap.size≤b)∧(∀b∈X',b<w'.heap.size)∧(∀b,b<w.heap.size→b∉X→w'.heap[b]? = w.heap[b]?)) :
 St we ρ (A' :: σ) w':=by
 obtain⟨hb,⟨X,⟨X1,X2,rfl,ha,hf⟩,hn,hr,hρ⟩,hro⟩:=h;obtain⟨hn1,hn2,hd⟩:=List.nodup_append.1 hn;obtain⟨X',ha',hn',hsub,hlt,hk⟩:=ht X1 ha hn1;have hsz:=hb.size;refine⟨⟨hos.trans hb.os,htape.trans hb.tape,hout.trans hb.output,Nat.le_trans hb.size hsize,fun k hk'=>?_⟩,
  ⟨X'++X2,⟨X',X2,rfl,ha',zIB hf (fun b hb2=>hk b (hr b (by simp[hb2])).2 (fun h1=>hd b h1 b hb2 rfl))⟩,?_,?_,?_⟩,?_⟩
 · rw[hk k (by omega) (fun h1=>by have:=(hr k (by simp[h1])).1;omega)]
   exact hb.block k hk'
 · refine List.nodup_append.2 ⟨hn',hn2,fun a h1 b h2 e=>?_⟩
   subst e;rcases hsub a h1 with h3|h3
   · exact hd a h3 a h2 rfl
   · have:=(hr a (by simp[h2])).2;omega
 · intro b hb2
   rcases List.mem_append.1 hb2 with h1|h1
   · refine⟨?_,hlt b h1⟩
     rcases hsub b h1 with h3|h3
     · exact(hr b (by simp[h3])).1
     · omega
   · have:=hr b (by simp[h1]);omega
 · intro x hx hx'
   rcases List.mem_append.1 hx' with h1|h1
   · rcases hsub x.1 h1 with h3|h3
     · exact hρ x hx (by simp[h3])
     · have:=(Array.getElem?_eq_some_iff.1 (hro x hx)).1;omega
   · exact hρ x hx (by simp[h1])
 · intro x hx
   rw[hk x.1 (Array.getElem?_eq_some_iff.1 (hro x hx)).1 (fun h1=>hρ x hx (by simp[h1]))];exact hro x hx
theorem St.turnAt (h:St we ρ σ w)(hp:Put A A' σ σ')(hos:w'.os=w.os)(htape:w'.tape=w.tape)(hout:w'.output=w.output)(hsize:w.heap.size≤w'.heap.size)
 (ht:∀X,A.holds w X→X.Nodup→∃X',A'.holds w' X'∧X'.Nodup∧(∀b∈X',b∈X∨w.heap.size≤b)∧(∀b∈X',b<w'.heap.size)∧(∀b,b<w.heap.size→b∉X→w'.heap[b]? = w.heap[b]?)) :
 St we ρ σ' w':=by
 obtain⟨F,h1,h2⟩:=hp.take;exact((h.take h1).turn hos htape hout hsize ht).untake h2
theorem St.grow (h:St we ρ σ w)(hos:w'.os=w.os)(htape:w'.tape=w.tape)(hout:w'.output=w.output)(hsize:w.heap.size≤w'.heap.size)
 (hk:∀b,b<w.heap.size→w'.heap[b]? = w.heap[b]?):St we ρ σ w':=by
 obtain⟨hb,⟨X,hs,hn,hr,hρ⟩,hro⟩:=h;have hsz:=hb.size;refine⟨⟨hos.trans hb.os,htape.trans hb.tape,hout.trans hb.output,Nat.le_trans hb.size hsize,fun k hk'=>?_⟩,
  ⟨X,zIB hs (fun b hb2=>hk b (hr b hb2).2),hn,fun b hb2=>by have:=hr b hb2;omega,hρ⟩,fun x hx=>?_⟩
 · rw[hk k (by omega)];exact hb.block k hk'
 · rw[hk x.1 (Array.getElem?_eq_some_iff.1 (hro x hx)).1];exact hro x hx
theorem St.drew (h:St we ρ σ w):St we ρ σ w.drew:=h.grow rfl rfl rfl (Nat.le_refl _) (fun _ _=>rfl)
theorem St.drew' (h:St we ρ σ w)(n:Nat):St we ρ σ { w with drawn:=n }:=h.grow rfl rfl rfl (Nat.le_refl _) (fun _ _=>rfl)
theorem St.alloc (h:St we ρ σ w)(o:Obj):St we ρ (Blk w.heap.size o :: σ) (w.alloc o):=by
 have h':=h.grow (w':=w.alloc o) rfl rfl rfl (by simp) (fun b hb=>Below.heap_alloc w o b hb);obtain⟨hb',⟨X,hs,hn,hr,hρ⟩,hro⟩:=h;obtain⟨hb2,_,hro2⟩:=h';have hsz:=hb'.size;refine⟨hb2,⟨w.heap.size::X,⟨[w.heap.size],X,rfl,⟨rfl,heap_alloc_new w o⟩,zIB hs (fun b hb=>Below.heap_alloc w o b (hr b hb).2)⟩,?_,?_,?_⟩,hro2⟩
 · refine List.nodup_cons.2 ⟨fun hx=>?_,hn⟩
   have:=(hr _ hx).2;omega
 · intro b hb3
   rcases List.mem_cons.1 hb3 with rfl|h1
   · simp;omega
   · have:=hr b h1;simp;omega
 · intro x hx hx'
   rcases List.mem_cons.1 hx' with h1|h1
   · have:=(Array.getElem?_eq_some_iff.1 (hro x hx)).1;omega
   · exact hρ x hx h1
theorem St.lt (h:St we ρ σ w){b:Nat}{o:Obj}(hm:Has (Blk b o) σ):w.heap[b]? = some o:=by
 obtain⟨F,ht⟩:=hm.take;obtain⟨X,⟨X1,X2,rfl,ha,_⟩,_⟩:=(h.take ht).own;exact ha.2
theorem St.write (h:St we ρ σ w){b:Nat}{o o':Obj}(hp:Put (Blk b o) (Blk b o') σ σ')(hos:w'.os=w.os)(htape:w'.tape=w.tape)(hout:w'.output=w.output)(hsize:w'.heap.size=w.heap.size)
 (hb:w'.heap[b]? = some o') (hk:∀k,k≠b→w'.heap[k]? = w.heap[k]?):St we ρ σ' w':=by
 refine h.turnAt hp hos htape hout (by omega) (fun X hX hn=>⟨[b],⟨rfl,hb⟩,by simp,?_,?_,?_⟩)
 · intro k hk';rw[hX.1];simp at hk';simp[hk']
 · intro k hk';simp at hk';subst hk'
   exact(Array.getElem?_eq_some_iff.1 hb).1
 · intro k _ hk';exact hk k (fun e=>hk' (by rw[hX.1];simp[e]))
theorem St.freeze {b:Nat}{o:Obj}(h:St we ρ (Blk b o :: σ) w):St we ((b,o) :: ρ) σ w:=by
 obtain⟨hb,⟨X,⟨X1,X2,rfl,ha,hf⟩,hn,hr,hρ⟩,hro⟩:=h;obtain⟨hn1,hn2,hd⟩:=List.nodup_append.1 hn;obtain⟨rfl,ho⟩:=ha;refine⟨hb,⟨X2,hf,hn2,fun k hk=>hr k (by simp[hk]),?_⟩,?_⟩
 · intro x hx
   rcases List.mem_cons.1 hx with rfl|h1
   · exact fun h2=>hd b (by simp) b h2 rfl
   · exact fun h2=>hρ x h1 (by simp[h2])
 · intro x hx
   rcases List.mem_cons.1 hx with rfl|h1
   · exact ho
   · exact hro x h1
theorem St.ro_tail {x:Nat × Obj}(h:St we (x :: ρ) σ w):St we ρ σ w:=by
 obtain⟨hb,⟨X,hs,hn,hr,hρ⟩,hro⟩:=h;exact⟨hb,⟨X,hs,hn,hr,fun y hy=>hρ y (by simp[hy])⟩,fun y hy=>hro y (by simp[hy])⟩
theorem St.star:St we ρ (HP.star A B :: σ) w↔St we ρ (A::B :: σ) w:=by
 constructor
 · rintro⟨hb,⟨X,⟨X1,X2,rfl,⟨Y1,Y2,rfl,ha,hb'⟩,hf⟩,hn,hr,hρ⟩,hro⟩
   exact⟨hb,⟨Y1++Y2++X2,⟨Y1,Y2++X2,by simp,ha,Y2,X2,rfl,hb',hf⟩,hn,hr,hρ⟩,hro⟩
 · rintro⟨hb,⟨X,⟨Y1,Z,rfl,ha,Y2,X2,rfl,hb',hf⟩,hn,hr,hρ⟩,hro⟩
   exact⟨hb,⟨Y1++(Y2++X2),⟨Y1++Y2,X2,by simp,⟨Y1,Y2,rfl,ha,hb'⟩,hf⟩,hn,hr,hρ⟩,hro⟩
theorem St.ex {α:Type}{f : α→HP}(h:St we ρ (HP.ex f :: σ) w):∃a,St we ρ (f a :: σ) w:=by
 obtain⟨hb,⟨X,⟨X1,X2,rfl,⟨a,ha⟩,hf⟩,hn,hr,hρ⟩,hro⟩:=h;exact⟨a,hb,⟨X1++X2,⟨X1,X2,rfl,ha,hf⟩,hn,hr,hρ⟩,hro⟩
theorem St.ex_mk {α:Type}{f : α→HP}(a : α)(h:St we ρ (f a :: σ) w):St we ρ (HP.ex f :: σ) w:=by
 obtain⟨hb,⟨X,⟨X1,X2,rfl,ha,hf⟩,hn,hr,hρ⟩,hro⟩:=h;exact⟨hb,⟨X1++X2,⟨X1,X2,rfl,⟨a,ha⟩,hf⟩,hn,hr,hρ⟩,hro⟩
theorem St.pure {p:Prop}(h:St we ρ (HP.pure p A :: σ) w):p∧St we ρ (A :: σ) w:=by
 obtain⟨hb,⟨X,⟨X1,X2,rfl,⟨hp,ha⟩,hf⟩,hn,hr,hρ⟩,hro⟩:=h;exact⟨hp,hb,⟨X1++X2,⟨X1,X2,rfl,ha,hf⟩,hn,hr,hρ⟩,hro⟩
theorem St.pure_mk {p:Prop}(hp:p)(h:St we ρ (A :: σ) w):St we ρ (HP.pure p A :: σ) w:=by
 obtain⟨hb,⟨X,⟨X1,X2,rfl,ha,hf⟩,hn,hr,hρ⟩,hro⟩:=h;exact⟨hb,⟨X1++X2,⟨X1,X2,rfl,⟨hp,ha⟩,hf⟩,hn,hr,hρ⟩,hro⟩
end
attribute [irreducible] Blk HP.star HP.ex HP.pure
abbrev Env:=List (Nat × Value)
def Env.get:Env→Nat→Option Value
 | [],_=>none
 | (k,v)::e,t=>bif Nat.beq k t then some v else Env.get e t
structure Ok (n:Nat)(e:Env)(a:Act):Prop where
 size:a.tmps.size=n
 defers:a.defers=[]
 get:∀t v,e.get t=some v→a.tmps[t]? = some v
theorem Ok.put {n:Nat}{e:Env}{a:Act}(h:Ok n e a){d:Nat}(hd:Nat.blt d n=true)(v:Value):Ok n ((d,v)::e) (a.put (some d) v):=by
 have hd':d<n:=by simpa[Nat.blt_eq]using hd
 refine⟨by simp[Act.put,h.size],h.defers,fun t u ht=>?_⟩;simp only[Act.put];simp only[Env.get]at ht;by_cases e1:d=t
 · subst e1
   simp at ht;subst ht;rw[Array.getElem?_setIfInBounds_self];simp[h.size,hd']
 · have hb:Nat.beq d t=false:=by
    cases hh:Nat.beq d t with
    | false=>rfl
    | true=>exact absurd (Nat.eq_of_beq_eq_true hh) e1
   rw[hb]at ht;rw[Array.getElem?_setIfInBounds_ne e1];exact h.get t u ht
def ev (e:Env):Operand→Option Value
 | .tmp t=>e.get t
 | .const v=>some v
 | .global g=>some (.pointer (some ⟨g,0,none⟩))
 | .func f=>some (.func (.func f) #[] #[])
theorem Ok.ev {n:Nat}{e:Env}{a:Act}(h:Ok n e a){x:Operand}{v:Value}(hx:ev e x=some v):a.eval x=v:=by
 cases x with
 | tmp t =>
   have:=h.get t v hx;simp only[Act.eval,Array.getD_eq_getD_getElem?,this,Option.getD_some]
 | const u=>simpa[Proofs.YtcikdogkkgefcaaGreatDoor.ev,Act.eval]using hx
 | global g=>simpa[Proofs.YtcikdogkkgefcaaGreatDoor.ev,Act.eval]using hx
 | func f=>simpa[Proofs.YtcikdogkkgefcaaGreatDoor.ev,Act.eval]using hx
def Ends (P:Program)(f:FuncId)(R:Ending→World→Prop)(k:List Item)(a:Act)(w:World):Prop :=
 ∀(b:Frame) (cs:List Frame),b.fn=f→b.kind = .normal →
  ∃en w' fr,R en w'∧Comes P (lone (b.at a k) cs w) (lone fr cs w') en∧fr.fn=f∧fr.leaving P w' en
structure Run (P:Program)(f:FuncId)(n:Nat)(R:Ending→World→Prop)(k:List Item)(e:Env)(w:World):Prop where
 go:∀a,Ok n e a→Ends P f R k a w
def QK (P:Program)(f:FuncId)(R:Ending→World→Prop)(k:List Item):Exit→Act→World→Prop
 | .normal,a,w=>Ends P f R k a w
 | .outgrown,_,w=>R .outgrown w
 | _,_,_=>False
structure RO (P:Program)(f:FuncId)(n:Nat)(R:Ending→World→Prop)(k:List Item)(ops:List Oper)(rest:List Oper)(e:Env)(w:World):Prop where
 go:∀a,Ok n e a→wpList P ops.toArray (QK P f R k) rest a w
def Ret (Φ:Value→World→Prop):Ending→World→Prop
 | .returned v,w => Φ v w
 | _,_=>False
structure Cl (P:Program)(g:FuncId)(args:List Value)(w:World)(Φ:Value→World→Prop):Prop where
 go:Calls P g args.toArray w (Ret Φ)
theorem Cl.mono {P:Program}{g:FuncId}{args:List Value}{w:World}{Φ Ψ : Value→World→Prop}(h:Cl P g args w Φ)(hi:∀v w',Φ v w' → Ψ v w'):Cl P g args w Ψ :=
 ⟨h.go.mono fun en w' hr=>by cases en with
  | returned v=>exact hi v w' hr
  | _=>exact hr.elim⟩
theorem Cl.at {P:Program}{g:FuncId}{args:List Value}{w we:World}{ρ:List (Nat × Obj)}{A:HP}{σ F:List HP}{φ : Value→Prop}(h:Cl P g args w fun v w' => φ v∧St we ρ (A::F) w')(ht:Take A σ F) :
 Cl P g args w fun v w' => φ v∧St we ρ σ w':=h.mono fun v w' ⟨h1,h2⟩=>⟨h1,h2.untake ht⟩
theorem Cl.at2 {P:Program}{g:FuncId}{args:List Value}{w we:World}{ρ:List (Nat × Obj)}{A B:HP}{σ F F':List HP}{φ : Value→Prop}(h:Cl P g args w fun v w' => φ v∧St we ρ (A::B::F') w')(ht:Take A σ F)(ht':Take B F F') :
 Cl P g args w fun v w' => φ v∧St we ρ σ w':=h.mono fun v w' ⟨h1,h2⟩=>⟨h1,h2.untake2 ht ht'⟩
def zMd:Nat→List Value→Env
 | _,[]=>[]
 | i,v::l=>(i,v)::zMd (i+1) l
theorem zKF:∀(l:List Value) (i t:Nat) (v:Value),(zMd i l).get t=some v→i≤t∧l[t - i]? = some v
 | [],_,_,_,h=>by simp[zMd,Env.get]at h
 | u::l,i,t,v,h=>by
   simp only[zMd,Env.get]at h;by_cases e:i=t
   · subst e;simp at h;subst h;simp
   · have hb:Nat.beq i t=false:=by
      cases hh:Nat.beq i t with
      | false=>rfl
      | true=>exact absurd (Nat.eq_of_beq_eq_true hh) e
     rw[hb]at h;have:=zKF l (i+1) t v h;refine⟨by omega,?_⟩;rw[show t - i=(t - (i+1))+1 by omega,List.getElem?_cons_succ];exact this.2
section
variable {P:Program}{f:FuncId}{n:Nat}{R:Ending→World→Prop}{k:List Item}{e:Env}{w:World}
theorem Run.calls {fn:Func}{c:Code}{args:List Value}{w:World}{R:Ending→World→Prop}
 (hf:P.funcs[f]? = some fn) (hb:fn.body=some c) (hn:fn.ntmps=n) (hs:Nat.ble args.length n=true)
 (h:Run P f n R [.code c] (zMd 0 args) w):Calls P f args.toArray w R:=by
 intro cs;have hs':args.length≤n:=by simpa using hs
 let b:Frame:={ (default:Frame)with fn:=f,kind:=.normal }
 have henter:Frame.enter P f args.toArray .normal =
  b.at { tmps:=args.toArray++Array.replicate (fn.ntmps - args.toArray.size) undef,defers:=[] } [.code c]:=by
  simp[Frame.enter,Frame.at,hf,hb,b]
 rw[henter];refine h.go _ ⟨by simp;omega,rfl,fun t v ht=>?_⟩ b cs rfl rfl;have:=zKF args 0 t v ht;simp only[Nat.sub_zero]at this;have hlt:t<args.length:=(List.getElem?_eq_some_iff.1 this.2).1;rw[Array.getElem?_append_left (by simpa using hlt)];simpa using this.2
section
variable {fn:Func}{c:Code}{w:World}{Φ:Value→World→Prop}{v0 v1 v2 v3 v4 v5 v6 v7:Value}
theorem Run.calls0 (hf:P.funcs[f]? = some fn)(hb:fn.body=some c)(hn:fn.ntmps=n)(h:Run P f n (Ret Φ) [.code c] [] w):Cl P f [] w Φ:=⟨Run.calls (args:=[]) hf hb hn (by simp) h⟩
theorem Run.calls1 (hf:P.funcs[f]? = some fn)(hb:fn.body=some c)(hn:fn.ntmps=n)(hs:Nat.ble 1 n=true)(h:Run P f n (Ret Φ) [.code c] [(0,v0)] w):Cl P f [v0] w Φ:=⟨Run.calls (args:=[v0]) hf hb hn hs h⟩
theorem Run.calls2 (hf:P.funcs[f]? = some fn)(hb:fn.body=some c)(hn:fn.ntmps=n)(hs:Nat.ble 2 n=true)(h:Run P f n (Ret Φ) [.code c] [(0,v0),(1,v1)] w):Cl P f [v0,v1] w Φ:=⟨Run.calls (args:=[v0,v1]) hf hb hn hs h⟩
theorem Run.calls3 (hf:P.funcs[f]? = some fn)(hb:fn.body=some c)(hn:fn.ntmps=n)(hs:Nat.ble 3 n=true)(h:Run P f n (Ret Φ) [.code c] [(0,v0),(1,v1),(2,v2)] w):Cl P f [v0,v1,v2] w Φ:=⟨Run.calls (args:=[v0,v1,v2]) hf hb hn hs h⟩
theorem Run.calls4 (hf:P.funcs[f]? = some fn)(hb:fn.body=some c)(hn:fn.ntmps=n)(hs:Nat.ble 4 n=true)(h:Run P f n (Ret Φ) [.code c] [(0,v0),(1,v1),(2,v2),(3,v3)] w):Cl P f [v0,v1,v2,v3] w Φ:=⟨Run.calls (args:=[v0,v1,v2,v3]) hf hb hn hs h⟩
theorem Run.calls5 (hf:P.funcs[f]? = some fn)(hb:fn.body=some c)(hn:fn.ntmps=n)(hs:Nat.ble 5 n=true)(h:Run P f n (Ret Φ) [.code c] [(0,v0),(1,v1),(2,v2),(3,v3),(4,v4)] w):Cl P f [v0,v1,v2,v3,v4] w Φ:=⟨Run.calls (args:=[v0,v1,v2,v3,v4]) hf hb hn hs h⟩
theorem Run.calls6 (hf:P.funcs[f]? = some fn)(hb:fn.body=some c)(hn:fn.ntmps=n)(hs:Nat.ble 6 n=true)(h:Run P f n (Ret Φ) [.code c] [(0,v0),(1,v1),(2,v2),(3,v3),(4,v4),(5,v5)] w):Cl P f [v0,v1,v2,v3,v4,v5] w Φ:=⟨Run.calls (args:=[v0,v1,v2,v3,v4,v5]) hf hb hn hs h⟩
end
theorem Ends.of_step {a a':Act}{k':List Item}{w':World}(hs:∀(b:Frame) (cs:List Frame),step P (lone (b.at a k) cs w) = .next (lone (b.at a' k') cs w'))(h:Ends P f R k' a' w'):Ends P f R k a w:=by
 intro b cs hb hk;obtain⟨en,w1,fr,h1,h2,h3⟩:=h b cs hb hk;exact⟨en,w1,fr,h1,.of_steps (.one (hs b cs)) h2,h3⟩
theorem Run.seq {x y:Code}(h:Run P f n R (.code x::.code y::k) e w):Run P f n R (.code (.seq x y)::k) e w :=
 ⟨fun a ha=>Ends.of_step (fun _ _=>step_seq) (h.go a ha)⟩
theorem Run.skip (h:Run P f n R k e w):Run P f n R (.code .skip::k) e w:=⟨fun a ha=>Ends.of_step (fun _ _=>step_skip) (h.go a ha)⟩
theorem Run.block {id:Nat}{c:Code}(h:Run P f n R (.code c::.inBlock id::k) e w):Run P f n R (.code (.block id c)::k) e w :=
 ⟨fun a ha=>Ends.of_step (fun _ _=>step_block) (h.go a ha)⟩
theorem Run.inBlock {id:Nat}(h:Run P f n R k e w):Run P f n R (.inBlock id::k) e w:=⟨fun a ha=>Ends.of_step (fun _ _=>step_inBlock) (h.go a ha)⟩
theorem Run.loop {c:Code}(h:Run P f n R (.code c::.inLoop c::k) e w):Run P f n R (.code (.loop c)::k) e w:=⟨fun a ha=>Ends.of_step (fun _ _=>step_loop) (h.go a ha)⟩
theorem Run.inLoop {c:Code}(h:Run P f n R (.code c::.inLoop c::k) e w):Run P f n R (.inLoop c::k) e w:=⟨fun a ha=>Ends.of_step (fun _ _=>step_inLoop) (h.go a ha)⟩
theorem Run.exit {id:Nat}{k':List Item}(hx:exitTo id k=some k')(h:Run P f n R k' e w):Run P f n R (.code (.exit id)::k) e w :=
 ⟨fun a ha=>Ends.of_step (fun _ _=>step_exit hx) (h.go a ha)⟩
theorem Run.cond {c:Operand}{x y:Code}{t:Bool}(hc:ev e c=some (.bool t))(h1:t=true→Run P f n R (.code x::k) e w)(h2:t=false→Run P f n R (.code y::k) e w) :
 Run P f n R (.code (.cond c x y)::k) e w:=by
 refine⟨fun a ha=>?_⟩;refine Ends.of_step (fun _ _=>step_cond (ha.ev hc)) ?_;cases t
 · exact(h2 rfl).go a ha
 · exact(h1 rfl).go a ha
theorem Run.cond_true {c:Operand}{x y:Code}(hc:ev e c=some (.bool true))(h1:Run P f n R (.code x::k) e w):Run P f n R (.code (.cond c x y)::k) e w :=
 Run.cond hc (fun _=>h1) (fun h=>by cases h)
theorem Run.cond_false {c:Operand}{x y:Code}(hc:ev e c=some (.bool false))(h1:Run P f n R (.code y::k) e w):Run P f n R (.code (.cond c x y)::k) e w :=
 Run.cond hc (fun h=>by cases h) (fun _=>h1)
inductive Res (P:Program) (e:Env) (w:World):List ResultVar→List Value→Prop
 | nil:Res P e w [] []
 | tmp {t v rs vs}:e.get t=some v→Res P e w rs vs→Res P e w (.tmp t::rs) (v::vs)
 | cell {t p ty v rs vs}:e.get t=some (.pointer (some p))→(loadVar ty p).run P w = .ok v w→Res P e w rs vs→Res P e w (.cell t ty::rs) (v::vs)
def tup:List Value→Value
 | [v]=>v
 | vs=>.tuple vs.toArray
def zTM (tmps:Array Value):ResultVar→Sem Value
 | .tmp t=>Pure.pure (tmps.getD t undef)
 | .cell p t=>do loadVar t (← asAddr (tmps.getD p undef))
theorem zPT (fn:Func)(tmps:Array Value):results fn tmps=(do let vs ← fn.results.mapM (zTM tmps);Pure.pure (if h:vs.size=1 then vs[0] else .tuple vs)):=by
 unfold results;congr 2
theorem Res.run {rs:List ResultVar}{vs:List Value}(h:Res P e w rs vs){a:Act}(ha:Ok n e a) :
 (rs.mapM (zTM a.tmps):Sem (List Value)).run P w = .ok vs w:=by
 induction h with
 | nil=>simp
 | tmp ht _ ih=>have:=ha.get _ _ ht;simp[List.mapM_cons,zTM,this,ih]
 | cell ht hl _ ih=>have:=ha.get _ _ ht;simp[List.mapM_cons,zTM,this,ih,asAddr,hl]
theorem Res.results {fn:Func}{rs:List ResultVar}{vs:List Value}(hrs:fn.results=rs.toArray)(hr:Res P e w rs vs){a:Act}(ha:Ok n e a) :
 (Go.results fn a.tmps).run P w = .ok (tup vs) w:=by
 have h1:=hr.run ha;rw[zPT,hrs,Array.mapM_eq_mapM_toList];simp only[Sem.run_bind,Sem.run_map,h1,Result.andThen_ok,Sem.run_pure];congr 1
 cases vs with
 | nil=>rfl
 | cons v vs=>cases vs<;>simp[tup]
theorem Run.ret {fn:Func}{rs:List ResultVar}{vs:List Value}(hf:P.funcs[f]? = some fn)(hrs:fn.results=rs.toArray)(hr:Res P e w rs vs)(hR:R (.returned (tup vs)) w) :
 Run P f n R (.code .ret::k) e w:=by
 refine⟨fun a ha b cs hb hk=>?_⟩;exact⟨.returned (tup vs),w,_,hR,.one step_ret,hb,rfl,ha.defers,hk,fn,by rw[show({ b.at a (.code .ret::k)with mode:=.returning }:Frame).fn=b.fn from rfl,hb];exact hf,hr.results hrs ha⟩
theorem Run.done {fn:Func}{rs:List ResultVar}{vs:List Value}(hf:P.funcs[f]? = some fn)(hrs:fn.results=rs.toArray)(hr:Res P e w rs vs)(hR:R (.returned (tup vs)) w) :
 Run P f n R [] e w:=by
 refine⟨fun a ha b cs hb hk=>?_⟩;exact⟨.returned (tup vs),w,_,hR,.one step_end,hb,rfl,ha.defers,hk,fn,by rw[show({ b.at a []with mode:=.returning }:Frame).fn=b.fn from rfl,hb];exact hf,hr.results hrs ha⟩
theorem Ends.of_wp {c:Code}{a:Act}(h:c.wp P (QK P f R k) a w):Ends P f R (.code c::k) a w:=by
 intro b cs hb hk;obtain⟨ex,a',w',hq,harr⟩:=h b k cs;cases ex with
 | normal =>
   obtain⟨en,w1,fr,h1,h2,h3⟩:=hq b cs hb hk;exact⟨en,w1,fr,h1,.of_steps harr h2,h3⟩
 | outgrown=>exact⟨.outgrown,w',b,hq,harr.resolve_left (by simp[hk]),hb,trivial⟩
 | exit id=>exact hq.elim
 | goto l=>exact hq.elim
 | ret=>exact hq.elim
 | panic ch=>exact hq.elim
theorem Run.region {id:Nat}{l:List Oper}(h:RO P f n R k l l e w):Run P f n R (.code (.region id l.toArray false)::k) e w :=
 ⟨fun a ha=>Ends.of_wp (wp_region_lit (h.go a ha))⟩
theorem RO.nil {ops:List Oper}(h:Run P f n R k e w):RO P f n R k ops [] e w:=⟨fun a ha=>wpList_nil (h.go a ha)⟩
structure Still (P:Program)(n:Nat)(e:Env)(S:World→Prop)(op:Op)(ty:TypeId)(v:Value):Prop where
 go:∀a w,Ok n e a→S w→∀d pos aft g,(execOp a.eval ⟨d,op,ty,pos,aft,g⟩).run P w = .ok (.value v) w
structure OP (P:Program)(n:Nat)(o:Oper)(e:Env)(w:World)(K:Env→World→Prop):Prop where
 go:∀a,Ok n e a→∀(Q:Exit→Act→World→Prop) (next:Act→World→Prop),(∀e' a' w',Ok n e' a'→K e' w'→next a' w')→o.wp P a w next Q
theorem RO.op {ops rest:List Oper}{dst:Option Tmp}{op:Op}{ty:TypeId}{pos:String}{aft:Array Edge}(h:OP P n ⟨dst,op,ty,pos,aft,none⟩ e w (fun e' w'=>RO P f n R k ops rest e' w')) :
 RO P f n R k ops (⟨dst,op,ty,pos,aft,none⟩::rest) e w :=
 ⟨fun a ha=>wpList_plain rfl fun K hK=>h.go a ha _ _ (fun e' a' w' hok hk=>hK _ _ (hk.go _ hok))⟩
theorem OP.put {K:Env→World→Prop}{d:Nat}{op:Op}{ty:TypeId}{pos:String}{aft:Array Edge}{g:Option (Nat × Bool)}{v:Value}{w':World}
 (h:∀a,Ok n e a→(execOp a.eval ⟨some d,op,ty,pos,aft,g⟩).run P w = .ok (.value v) w') (hd:Nat.blt d n=true)
 (hk:K ((d,v)::e) w'):OP P n ⟨some d,op,ty,pos,aft,g⟩ e w K:=by
 refine⟨fun a ha Q next hn=>?_⟩;unfold Oper.wp;rw[h a ha];exact hn _ _ _ (ha.put hd v) hk
theorem OP.still {K:Env→World→Prop}{d:Nat}{op:Op}{ty:TypeId}{pos:String}{aft:Array Edge}{g:Option (Nat × Bool)}{v:Value}{S:World→Prop}
 (h:Still P n e S op ty v) (hS:S w) (hd:Nat.blt d n=true) (hk:K ((d,v)::e) w):OP P n ⟨some d,op,ty,pos,aft,g⟩ e w K :=
 OP.put (fun a ha=>h.go a w ha hS _ _ _ _) hd hk
theorem OP.act {K:Env→World→Prop}{op:Op}{ty:TypeId}{pos:String}{aft:Array Edge}{g:Option (Nat × Bool)}{w':World}
 (h:∀a,Ok n e a→(execOp a.eval ⟨none,op,ty,pos,aft,g⟩).run P w = .ok .skip w') (hk:K e w'):OP P n ⟨none,op,ty,pos,aft,g⟩ e w K:=by
 refine⟨fun a ha Q next hn=>?_⟩;unfold Oper.wp;rw[h a ha];exact hn _ _ _ ha hk
theorem OP.call {K:Env→World→Prop}{d:Nat}{op:Op}{ty:TypeId}{pos:String}{aft:Array Edge}{gd:Option (Nat × Bool)}{g:FuncId}{args:List Value}{Φ:Value→World→Prop}
 (h:∀a,Ok n e a→(execOp a.eval ⟨some d,op,ty,pos,aft,gd⟩).run P w = .ok (.enter g args.toArray) w) (hd:Nat.blt d n=true)
 (hc:Cl P g args w Φ) (hk:∀v w',Φ v w'→K ((d,v)::e) w'):OP P n ⟨some d,op,ty,pos,aft,gd⟩ e w K:=by
 refine⟨fun a ha Q next hn=>?_⟩;unfold Oper.wp;rw[h a ha];refine hc.go.mono fun en w' hr=>?_
 cases en with
 | returned v=>exact hn _ _ _ (ha.put hd v) (hk v w' hr)
 | panicked ch=>exact hr.elim
 | outgrown=>exact hr.elim
theorem RO.still {ops rest:List Oper}{d:Nat}{op:Op}{ty:TypeId}{pos:String}{aft:Array Edge}{v:Value}{S:World→Prop}
 (h:Still P n e S op ty v) (hS:S w) (hd:Nat.blt d n=true) (hk:RO P f n R k ops rest ((d,v)::e) w):RO P f n R k ops (⟨some d,op,ty,pos,aft,none⟩::rest) e w :=
 RO.op (OP.still h hS hd hk)
theorem zDM {ops:List Oper}{j t:Nat}{b:Bool}{a:Act}(ha:Ok n e a)(hj:((ops[j]?).bind (·.dst))=some t)(ht:e.get t=some (.bool b)):yielded ops.toArray a.tmps j=some b:=by
 unfold yielded;have h1:((ops.toArray[j]?).bind (·.dst))=some t:=by simpa using hj
 have:=ha.get t _ ht;rw[h1];simp[this]
theorem zE3 {ops:List Oper}{j t:Nat}{a:Act}(ha:Ok n e a)(hj:((ops[j]?).bind (·.dst))=some t)(ht:e.get t=some undef):yielded ops.toArray a.tmps j=none:=by
 unfold yielded;have h1:((ops.toArray[j]?).bind (·.dst))=some t:=by simpa using hj
 have:=ha.get t _ ht;rw[h1];simp[this];rfl
theorem RO.yes {ops rest:List Oper}{dst:Option Nat}{op:Op}{ty:TypeId}{pos:String}{aft:Array Edge}{j t:Nat}{b:Bool}
 (hj:((ops[j]?).bind (·.dst))=some t) (ht:e.get t=some (.bool b))
 (hk:RO P f n R k ops (⟨dst,op,ty,pos,aft,none⟩::rest) e w):RO P f n R k ops (⟨dst,op,ty,pos,aft,some (j,b)⟩::rest) e w:=by
 refine⟨fun a ha=>?_⟩;have h1:=hk.go a ha;have hw:Region.wanted ⟨dst,op,ty,pos,aft,some (j,b)⟩ (yielded ops.toArray a.tmps)=true:=by simp[Region.wanted,zDM ha hj ht]
 unfold wpList at h1 ⊢;rw[if_pos hw];rw[if_pos (by simp[Region.wanted])]at h1;exact h1
theorem RO.no {ops rest:List Oper}{d:Nat}{op:Op}{ty:TypeId}{pos:String}{aft:Array Edge}{j t:Nat}{b c:Bool}
 (hj:((ops[j]?).bind (·.dst))=some t) (ht:e.get t=some (.bool c)) (hd:Nat.blt d n=true) (hne:(c == b)=false)
 (hk:RO P f n R k ops rest ((d,undef)::e) w):RO P f n R k ops (⟨some d,op,ty,pos,aft,some (j,b)⟩::rest) e w:=by
 refine⟨fun a ha=>?_⟩;have hw:Region.wanted ⟨some d,op,ty,pos,aft,some (j,b)⟩ (yielded ops.toArray a.tmps)=false:=by simp[Region.wanted,zDM ha hj ht,hne]
 exact wpList_skip hw (hk.go _ (ha.put hd undef))
theorem RO.noUndef {ops rest:List Oper}{d:Nat}{op:Op}{ty:TypeId}{pos:String}{aft:Array Edge}{j t:Nat}{b:Bool}
 (hj:((ops[j]?).bind (·.dst))=some t) (ht:e.get t=some undef) (hd:Nat.blt d n=true)
 (hk:RO P f n R k ops rest ((d,undef)::e) w):RO P f n R k ops (⟨some d,op,ty,pos,aft,some (j,b)⟩::rest) e w:=by
 refine⟨fun a ha=>?_⟩;have hw:Region.wanted ⟨some d,op,ty,pos,aft,some (j,b)⟩ (yielded ops.toArray a.tmps)=false:=by simp[Region.wanted,zE3 ha hj ht]
 exact wpList_skip hw (hk.go _ (ha.put hd undef))
theorem RO.split {ops rest:List Oper}{d:Nat}{p:Prop}[Decidable p](h1:p→RO P f n R k ops rest ((d,.bool true)::e) w)(h2:¬p→RO P f n R k ops rest ((d,.bool false)::e) w) :
 RO P f n R k ops rest ((d,.bool (decide p))::e) w:=by
 by_cases h:p
 · rw[decide_eq_true h];exact h1 h
 · rw[decide_eq_false h];exact h2 h
theorem RO.splitB {ops rest:List Oper}{d:Nat}{b:Bool}(h1:b=true→RO P f n R k ops rest ((d,.bool true)::e) w)(h2:b=false→RO P f n R k ops rest ((d,.bool false)::e) w) :
 RO P f n R k ops rest ((d,.bool b)::e) w:=by
 cases b
 · exact h2 rfl
 · exact h1 rfl
inductive Sub (e:Env):Env→Prop
 | nil:Sub e []
 | cons {t:Nat} {v:Value} {r:Env}:e.get t=some v→Sub e r→Sub e ((t,v)::r)
theorem Sub.get {e e':Env}(h:Sub e e'):∀{t:Nat} {v:Value},e'.get t=some v→e.get t=some v:=by
 induction h with
 | nil=>intro t v h;simp[Env.get]at h
 | cons h1 _ ih =>
   rename_i t0 v0 r _;intro t v h;simp only[Env.get]at h;by_cases e1:t0=t
   · subst e1;simp at h;subst h;exact h1
   · have hb:Nat.beq t0 t=false:=by
      cases hh:Nat.beq t0 t with
      | false=>rfl
      | true=>exact absurd (Nat.eq_of_beq_eq_true hh) e1
     rw[hb]at h;exact ih h
theorem Run.weaken {e':Env}(hs:Sub e e')(h:Run P f n R k e' w):Run P f n R k e w :=
 ⟨fun a ha=>h.go a ⟨ha.size,ha.defers,fun t v ht=>ha.get t v (hs.get ht)⟩⟩
theorem Run.while {ι : Type}{c:Code}(I : ι → Env)(inv : ι → World→Prop)(μ : ι → Nat)(i0 : ι)(h0:inv i0 w)(hs:Sub e (I i0))
 (round:∀i w,inv i w→(∀j w',inv j w' → μ j < μ i→Run P f n R (.inLoop c::k) (I j) w')→Run P f n R (.code c::.inLoop c::k) (I i) w) :
 Run P f n R (.code (.loop c)::k) e w:=by
 have key:∀m i w,μ i=m→inv i w→Run P f n R (.code c::.inLoop c::k) (I i) w:=by
  intro m;induction m using Nat.strongRecOn with
  | _ m ih=>exact fun i w hm hi=>round i w hi (fun j w' hj hlt=>Run.inLoop (ih (μ j) (hm ▸ hlt) j w' rfl hj))
 exact Run.loop (Run.weaken hs (key _ i0 w rfl h0))
end
def aggB (P:Program)(t:TypeId):Option Bool :=
 match P.underlying t with
 | some (.struct _)=>some true
 | some (.array _ _)=>some true
 | some _=>some false
 | none=>none
def zDm (P:Program)(t:TypeId):Option Nat:=(P.info? t).map (·.size)
def zGk (P:Program)(t:TypeId):Option Value:=(P.info? t).bind (·.zero)
def offB (P:Program)(t:TypeId)(i:Nat):Option Nat :=
 match P.underlying t with
 | some (.struct fs)=>match fs[i]? with
   | some f=>match P.info? f.type with
     | some inf=>if inf.size=0 then none else some f.offset
     | none=>none
   | none=>none
 | _=>none
def zJk (P:Program)(t:TypeId)(i off:Nat):Option Nat:=(offB P t i).map (off + ·)
theorem zDB {P:Program}{t:TypeId}{i off:Nat}(h:offB P t i=some 0):zJk P t i off=some off:=by simp[zJk,h]
theorem zAF {P:Program}{t:TypeId}{i off k:Nat}(h:offB P t i=some k):zJk P t i off=some (off+k):=by simp[zJk,h]
def zEv (P:Program)(t:TypeId):Option TypeId :=
 match P.underlying t with
 | some (.slice e)=>some e
 | _=>none
theorem zDn {P:Program}{t:TypeId}{b:Bool}(h:aggB P t=some b)(w:World):(isAgg t).run P w = .ok b w:=by
 unfold aggB at h;cases hu:P.underlying t with
 | none=>simp[hu]at h
 | some d=>cases d<;>simp[hu]at h<;>subst h<;>simp[isAgg,run_underlying hu]
theorem zBZ {P:Program}{t:TypeId}{m:Nat}(h:zDm P t=some m)(w:World):(sizeOf t).run P w = .ok m w:=by
 unfold zDm at h;cases hi:P.info? t with
 | none=>simp[hi]at h
 | some i=>simp[hi]at h;subst h;simp[sizeOf,typeInfo,hi]
theorem zOS {P:Program}{t:TypeId}{v:Value}(h:zGk P t=some v)(w:World):(zeroValue t).run P w = .ok v w:=by
 unfold zGk at h;cases hi:P.info? t with
 | none=>simp[hi]at h
 | some i=>simp[hi]at h;simp[zeroValue,typeInfo,hi,h]
theorem zBi {P:Program}{t e:TypeId}(h:zEv P t=some e):P.underlying t=some (.slice e):=by
 unfold zEv at h;cases hu:P.underlying t with
 | none=>simp[hu]at h
 | some d=>cases d<;>simp[hu]at h;subst h;rfl
def evs (e:Env):List Operand→Option (List Value)
 | []=>some []
 | o::l=>match ev e o,evs e l with
   | some v,some r=>some (v::r)
   | _,_=>none
section
variable {P:Program}{n:Nat}{e:Env}{S:World→Prop}{ty:TypeId}{x y z:Operand}{u v:Value}
theorem Still.move (hx:ev e x=some v):Still P n e S (.move x) ty v:=⟨fun a w ha _ d pos aft g=>by simp[execOp,ha.ev hx]⟩
theorem Still.assign (hx:ev e x=some v):Still P n e S (.assign x) ty v:=⟨fun a w ha _ d pos aft g=>by simp[execOp,ha.ev hx]⟩
theorem Still.pickT (hc:ev e x=some (.bool true))(hy:ev e y=some v):Still P n e S (.pick x y z) ty v:=⟨fun a w ha _ d pos aft g=>by simp[execOp,ha.ev hc,ha.ev hy,asBool]⟩
theorem Still.pickF (hc:ev e x=some (.bool false))(hz:ev e z=some v):Still P n e S (.pick x y z) ty v:=⟨fun a w ha _ d pos aft g=>by simp[execOp,ha.ev hc,ha.ev hz,asBool]⟩
theorem Still.nilCheck {p:Addr}(hx:ev e x=some (.pointer (some p))):Still P n e S (.nilCheck x) ty (.pointer (some p)):=⟨fun a w ha _ d pos aft g=>by simp[execOp,ha.ev hx]⟩
theorem Still.nilCheckF {f:FuncId}{p q:Array Value}(hx:ev e x=some (.func (.func f) p q)):Still P n e S (.nilCheck x) ty (.func (.func f) p q):=⟨fun a w ha _ d pos aft g=>by simp[execOp,ha.ev hx]⟩
theorem Still.extract {vs:Array Value}{i:Nat}(hx:ev e x=some (.tuple vs))(hv:vs[i]? = some v):Still P n e S (.extract x i) ty v:=Still.mk fun a w ha _ d pos aft g=>by
 simp[execOp,ha.ev hx,Instr.extract,hv]
theorem Still.not {b c:Bool}{t:TypeId}(hx:ev e x=some (.bool b))(hc:(!b)=c):Still P n e S (.unOp .not t x) ty (.bool c):=Still.mk fun a w ha _ d pos aft g=>by
 subst hc;simp[execOp,ha.ev hx,Op.unary,Op.intArith]
theorem zSU {a:Act}(ha:Ok n e a):∀{l:List Operand} {r:List Value},evs e l=some r→l.map a.eval=r
 | [],r,h=>by simp[evs]at h;simp[h]
 | o::l,r,h=>by
   simp only[evs]at h;cases ho:ev e o with
   | none=>simp[ho]at h
   | some v =>
     cases hl:evs e l with
     | none=>simp[ho,hl]at h
     | some r'=>simp[ho,hl]at h;subst h;simp[ha.ev ho,zSU ha hl]
theorem zK4 {l:List Operand}{r:List Value}{a:Act}(ha:Ok n e a)(h:evs e l=some r):l.toArray.map a.eval=r.toArray:=by
 rw[← zSU ha h];simp
theorem Still.makeFunc {fn:Fn}{l1 l2:List Operand}{vs us:List Value}(h1:evs e l1=some vs)(h2:evs e l2=some us) :
 Still P n e S (.makeFunc fn l1.toArray l2.toArray) ty (.func fn vs.toArray us.toArray):=Still.mk fun a w ha _ d pos aft g=>by
 simp only[execOp,Instr.makeFunc,Sem.run_bind,Sem.run_pure,Result.andThen_ok,zK4 ha h1,zK4 ha h2]
theorem Still.fieldAddr {t:TypeId}{i b off k':Nat}(hx:ev e x=some (.pointer (some ⟨b,off,none⟩)))(hk':zJk P t i off=some k'):Still P n e S (.fieldAddr t x i) ty (.pointer (some ⟨b,k',none⟩)):=by
 refine⟨fun a w ha _ d pos aft g=>?_⟩;obtain⟨k,hk,rfl⟩:∃k,offB P t i=some k∧off+k=k':=by
  unfold zJk at hk';cases h:offB P t i with
  | none=>simp[h]at hk'
  | some k=>simp[h]at hk';exact⟨k,rfl,hk'⟩
 unfold offB at hk;cases hu:P.underlying t with
 | none=>simp[hu]at hk
 | some dd =>
   cases dd<;>try(simp[hu]at hk;done)
   rename_i fs;cases hf:fs[i]? with
   | none=>simp[hu,hf]at hk
   | some fd =>
     cases hi:P.info? fd.type with
     | none=>simp[hu,hf,hi]at hk
     | some inf =>
       simp[hu,hf,hi]at hk;obtain⟨h0,rfl⟩:=hk;simp[execOp,ha.ev hx,Instr.fieldAt,run_underlying hu,hf,Instr.sureAddr,fieldPlace,sizeOf,typeInfo,hi,h0,Addr.add_lit]
section
variable {k:IntKind}{p q c:Int}{t t':TypeId}
theorem Still.bin {op:BinOp}(hx:ev e x=some u)(hy:ev e y=some v)(hg:∀w:World,(eqGuard op t x y u v).run P w = .ok () w){r:Value}(hr:∀w,S w→(Go.binOp op t u v).run P w = .ok r w) :
 Still P n e S (.binOp op t x y t') ty r:=Still.mk fun a w ha hS d pos aft g=>by
 simp only[execOp,ha.ev hx,ha.ev hy,Sem.run_bind,hg w,Result.andThen_ok,hr w hS,Sem.run_pure]
theorem zOn (op:BinOp)(i j:Int)(w:World):(eqGuard op t x y (.int k i) (.int k j)).run P w = .ok () w:=by rw[eqGuard_at_int];rfl
theorem Still.int {op:BinOp}(hx:ev e x=some (.int k p))(hy:ev e y=some (.int k q)){r:Value}(hr:Go.binOp op t (.int k p) (.int k q)=Pure.pure r):Still P n e S (.binOp op t x y t') ty r :=
 Still.bin hx hy (zOn op p q) (fun w _=>by rw[hr];rfl)
theorem Still.lss (hx:ev e x=some (.int k p))(hy:ev e y=some (.int k q)):Still P n e S (.binOp .lss t x y t') ty (.bool (decide (p<q))):=Still.int hx hy (binOp_lss t k p q)
theorem Still.leq (hx:ev e x=some (.int k p))(hy:ev e y=some (.int k q)):Still P n e S (.binOp .leq t x y t') ty (.bool (decide (p≤q))):=Still.int hx hy (binOp_leq t k p q)
theorem Still.gtr (hx:ev e x=some (.int k p))(hy:ev e y=some (.int k q)):Still P n e S (.binOp .gtr t x y t') ty (.bool (decide (q<p))):=Still.int hx hy (binOp_gtr t k p q)
theorem Still.geq (hx:ev e x=some (.int k p))(hy:ev e y=some (.int k q)):Still P n e S (.binOp .geq t x y t') ty (.bool (decide (q≤p))):=Still.int hx hy (binOp_geq t k p q)
theorem Still.eql (hx:ev e x=some (.int k p))(hy:ev e y=some (.int k q)):Still P n e S (.binOp .eql t x y t') ty (.bool (decide (p=q))):=Still.int hx hy (binOp_eql t k p q)
theorem Still.neq (hx:ev e x=some (.int k p))(hy:ev e y=some (.int k q)):Still P n e S (.binOp .neq t x y t') ty (.bool (decide (p≠q))):=Still.int hx hy ((binOp_neq t k p q).trans (by
 by_cases h:p=q
 · simp[h]
 · have h2:(p != q)=true:=by simpa using h
   rw[h2,decide_eq_true h]))
theorem Still.add (hx:ev e x=some (.int k p))(hy:ev e y=some (.int k q))(hc:k.wrap (p+q)=c):Still P n e S (.binOp .add t x y t') ty (.int k c):=by
 subst hc;exact Still.int hx hy ((binOp_add t k p q).trans (by simp[Op.intArith]))
theorem Still.sub (hx:ev e x=some (.int k p))(hy:ev e y=some (.int k q))(hc:k.wrap (p - q)=c):Still P n e S (.binOp .sub t x y t') ty (.int k c):=by
 subst hc;exact Still.int hx hy ((binOp_sub t k p q).trans (by simp[Op.intArith]))
theorem Still.mul (hx:ev e x=some (.int k p))(hy:ev e y=some (.int k q))(hc:k.wrap (p*q)=c):Still P n e S (.binOp .mul t x y t') ty (.int k c):=by
 subst hc;exact Still.int hx hy ((binOp_mul t k p q).trans (by simp[Op.intArith]))
theorem Still.eqlAt {b:Bool}(hx:ev e x=some u)(hy:ev e y=some v)(hg:∀w:World,(eqGuard .eql t x y u v).run P w = .ok () w)
 (h0:Go.binOp .eql t u v=(do Pure.pure (.bool (← Op.equal t u v)))) (h:∀w,S w→(Op.equalIn 10000 t u v).run P w = .ok b w):Still P n e S (.binOp .eql t x y t') ty (.bool b) :=
 Still.bin hx hy hg (fun w hS=>by rw[h0,Sem.run_bind];show Result.andThen ((Op.equalIn 10000 t u v).run P w) _=_;rw[h w hS];rfl)
theorem Still.neqAt {b:Bool}(hx:ev e x=some u)(hy:ev e y=some v)(hg:∀w:World,(eqGuard .neq t x y u v).run P w = .ok () w)
 (h0:Go.binOp .neq t u v=(do Pure.pure (.bool (!(← Op.equal t u v))))) (h:∀w,S w→(Op.equalIn 10000 t u v).run P w = .ok b w):Still P n e S (.binOp .neq t x y t') ty (.bool (!b)) :=
 Still.bin hx hy hg (fun w hS=>by rw[h0,Sem.run_bind];show Result.andThen ((Op.equalIn 10000 t u v).run P w) _=_;rw[h w hS];rfl)
theorem Still.eqlB {b1 b2:Bool}(ht:P.underlying t=some .bool)(hx:ev e x=some (.bool b1))(hy:ev e y=some (.bool b2)):Still P n e S (.binOp .eql t x y t') ty (.bool (b1 == b2)) :=
 Still.eqlAt hx hy (fun w=>by rw[eqGuard_at_bool];rfl) rfl (fun w _=>run_equalIn_bool w 9999 t b1 b2 ht)
theorem Still.neqB {b1 b2:Bool}(ht:P.underlying t=some .bool)(hx:ev e x=some (.bool b1))(hy:ev e y=some (.bool b2)):Still P n e S (.binOp .neq t x y t') ty (.bool (!(b1 == b2))) :=
 Still.neqAt hx hy (fun w=>by rw[eqGuard_at_bool];rfl) rfl (fun w _=>run_equalIn_bool w 9999 t b1 b2 ht)
theorem zK8 (s1 s2:ByteArray):(s1.toList == s2.toList)=decide (s1=s2):=by
 by_cases h:s1=s2
 · simp[h]
 · rw[decide_eq_false h]
   have:s1.toList≠s2.toList:=fun h1=>h (by
    rw[ByteArray.toList_eq,ByteArray.toList_eq]at h1;obtain⟨⟨x⟩⟩:=s1;obtain⟨⟨y⟩⟩:=s2;simp at h1;rw[h1])
   simpa using this
theorem Still.eqlS {s1 s2:ByteArray}(hx:ev e x=some (.string s1))(hy:ev e y=some (.string s2)):Still P n e S (.binOp .eql t x y t') ty (.bool (decide (s1=s2))) :=
 Still.bin hx hy (fun w=>by rw[eqGuard_at_string];rfl) (fun w _=>by
  show(Op.stringOp .eql s1 s2).run P w=_;simp only[Op.stringOp,zK8];rfl)
theorem Still.neqS {s1 s2:ByteArray}(hx:ev e x=some (.string s1))(hy:ev e y=some (.string s2)):Still P n e S (.binOp .neq t x y t') ty (.bool (!decide (s1=s2))) :=
 Still.bin hx hy (fun w=>by rw[eqGuard_at_string];rfl) (fun w _=>by
  show(Op.stringOp .neq s1 s2).run P w=_;simp only[Op.stringOp,zK8];rfl)
end
end
theorem zA8 {x:Int}(h1 : -9223372036854775808≤x)(h2:x≤9223372036854775807):IntKind.i64.wrap x=x:=by
 simp only[IntKind.wrap,IntKind.bits,IntKind.signed];simp;omega
theorem zF1 {x:Int}(h1:0≤x)(h2:x≤18446744073709551615):IntKind.u64.wrap x=x:=by
 simp only[IntKind.wrap,IntKind.bits,IntKind.signed];simp;omega
end Go.Proofs.YtcikdogkkgefcaaGreatDoor
