/- A slice of one's own that is written no more: read as one that came in. The plain words of the layer of stores: keys and values in order; a map's entries. -/
import Derived.Test.YtcikdogkkgefcaaGreatDoorMA04
namespace Go.Proofs.YtcikdogkkgefcaaGreatDoor
set_option maxRecDepth 8000
set_option maxHeartbeats 16000000
set_option linter.unusedVariables false
set_option linter.unusedSimpArgs false
open Go Go.RowKit
theorem zQA {α:Type}{g : α→List Value}{size:Nat}(hg:∀a,(g a).length=size):∀(l:List α) (spare:List Value) (i:Nat) (h:i<l.length),((l.flatMap g++spare).drop (i*size)).take size=g l[i]:=by
 intro l;induction l with
 | nil=>intro spare i h;simp at h
 | cons a l ih =>
   intro spare i h;cases i with
   | zero=>simp only[List.flatMap_cons,List.append_assoc,Nat.zero_mul,List.drop_zero,List.getElem_cons_zero];rw[← hg a];exact List.take_left
   | succ i =>
     have h':i<l.length:=by simpa using h
     have:=ih spare i h';rw[List.getElem_cons_succ,← this,List.flatMap_cons,List.append_assoc,show(i+1)*size=(g a).length+i*size by rw[hg a,Nat.succ_mul];omega,List.drop_append,List.drop_eq_nil_of_le (by omega),List.nil_append,Nat.add_sub_cancel_left]
theorem zFS {α:Type}{g : α→List Value}{size:Nat}(hg:∀a,(g a).length=size)(l:List α):(l.flatMap g).length=l.length*size:=by
 induction l with
 | nil=>simp
 | cons a l ih=>simp[ih,hg,Nat.succ_mul];omega
section
variable {we w:World}{ρ:List (Nat × Obj)}{σ F:List HP}{el:TypeId}{size:Nat}{v:Value}
structure Over (we:World)(ρ ρ':List (Nat × Obj)):Prop where
 sub:∀x ∈ ρ,x ∈ ρ'
 back:∀{σ:List HP} {w:World},St we ρ' σ w→St we ρ σ w
theorem Over.refl (we:World)(ρ:List (Nat × Obj)):Over we ρ ρ:=⟨fun _ h=>h,fun h=>h⟩
theorem Over.trans {we:World}{a b c:List (Nat × Obj)}(h:Over we a b)(k:Over we b c):Over we a c:=⟨fun x hx=>k.sub x (h.sub x hx),fun q=>h.back (k.back q)⟩
theorem zAH {α:Type}{g : α→List Value}{l:List α}(hg:∀a,(g a).length=size)(h:St we ρ (Vec el size v l.length (l.flatMap g)::F) w) :
 ∃ ρ',Over we ρ ρ'∧Sl ρ' g size v l∧St we ρ' F w:=by
 obtain⟨hxl,⟨rfl,h0,_,hS⟩|⟨g0,cap,spare,rfl,h1,h2,h3,hS⟩⟩:=zBP h
 · obtain rfl:=List.eq_nil_of_length_eq_zero h0
   exact⟨ρ,Over.refl _ _,⟨⟨none,0,rfl,by simp,by simp,fun h=>by simp at h⟩⟩,hS⟩
 · refine⟨(g0,.cells (l.flatMap g++spare).toArray el (0,0)) :: ρ,⟨fun x hx=>by simp[hx],fun h=>h.ro_tail⟩,⟨⟨_,cap,rfl,h1,h2,fun _=>⟨g0,0,l.flatMap g++spare,el,(0,0),rfl,by simp,fun i hi=>?_⟩⟩⟩,hS.freeze⟩
   rw[Nat.zero_add];exact zQA hg l spare i hi
end
def intL (x:Int):List Value:=[pI x]
theorem zAZ (x:Int):(intL x).length=1:=rfl
theorem zB4 (l:List Int):l.flatMap intL=l.map (Value.int .i64):=by
 induction l with
 | nil=>rfl
 | cons a l ih=>simp[intL,ih]
theorem zC5 {cs:List Value}{k:Nat}{x:Value}(h:(cs.drop k).take 1=[x]):cs[k]? = some x:=by
 have h1:((cs.drop k).take 1)[0]? = some x:=by rw[h];rfl
 rw[List.getElem?_take,if_pos (by omega),List.getElem?_drop]at h1;exact h1
theorem zOj {l:List Int}:∀u∈l.map (Value.int .i64),one u=true:=by
 intro u hu;obtain⟨x,_,rfl⟩:=List.mem_map.1 hu;rfl
theorem Sl.int {ρ:List (Nat × Obj)}{p:Option Addr}{cap:Nat}{l:List Int}(h:Sl ρ intL 1 (.slice p l.length cap) l){i:Nat}(hi:i<l.length):∃b off cs el fr,p=some ⟨b,off,none⟩∧(b,Obj.cells (List.toArray cs) el fr) ∈ ρ∧cs[off+i]? = some (pI l[i]):=by
 obtain⟨p',cap',e,_,_,hr⟩:=h.val;simp only[Value.slice.injEq]at e;obtain⟨rfl,-,rfl⟩:=e;obtain⟨b,off,cs,el,fr,rfl,hm,hc⟩:=hr (by omega);refine⟨b,off,cs,el,fr,rfl,hm,?_⟩;have:=hc i hi;rw[Nat.mul_one]at this;exact zC5 this
section
variable {α β:Type}
def zAM [DecidableEq α]:List (α × β) → α→Nat→Option (Nat × β)
 | [],_,_=>none
 | (a,b)::l,k,i=>if k=a then some (i,b) else zAM l k (i+1)
def kput [DecidableEq α](lim:Int)(kv:List (α × β))(k : α)(v : β):List (α × β) × Int :=
 match zAM kv k 0 with
 | some (i,_)=>(kv.set i (k,v),0)
 | none=>if lim≤kv.length then(kv,3) else(kv++[(k,v)],0)
def kadd [DecidableEq α](lim:Int)(kv:List (α × β))(k : α)(v : β):List (α × β) × Int :=
 match zAM kv k 0 with
 | some _=>(kv,4)
 | none=>kput lim kv k v
theorem zHZ [DecidableEq α]{k : α}{b : β}:∀{kv:List (α × β)} {i j:Nat},zAM kv k i=some (j,b)→i≤j∧kv[j - i]? = some (k,b)
 | [],_,_,h=>by simp[zAM]at h
 | (a,c)::l,i,j,h=>by
   simp only[zAM]at h;split at h
   · rename_i e;simp at h;obtain⟨rfl,rfl⟩:=h;simp[e]
   · have:=zHZ h
     refine⟨by omega,?_⟩;rw[show j - i=(j - (i+1))+1 by omega,List.getElem?_cons_succ];exact this.2
theorem zEp [DecidableEq α]{k : α}:∀{kv:List (α × β)} {i:Nat},zAM kv k i=none↔k∉kv.map (·.1)
 | [],_=>by simp[zAM]
 | (a,c)::l,i=>by
   simp only[zAM,List.map_cons,List.mem_cons];split
   · rename_i e;simp[e]
   · rename_i e;rw[zEp (kv:=l)];simp[e]
theorem zCT [DecidableEq α]{kv:List (α × β)}{k : α}{j:Nat}{b : β}(h:zAM kv k 0=some (j,b)):j<kv.length∧kv[j]? = some (k,b):=by
 have:=(zHZ h).2;simp only[Nat.sub_zero]at this;exact⟨(List.getElem?_eq_some_iff.1 this).1,this⟩
def zD1 (kv:List (α × β)):Prop:=(kv.map (·.1)).Nodup
theorem zKv {kv:List (α × β)}{k : α}{v b : β}{i:Nat}(h:kv[i]? = some (k,b)):(kv.set i (k,v)).map (·.1)=kv.map (·.1):=by
 apply List.ext_getElem?;intro j;simp only[List.getElem?_map,List.getElem?_set];by_cases e:i=j
 · subst e
   obtain⟨h1,h2⟩:=List.getElem?_eq_some_iff.1 h;simp[h1,h2]
 · simp[e]
theorem zG1 [DecidableEq α]{kv:List (α × β)}(hn:zD1 kv)(lim:Int)(k : α)(v : β):zD1 (kput lim kv k v).1:=by
 unfold kput;cases hf:zAM kv k 0 with
 | some r =>
   obtain⟨i,b⟩:=r;unfold zD1;simp only;rw[zKv (zCT hf).2];exact hn
 | none =>
   simp only;split
   · exact hn
   · have:=zEp.1 hf
     unfold zD1 at *;rw[List.map_append];refine List.nodup_append.2 ⟨hn,by simp,?_⟩;intro a ha b hb e;simp at hb;subst hb;subst e;exact this ha
theorem zOe [DecidableEq α](lim:Int)(kv:List (α × β))(k : α)(v : β):(kput lim kv k v).1.length≤kv.length+1:=by
 unfold kput;cases zAM kv k 0 with
 | some r=>simp
 | none=>simp only;split<;>simp
variable (kf : α→Value)(vf : β→Value)
def ents:List (α × β)→List Nat→List MapEntry
 | (a,b)::l,s::st=>⟨kf a,vf b,s⟩::ents l st
 | _,_=>[]
variable {kf vf}{kof:Value → α}
theorem zAS (hk:∀a,kof (kf a)=a):∀{kv:List (α × β)} {st:List Nat},∀e∈ents kf vf kv st,e.key=kf (kof e.key)
 | [],_=>by simp[ents]
 | (a,b)::l,[]=>by simp[ents]
 | (a,b)::l,s::st=>by
   intro e he;simp only[ents,List.mem_cons]at he;rcases he with rfl|he
   · simp[hk]
   · exact zAS hk e he
theorem zBc [DecidableEq α](hk:∀a,kof (kf a)=a){k : α}:∀{kv:List (α × β)} {st:List Nat} (i:Nat),st.length=kv.length→zBN (fun u=>decide (k=kof u)) (ents kf vf kv st) i=(zAM kv k i).map fun r=>(r.1,vf r.2)
 | [],_,_,_=>by simp[ents,zBN,zAM]
 | (a,b)::l,[],_,h=>by simp at h
 | (a,b)::l,s::st,i,h=>by
   simp only[ents,zBN,zAM,hk];by_cases e:k=a
   · simp[e]
   · simp only[decide_eq_false e,e,if_false,Bool.false_eq_true]
     exact zBc hk (i+1) (by simpa using h)
theorem zOy {k : α}{v : β}:∀{kv:List (α × β)} {st:List Nat} {i:Nat},st.length=kv.length→i<kv.length→(ents kf vf kv st).modify i (fun e=>{ e with key:=kf k,val:=vf v })=ents kf vf (kv.set i (k,v)) st
 | [],_,_,_,h=>by simp at h
 | (a,b)::l,[],_,h,_=>by simp at h
 | (a,b)::l,s::st,0,h,_=>by simp[ents]
 | (a,b)::l,s::st,i+1,h,hi=>by
   simp only[ents,List.modify_succ_cons,List.set_cons_succ];rw[zOy (by simpa using h) (by simpa using hi)]
theorem zMM {k : α}{v : β}{c:Nat}:∀{kv:List (α × β)} {st:List Nat},st.length=kv.length→ents kf vf kv st++[⟨kf k,vf v,c⟩]=ents kf vf (kv++[(k,v)]) (st++[c])
 | [],[],_=>by simp[ents]
 | [],s::st,h=>by simp at h
 | (a,b)::l,[],h=>by simp at h
 | (a,b)::l,s::st,h=>by
   simp only[ents,List.cons_append];rw[zMM (by simpa using h)]
theorem zIs:∀{kv:List (α × β)} {st:List Nat},st.length=kv.length→(ents kf vf kv st).length=kv.length
 | [],[],_=>rfl
 | [],s::st,h=>by simp at h
 | (a,b)::l,[],h=>by simp at h
 | (a,b)::l,s::st,h=>by simp only[ents,List.length_cons];rw[zIs (by simpa using h)]
theorem zDT [DecidableEq α](hk:∀a,kof (kf a)=a){k : α}{v b : β}{i clock:Nat}{kv:List (α × β)}{st:List Nat}(h:st.length=kv.length)(hf:zAM kv k 0=some (i,b)) :
 mput (fun u=>decide (k=kof u)) (kf k) (vf v) (ents kf vf kv st) clock=(ents kf vf (kv.set i (k,v)) st,clock):=by
 simp only[mput,zBc hk 0 h,hf,Option.map_some];rw[zOy h (zCT hf).1]
theorem zDU [DecidableEq α](hk:∀a,kof (kf a)=a){k : α}{v : β}{clock:Nat}{kv:List (α × β)}{st:List Nat}(h:st.length=kv.length)(hf:zAM kv k 0=none) :
 mput (fun u=>decide (k=kof u)) (kf k) (vf v) (ents kf vf kv st) clock=(ents kf vf (kv++[(k,v)]) (st++[clock]),clock+1):=by
 simp only[mput,zBc hk 0 h,hf,Option.map_none];rw[zMM h]
end
def intK:Value→Int
 | .int _ n=>n
 | _=>0
def strK:Value→ByteArray
 | .string s=>s
 | _=>ByteArray.empty
theorem zAT (a:Int):intK (Value.int .i64 a)=a:=rfl
theorem zCy {k:Int}{es:List MapEntry}(h:∀e∈es,e.key = pI (intK e.key)):∀e∈es,decide (k=intK e.key)=true→Instr.sameBits 10000 e.key (pI k)=true:=by
 intro e he h1;rw[h e he];have h1:=of_decide_eq_true h1;simp[Instr.sameBits,h1]
def pubK (L:List Nd)(K:Int→Bool)(y:Int):Bool :=
 match find L ⟨2,0,y,0,0⟩with
 | some i=>K (i:Nat)
 | none=>false
def canR (L:List Nd)(K c:Int→Bool)(x:Int):Bool :=
 if(nd L x).k=0∨(nd L x).k=9 then true
 else if(nd L x).k=1 then decide (4294967296≤(nd L x).n)
 else if(nd L x).k=2 then c (nd L x).a
 else if(nd L x).k=3 then(c (nd L x).a && (pubK L K (nd L x).b || c (nd L x).b)) || (c (nd L x).b && (pubK L K (nd L x).a || c (nd L x).a))
 else if(nd L x).k=7 then c (nd L x).a && c (nd L x).b && c (nd L x).c
 else c (nd L x).a && c (nd L x).b
def canF:Nat→List Nd→(Int→Bool)→Int→Bool
 | 0,_,_,_=>false
 | f+1,L,K,x=>if has L x=true then K x || canR L K (canF f L K) x else false
def can (L:List Nd)(K:Int→Bool)(x:Int):Bool:=canF (L.length+1) L K x
theorem zKC {L:List Nd}{K c c':Int→Bool}{x:Int}(h0:(nd L x).k=0∨(nd L x).k=9∨(c (nd L x).a=c' (nd L x).a∧c (nd L x).b=c' (nd L x).b∧c (nd L x).c=c' (nd L x).c)):canR L K c x=canR L K c' x:=by
 unfold canR;rcases h0 with h|h|⟨h1,h2,h3⟩
 · simp[h]
 · simp[h]
 · rw[h1,h2,h3]
theorem zCG {lim:Nat}{L:List Nd}(g:Good lim L){x:Int}(hx:has L x=true):(nd L x).k=0∨(has L (nd L x).a=true∧has L (nd L x).b=true∧has L (nd L x).c=true∧(nd L x).a<x∧(nd L x).b<x∧(nd L x).c<x):=by
 by_cases h0:x=0
 · subst h0;left;rw[g.wf.zero];rfl
 · have:=zTR g.wf (m:=L.length) hx (zAV.1 hx).2
   have h:=zAV.1 hx;exact .inr ⟨this.1,this.2.1,this.2.2.1,this.2.2.2 (by omega)⟩
theorem zI1 {lim:Nat}{L:List Nd}(g:Good lim L)(K:Int→Bool):∀(f f':Nat) (x:Int),(has L x=true→x<f∧x<f')→canF f L K x=canF f' L K x:=by
 intro f;induction f with
 | zero =>
   intro f' x h;by_cases hx:has L x=true
   · have:=h hx;have:=zAV.1 hx;omega
   · cases f' with
     | zero=>rfl
     | succ f'=>simp only[canF];rw[if_neg hx]
 | succ f ih =>
   intro f' x h;by_cases hx:has L x=true
   · obtain⟨h1,h2⟩:=h hx
     have h0:=zAV.1 hx;obtain⟨f',rfl⟩:∃m,f'=m+1:=⟨f' - 1,by omega⟩
     simp only[canF];rw[if_pos hx,if_pos hx];congr 1
     refine zKC ?_;rcases zCG g hx with hk|⟨a1,a2,a3,b1,b2,b3⟩
     · exact .inl hk
     · exact .inr (.inr ⟨ih f' _ (fun _=>by omega),ih f' _ (fun _=>by omega),ih f' _ (fun _=>by omega)⟩)
   · simp only[canF]
     rw[if_neg hx];cases f' with
     | zero=>rfl
     | succ f'=>simp only[canF];rw[if_neg hx]
theorem zGg {lim:Nat}{L:List Nd}(g:Good lim L)(K:Int→Bool){x:Int}(hx:has L x=true):can L K x=(K x || canR L K (can L K) x):=by
 unfold can;conv=>lhs;unfold canF
 rw[if_pos hx];congr 1
 refine zKC ?_;rcases zCG g hx with hk|⟨a1,a2,a3,b1,b2,b3⟩
 · exact .inl hk
 · have h0:=zAV.1 hx
   exact .inr (.inr ⟨zI1 g K _ _ _ (fun h=>by have:=zAV.1 h;omega),zI1 g K _ _ _ (fun h=>by have:=zAV.1 h;omega),zI1 g K _ _ _ (fun h=>by have:=zAV.1 h;omega)⟩)
theorem zSm {L:List Nd}{K:Int→Bool}{x:Int}(hx:has L x=false):can L K x=false:=by
 unfold can canF;rw[if_neg (by simp[hx])]
theorem zFv {L:List Nd}{K:Int→Bool}{x:Int}(h:can L K x=true):has L x=true:=by
 cases hx:has L x with
 | true=>rfl
 | false=>rw[zSm hx]at h;cases h
theorem zEz {lim:Nat}{L:List Nd}(g:Good lim L){K:Int→Bool}{x:Int}(hx:has L x=true)(h:K x=true):can L K x=true:=by rw[zGg g K hx,h];rfl
theorem zRO {L:List Nd}{K K':Int→Bool}(h:∀y,K y=true→K' y=true){y:Int}(hp:pubK L K y=true):pubK L K' y=true:=by
 unfold pubK at *;cases hf:find L ⟨2,0,y,0,0⟩with
 | none=>rw[hf]at hp;cases hp
 | some i=>rw[hf]at hp;exact h _ hp
theorem zSo {L:List Nd}{K K' c c':Int→Bool}{x:Int}(hK:∀y,pubK L K y=true→pubK L K' y=true)(hc:∀y,c y=true→c' y=true)(h:canR L K c x=true):canR L K' c' x=true:=by
 unfold canR at *;by_cases k0:(nd L x).k=0∨(nd L x).k=9
 · rw[if_pos k0]
 rw[if_neg k0]at h ⊢;by_cases k1:(nd L x).k=1
 · rw[if_pos k1]at h ⊢;exact h
 rw[if_neg k1]at h ⊢;by_cases k2:(nd L x).k=2
 · rw[if_pos k2]at h ⊢;exact hc _ h
 rw[if_neg k2]at h ⊢;by_cases k3:(nd L x).k=3
 · rw[if_pos k3]at h ⊢
   simp only[Bool.or_eq_true,Bool.and_eq_true]at h ⊢;rcases h with ⟨h1,h2|h2⟩|⟨h1,h2|h2⟩
   · exact .inl ⟨hc _ h1,.inl (hK _ h2)⟩
   · exact .inl ⟨hc _ h1,.inr (hc _ h2)⟩
   · exact .inr ⟨hc _ h1,.inl (hK _ h2)⟩
   · exact .inr ⟨hc _ h1,.inr (hc _ h2)⟩
 rw[if_neg k3]at h ⊢;by_cases k7:(nd L x).k=7
 · rw[if_pos k7]at h ⊢
   simp only[Bool.and_eq_true]at h ⊢;exact⟨⟨hc _ h.1.1,hc _ h.1.2⟩,hc _ h.2⟩
 rw[if_neg k7]at h ⊢;simp only[Bool.and_eq_true]at h ⊢;exact⟨hc _ h.1,hc _ h.2⟩
theorem zSp {L:List Nd}{K K':Int→Bool}(h:∀y,K y=true→K' y=true):∀(f:Nat) (x:Int),canF f L K x=true→canF f L K' x=true:=by
 intro f;induction f with
 | zero=>intro x hx;simp[canF]at hx
 | succ f ih =>
   intro x hx;simp only[canF]at hx ⊢;split
   · rename_i hh
     rw[if_pos hh]at hx;simp only[Bool.or_eq_true]at hx ⊢;rcases hx with h1|h1
     · exact .inl (h _ h1)
     · exact .inr (zSo (fun y=>zRO h) (fun y=>ih y) h1)
   · rename_i hh;rw[if_neg hh]at hx;exact hx
theorem zHu {L:List Nd}{K K':Int→Bool}(h:∀y,K y=true→K' y=true){x:Int}(hx:can L K x=true):can L K' x=true:=zSp h _ _ hx
structure Closed (L:List Nd)(K:Int→Bool):Prop where
 pair:∀x,K x=true→(nd L x).k=8→K (nd L x).a=true∧K (nd L x).b=true
 opn:∀x,K x=true→(nd L x).k=7→can L K (nd L x).a=true→K (nd L x).c=true
noncomputable def cl (L:List Nd)(K:Int→Bool):Int→Bool:=fun x =>
 @decide (∀C:Int→Bool,Closed L C→(∀y,K y=true→C y=true)→C x=true) (Classical.propDecidable _)
theorem zJ9 {L:List Nd}{K:Int→Bool}{x:Int}:cl L K x=true↔∀C:Int→Bool,Closed L C→(∀y,K y=true→C y=true)→C x=true:=by
 unfold cl;exact @decide_eq_true_iff _ (Classical.propDecidable _)
theorem zUc {L:List Nd}{K:Int→Bool}{x:Int}(h:K x=true):cl L K x=true:=zJ9.2 fun C _ hs=>hs x h
theorem zDY {L:List Nd}{K C:Int→Bool}(hC:Closed L C)(hs:∀y,K y=true→C y=true){x:Int}(h:cl L K x=true):C x=true:=zJ9.1 h C hC hs
theorem zSl (L:List Nd)(K:Int→Bool):Closed L (cl L K):=by
 refine⟨fun x hx hk=>?_,fun x hx hk hc=>?_⟩
 · exact⟨zJ9.2 fun C hC hs=>(hC.pair x (zDY hC hs hx) hk).1,zJ9.2 fun C hC hs=>(hC.pair x (zDY hC hs hx) hk).2⟩
 · exact zJ9.2 fun C hC hs=>hC.opn x (zDY hC hs hx) hk (zHu (fun y hy=>zDY hC hs hy) hc)
theorem zSk {L:List Nd}{K K':Int→Bool}(h1:Closed L K')(h2:∀y,K y=true→K' y=true)(h3:∀C,Closed L C→(∀y,K y=true→C y=true)→∀y,K' y=true→C y=true):K'=cl L K:=by
 funext x
 rw[Bool.eq_iff_iff];exact⟨fun h=>zJ9.2 fun C hC hs=>h3 C hC hs x h,fun h=>zDY h1 h2 h⟩
def ins (K:Int→Bool)(x:Int):Int→Bool:=fun y=>K y || decide (y=x)
theorem zCo {K:Int→Bool}{x y:Int}:ins K x y=true↔K y=true∨y=x:=by simp[ins]
theorem zQU {lim:Nat}{L:List Nd}(g:Good lim L):Closed L (has L):=by
 refine⟨fun x hx hk=>?_,fun x hx hk _=>?_⟩
 · rcases zCG g hx with h|⟨h1,h2,h3,_⟩
   · omega
   · exact⟨h1,h2⟩
 · rcases zCG g hx with h|⟨h1,h2,h3,_⟩
   · omega
   · exact h3
theorem zUd {lim:Nat}{L:List Nd}(g:Good lim L){K:Int→Bool}(h:∀y,K y=true→has L y=true){x:Int}(hx:cl L K x=true):has L x=true:=zDY (zQU g) h hx
abbrev kfB (x:Int):Value:=pI x
abbrev vfB (b:Bool):Value:=.bool b
abbrev BMap (m:Nat)(kv:List (Int × Bool))(st:List Nat)(clock:Nat):HP:=Blk m (.map (ents kfB vfB kv st).toArray clock)
structure Tells (f:Int→Bool)(kv:List (Int × Bool))(st:List Nat):Prop where
 len:st.length=kv.length
 tells:∀q∈kv,q.2=f q.1
structure Knows (K:Int→Bool)(kv:List (Int × Bool))(st:List Nat):Prop where
 keyed:zD1 kv
 len:st.length=kv.length
 all:∀x,x∈kv.map (·.1)↔K x=true
 yes:∀q∈kv,q.2=true
theorem zIe {kv:List (Int × Bool)}{x:Int}{i:Nat}{b:Bool}(h:zAM kv x 0=some (i,b)):(x,b)∈kv:=List.mem_of_getElem? (zCT h).2
theorem zG2 {K:Int→Bool}{kv:List (Int × Bool)}{st:List Nat}(h:Knows K kv st)(x:Int):(zFk (Value.bool false) ((zAM kv x 0).map fun r=>(r.1,vfB r.2))).1 = .bool (K x):=by
 cases hf:zAM kv x 0 with
 | none =>
   have:K x=false:=by
    cases hk:K x with
    | false=>rfl
    | true=>exact absurd ((h.all x).2 hk) (zEp.1 hf)
   rw[this];rfl
 | some r =>
   obtain⟨i,b⟩:=r;have hm:=zIe hf;obtain rfl:b=true:=h.yes _ hm;have:K x=true:=(h.all x).1 (List.mem_map.2 ⟨_,hm,rfl⟩);rw[this];rfl
theorem zPC {f:Int→Bool}{kv:List (Int × Bool)}{st:List Nat}(h:Tells f kv st)(x:Int):∃b d,zFk (Value.bool false) ((zAM kv x 0).map fun r=>(r.1,vfB r.2))=(.bool b,d)∧(d=true→b=f x):=by
 cases hf:zAM kv x 0 with
 | none=>exact⟨false,false,rfl,fun h=>by cases h⟩
 | some r=>exact⟨r.2,true,rfl,fun _=>h.tells _ (zIe hf)⟩
theorem zLR {f:Int→Bool}{kv:List (Int × Bool)}{st:List Nat}(h:Tells f kv st)(x:Int)(clock:Nat) :
 ∃kv2 st2 c2,mput (fun u=>decide (x=intK u)) (kfB x) (vfB (f x)) (ents kfB vfB kv st) clock=(ents kfB vfB kv2 st2,c2)∧Tells f kv2 st2:=by
 cases hf:zAM kv x 0 with
 | some r =>
   obtain⟨i,b⟩:=r;refine⟨_,_,_,zDT (kf:=kfB) (vf:=vfB) (kof:=intK) zAT h.len hf,by simp[h.len],fun q hq=>?_⟩;rcases List.mem_or_eq_of_mem_set hq with hq|rfl
   · exact h.tells q hq
   · rfl
 | none =>
   refine⟨_,_,_,zDU (kf:=kfB) (vf:=vfB) (kof:=intK) zAT h.len hf,by simp[h.len],fun q hq=>?_⟩;rcases List.mem_append.1 hq with hq|hq
   · exact h.tells q hq
   · obtain rfl:=List.mem_singleton.1 hq
     rfl
theorem zRy {K:Int→Bool}{kv:List (Int × Bool)}{st:List Nat}(h:Knows K kv st)(x:Int)(clock:Nat) :
 ∃kv2 st2 c2,mput (fun u=>decide (x=intK u)) (kfB x) (vfB true) (ents kfB vfB kv st) clock=(ents kfB vfB kv2 st2,c2)∧Knows (ins K x) kv2 st2∧((st2=st∧c2=clock)∨(st2=st++[clock]∧c2=clock+1)):=by
 cases hf:zAM kv x 0 with
 | some r =>
   obtain⟨i,b⟩:=r;have hm:=zIe hf;obtain rfl:b=true:=h.yes _ hm;have hset:kv.set i (x,true)=kv:=by
    obtain⟨hi,hx⟩:=zCT hf;rw[List.getElem?_eq_getElem hi]at hx;simp only[Option.some.injEq]at hx;rw[← hx,List.set_getElem_self]
   refine⟨_,_,_,zDT (kf:=kfB) (vf:=vfB) (kof:=intK) zAT h.len hf,?_,.inl ⟨rfl,rfl⟩⟩;rw[hset];refine⟨h.keyed,h.len,fun y=>?_,h.yes⟩;rw[h.all y,zCo];constructor
   · exact .inl
   · rintro(h1|rfl)
     · exact h1
     · exact(h.all y).1 (List.mem_map.2 ⟨_,hm,rfl⟩)
 | none =>
   refine⟨_,_,_,zDU (kf:=kfB) (vf:=vfB) (kof:=intK) zAT h.len hf,⟨?_,by simp[h.len],fun y=>?_,fun q hq=>?_⟩,.inr ⟨rfl,rfl⟩⟩
   · have:=zG1 h.keyed (kv.length+1) x true
     simp only[kput,hf]at this;rwa [if_neg (by omega)]at this
   · rw[List.map_append,List.mem_append,h.all y,zCo]
     simp
   · rcases List.mem_append.1 hq with hq|hq
     · exact h.yes q hq
     · obtain rfl:=List.mem_singleton.1 hq
       rfl
theorem zPy:Knows (fun _=>false) [] []:=⟨List.nodup_nil,rfl,by simp,by simp⟩
theorem zJW (f:Int→Bool):Tells f [] []:=⟨rfl,by simp⟩
def zA6 (L:List Nd)(K:Int→Bool)(z:Int):List Int :=
 if(nd L z).k=8 then [(nd L z).a,(nd L z).b] else if(nd L z).k=7∧can L K (nd L z).a=true then [(nd L z).c] else []
theorem zN7 (L:List Nd)(K:Int→Bool)(z:Int):(zA6 L K z).length≤2:=by
 unfold zA6;split
 · simp
 · split<;>simp
theorem zSh {L:List Nd}{K:Int→Bool}(h:∀z,K z=true→∀x∈zA6 L K z,K x=true):Closed L K:=by
 refine⟨fun z hz hk=>?_,fun z hz hk hc=>?_⟩
 · have:=h z hz
   unfold zA6 at this;rw[if_pos hk]at this;exact⟨this _ (by simp),this _ (by simp)⟩
 · have:=h z hz
   unfold zA6 at this;rw[if_neg (by omega),if_pos ⟨hk,hc⟩]at this;exact this _ (by simp)
theorem zSf {lim:Nat}{L:List Nd}(g:Good lim L){K:Int→Bool}{z x:Int}(hz:has L z=true)(h:x∈zA6 L K z):has L x=true:=by
 unfold zA6 at h;rcases zCG g hz with h0|⟨h1,h2,h3,_⟩
 · rw[if_neg (by omega),if_neg (by omega)]at h;cases h
 · split at h
   · simp only[List.mem_cons,List.not_mem_nil,or_false]at h
     rcases h with rfl|rfl
     · exact h1
     · exact h2
   · split at h
     · simp only[List.mem_cons,List.not_mem_nil,or_false]at h
       subst h;exact h3
     · cases h
theorem zUE {L:List Nd}{K C:Int→Bool}(hC:Closed L C)(hs:∀y,K y=true→C y=true){z x:Int}(hz:K z=true)(h:x∈zA6 L K z):C x=true:=by
 unfold zA6 at h;split at h
 · rename_i hk
   simp only[List.mem_cons,List.not_mem_nil,or_false]at h;have:=hC.pair z (hs z hz) hk;rcases h with rfl|rfl
   · exact this.1
   · exact this.2
 · split at h
   · rename_i hk
     simp only[List.mem_cons,List.not_mem_nil,or_false]at h;subst h;exact hC.opn z (hs z hz) hk.1 (zHu hs hk.2)
   · cases h
def zBe (K:Int→Bool)(l:List Int):Int→Bool:=l.foldl ins K
theorem zBn:∀{l:List Int} {K:Int→Bool} {y:Int},zBe K l y=true↔K y=true∨y∈l
 | [],K,y=>by simp[zBe]
 | x::l,K,y=>by
   have:=zBn (l:=l) (K:=ins K x) (y:=y);unfold zBe at this ⊢;rw[List.foldl_cons,this,zCo,List.mem_cons];constructor
   · rintro((h|h)|h)
     · exact .inl h
     · exact .inr (.inl h)
     · exact .inr (.inr h)
   · rintro(h|h|h)
     · exact .inl (.inl h)
     · exact .inl (.inr h)
     · exact .inr h
def rest (L:List Nd)(K:Int→Bool):Nat:=(List.range L.length).countP fun i=>!K (i:Nat)
theorem zU4 {L:List Nd}{K K':Int→Bool}(h:∀y,K y=true→K' y=true){x:Int}(hx:has L x=true)(h1:K x=false)(h2:K' x=true):rest L K'<rest L K:=by
 obtain⟨i,rfl,hi⟩:=zEq hx;unfold rest;have key:∀(l:List Nat),(l.countP fun j=>!K' (j:Nat))≤(l.countP fun j=>!K (j:Nat))∧(i∈l→(l.countP fun j=>!K' (j:Nat))<(l.countP fun j=>!K (j:Nat))):=by
  intro l;induction l with
  | nil=>exact⟨by simp,by simp⟩
  | cons j l ih =>
    simp only[List.countP_cons];have hj:K' (j:Int)=false→K (j:Int)=false:=fun q=>by
     cases hk:K (j:Int)with
     | false=>rfl
     | true=>rw[h _ hk]at q;cases q
    cases e1:K (j:Int)<;>cases e2:K' (j:Int)
    · refine⟨by simp[ih.1],fun hm=>?_⟩
      rcases List.mem_cons.1 hm with rfl|hm
      · rw[h2]at e2;cases e2
      · have:=ih.2 hm;simp;omega
    · refine⟨by simp;have:=ih.1;omega,fun hm=>?_⟩
      simp;have:=ih.1;omega
    · rw[hj e2]at e1;cases e1
    · refine⟨by simp[ih.1],fun hm=>?_⟩
      rcases List.mem_cons.1 hm with rfl|hm
      · rw[h1]at e1;cases e1
      · have:=ih.2 hm;simp;omega
 exact(key _).2 (List.mem_range.2 hi)
theorem zKb {lim:Nat}{L:List Nd}(g:Good lim L){K:Int→Bool}{x:Int}:pubK L K x=true↔∃i:Nat,i<L.length∧K i=true∧(nd L i).k=2∧(nd L i).a=x:=by
 constructor
 · intro h
   unfold pubK at h;cases hf:find L ⟨2,0,x,0,0⟩with
   | none=>rw[hf]at h;cases h
   | some i =>
     rw[hf]at h;obtain⟨h1,h2⟩:=zGZ hf;exact⟨i,h1,h,by rw[h2],by rw[h2]⟩
 · rintro⟨i,hi,hk,h2,rfl⟩
   have hs:=g.shape i (zIi hi);have hnd:nd L i=⟨2,0,(nd L i).a,0,0⟩:=by
    generalize hq:nd L i=q at *;obtain⟨k,n,a,b,c⟩:=q;simp only at h2;subst h2;obtain⟨_,_,s3,s4,s5,s6⟩:=hs;have e1:many 2=1:=by decide
    simp only[e1]at s4 s5 s6;have e2:n=0:=by simpa[zBW]using s3
    rw[e2,s5 (by omega),s6 (by omega)]
   have hf:=zVo g.uniq (zIi hi);rw[hnd]at hf;unfold pubK;rw[hf];simpa using hk
end Go.Proofs.YtcikdogkkgefcaaGreatDoor
