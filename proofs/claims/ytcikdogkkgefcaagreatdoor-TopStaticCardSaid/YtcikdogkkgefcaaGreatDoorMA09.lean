/- What can be made: the closure 'can' by what is ahead; maker; Can, Knows. What is known, as an item; maker, Can, Knows, New. What comes of all that is known: the closure that puts; more; Learn. -/
import Derived.Test.YtcikdogkkgefcaaGreatDoorMA08
namespace Go.Proofs.YtcikdogkkgefcaaGreatDoor
set_option maxRecDepth 8000
set_option maxHeartbeats 16000000
set_option linter.unusedVariables false
set_option linter.unusedSimpArgs false
open Go Go.RowKit
section
variable {we w:World}{ρ:List (Nat × Obj)}{σ F:List HP}{L:List Nd}{y:Lay}{kv kvK:List (Int × Bool)}{st stK:List Nat}{c cK:Nat}{K:Int→Bool}
theorem zUF {lim:Nat}(g:Good lim L)(hh:∀x,K x=true→has L x=true)(x:Int):can L K x=(K x || (has L x && canR L K (can L K) x)):=by
 cases hx:has L x with
 | true=>rw[zGg g K hx,Bool.true_and]
 | false =>
   rw[zSm hx,Bool.false_and,Bool.or_false];cases hk:K x with
   | false=>rfl
   | true=>rw[hh x hk]at hx;cases hx
theorem zRq {x:Int}(hx:has L x=false)(ht:Tells (can L K) kv st)(hS:St we ρ (Lk y L kv st c kvK stK cK::F) w) :
 Cl Tryz.prog 43 [pI x,pP y.bk,pP y.bc,pP y.bo] w
  fun v w'=>∃kv' st' c',v = .bool (has L x && canR L K (can L K) x)∧Tells (can L K) kv' st'∧St we ρ (Lk y L kv' st' c' kvK stK cK::F) w':=by
 replace hS:=St.all.1 hS;simp only[lkL,List.cons_append,List.nil_append]at hS;rw[hx,Bool.false_and];refine Run.calls4 (n:=87) Tryz.func43 rfl rfl rfl ?_;repeat' first|(refine Qv 10 (zA0 hS.tk) ?_;clear hS;intro w1 hS;rw[hx])|apply Qs|apply Qr|apply Qn|refine Ql ?_|(refine Qa ?_;clear hS;intro b w1 hS)|(refine Qd ?_;clear hS;intro w1 hS)|refine Qt ?_
 refine Qw Tryz.func43 ?_;have hS2:St we ρ (Lk y L kv st c kvK stK cK::_) _:=zBA hS;exact⟨kv,st,c,rfl,ht,hS2.pk⟩
theorem zO2 (hK:Knows K kvK stK)(hh:∀x,K x=true→has L x=true)(g:Good y.lim L){x:Int}
 (hl:∀(w:World) (F:List HP) (kv:List (Int × Bool)) (st:List Nat) (c:Nat),Tells (can L K) kv st→St we ρ (Lk y L kv st c kvK stK cK::F) w →
   Cl Tryz.prog 43 [pI x,pP y.bk,pP y.bc,pP y.bo] w
    fun v w'=>∃kv' st' c',v = .bool (has L x && canR L K (can L K) x)∧Tells (can L K) kv' st'∧St we ρ (Lk y L kv' st' c' kvK stK cK::F) w')
 (ht:Tells (can L K) kv st) (hS:St we ρ (Lk y L kv st c kvK stK cK::F) w) :
 Cl Tryz.prog 40 [pI x,pP y.bh,pP y.bk,pP y.bl] w
  fun v w'=>∃kv' st' c',v = .bool (can L K x)∧Tells (can L K) kv' st'∧St we ρ (Lk y L kv' st' c' kvK stK cK::F) w':=by
 replace hS:=St.all.1 hS;simp only[lkL,List.cons_append,List.nil_append]at hS;have hfd:∀z,zBN (fun u=>decide (z=intK u)) (ents kfB vfB kvK stK) 0=(zAM kvK z 0).map fun r=>(r.1,vfB r.2):=fun z=>zBc (kf:=kfB) (vf:=vfB) (kof:=intK) zAT 0 hK.len
 have hfh:zBN (fun u=>decide (x=intK u)) (ents kfB vfB kv st) 0=(zAM kv x 0).map fun r=>(r.1,vfB r.2):=zBc (kf:=kfB) (vf:=vfB) (kof:=intK) zAT 0 ht.len
 obtain⟨b,d,hfound,hd⟩:=zPC ht x;have hkf:=zG2 hK x;have hcs:=zUF g hh x;cases d with
 | true =>
   obtain rfl:=hd rfl;refine Run.calls4 (n:=31) Tryz.func40 rfl rfl rfl ?_;repeat' first|(refine Ql ?_ (h:=by apply Still.lookupOk;rfl;rfl;rfl;rfl;(exact Rd.any);exact KeyIs.int (f:=intK) rfl (zAS zAT);exact hfh;exact hfound))|apply Qs|apply Qr|apply Qn|refine Ql ?_|refine Qf ?_|apply Qk
   refine Qw Tryz.func40 ?_;have hS2:St we ρ (Lk y L _ _ _ kvK stK cK::_) _:=zBA hS;exact⟨_,_,_,rfl,ht,hS2.pk⟩
 | false =>
   cases hk:K x with
   | true =>
     rw[hk]at hkf hcs;rw[Bool.true_or]at hcs;obtain⟨kv2,st2,c2,hput,ht2⟩:=zLR ht x c;rw[hcs]at hput ⊢;refine Run.calls4 (n:=31) Tryz.func40 rfl rfl rfl ?_;repeat' first|(refine Ql ?_ (h:=by apply Still.lookupOk;rfl;rfl;rfl;rfl;(exact Rd.any);exact KeyIs.int (f:=intK) rfl (zAS zAT);exact hfh;exact hfound))|(refine Ql ?_ (h:=by apply Still.lookup;rfl;rfl;rfl;rfl;(exact Rd.any);exact KeyIs.int (f:=intK) rfl (zAS zAT);exact hfd _;exact hkf))|(apply RO.op;apply OP.mapUpdate hS;rfl;rfl;rfl;rfl;exact An;exact KeyIs.int (f:=intK) rfl (zAS zAT);exact zCy (zAS zAT);exact hput;clear hS;intro w1 hS)|apply Qs|apply Qr|apply Qn|refine Ql ?_|refine Qz ?_|refine Qt ?_
     refine Qw Tryz.func40 ?_;have hS2:St we ρ (Lk y L _ _ _ kvK stK cK::_) _:=zBA hS;exact⟨_,_,_,rfl,ht2,hS2.pk⟩
   | false =>
     rw[hk]at hkf hcs;rw[Bool.false_or]at hcs;simp only[← hcs]at hl;refine Run.calls4 (n:=31) Tryz.func40 rfl rfl rfl ?_;repeat' first|(refine Ql ?_ (h:=by apply Still.lookupOk;rfl;rfl;rfl;rfl;(exact Rd.any);exact KeyIs.int (f:=intK) rfl (zAS zAT);exact hfh;exact hfound))|(refine Ql ?_ (h:=by apply Still.lookup;rfl;rfl;rfl;rfl;(exact Rd.any);exact KeyIs.int (f:=intK) rfl (zAS zAT);exact hfd _;exact hkf))|(apply RO.op;apply OP.callV;rfl;rfl;rfl;rfl;exact hl _ _ _ _ _ ht (zBA hS);clear hS;rintro v w1 ⟨kv',st',c',rfl,ht',hS⟩;replace hS:=St.all.1 hS;simp only[lkL,List.cons_append,List.nil_append]at hS;obtain⟨kv2,st2,c2,hput,ht2⟩:=zLR ht' x c')|(apply RO.op;apply OP.mapUpdate hS;rfl;rfl;rfl;rfl;exact An;exact KeyIs.int (f:=intK) rfl (zAS zAT);exact zCy (zAS zAT);exact hput;clear hS;intro w1 hS)|apply Qs|apply Qr|apply Qn|refine Ql ?_|refine Qy ?_|refine Qt ?_
     refine Qw Tryz.func40 ?_;have hS2:St we ρ (Lk y L _ _ _ kvK stK cK::_) _:=zBA hS;exact⟨_,_,_,rfl,ht2,hS2.pk⟩
theorem zUe (hK:Knows K kvK stK)(hh:∀x,K x=true→has L x=true)(g:Good y.lim L):∀n,CanC we ρ y L kvK stK cK K n:=by
 intro n;induction n with
 | zero =>
   intro x w F kv st c hn ht hS;have hx:has L x=false:=by
    cases h:has L x with
    | false=>rfl
    | true=>have:=hn h;omega
   exact zO2 hK hh g (fun w F kv st c h1 h2=>zRq hx h1 h2) ht hS
 | succ n ih =>
   intro x w F kv st c hn ht hS;exact zO2 hK hh g (fun w F kv st c h1 h2=>zTf hK ih g (fun h=>by have:=hn h;omega) h1 h2) ht hS
end
section
variable {we w:World}{ρ:List (Nat × Obj)}{σ F:List HP}{L:List Nd}{kv kvK:List (Int × Bool)}{st stK:List Nat}{c cK:Nat}{K:Int→Bool}{kb km p lim:Nat}{hv:Value}
theorem zIY (hS:St we ρ (Row kb [pP p,hv,.map (some km)] 130::BMap km kvK stK cK::zAA p lim L::F) w) :
 Cl Tryz.prog 23 [pP kb] w
  fun v w'=>∃y:Lay,v=canV y∧y.kb=kb∧y.km=km∧y.p=p∧y.lim=lim∧y.hv=hv∧St we ρ (Lk y L [] [] 0 kvK stK cK::F) w':=by
 refine Run.calls1 (n:=12) Tryz.func23 rfl rfl rfl ?_;repeat' first|apply Qs|apply Qr|apply Qn|refine Ql ?_|(refine Qx ?_;clear hS;intro b w1 hS)|(refine Qa ?_;clear hS;intro b w1 hS)|(refine Qd ?_;clear hS;intro w1 hS)|(refine Qp ?_;clear hS;intro b w1 hS)
 refine Qw Tryz.func23 ?_;rename_i bk _ mh _ bh _ _ bc _ bl _ _ _ _;have hS2:St we ρ (Lk ⟨bk,bh,bc,b,bl,kb,mh,km,p,lim,hv⟩ L [] [] 0 kvK stK cK::_) _:=zBA hS;exact⟨⟨bk,bh,bc,b,bl,kb,mh,km,p,lim,hv⟩,rfl,rfl,rfl,rfl,rfl,rfl,hS2⟩
def KN (kb p:Nat)(heard:List Int)(K:Int→Bool):HP :=
 HP.ex fun x:Nat × List (Int × Bool) × List Nat × Nat × Value=>HP.pure (Knows K x.2.1 x.2.2.1∧x.2.2.1.Nodup∧∀s∈x.2.2.1,s<x.2.2.2.1)
  (HP.star (Row kb [pP p,x.2.2.2.2,.map (some x.1)] 130) (HP.star (BMap x.1 x.2.1 x.2.2.1 x.2.2.2.1) (Vec 3 1 x.2.2.2.2 heard.length (heard.flatMap intL))))
theorem zId {heard:List Int}(h:St we ρ (KN kb p heard K::F) w):∃km kvK stK cK hv,Knows K kvK stK∧stK.Nodup∧(∀s∈stK,s<cK) ∧
 St we ρ (Row kb [pP p,hv,.map (some km)] 130::BMap km kvK stK cK::Vec 3 1 hv heard.length (heard.flatMap intL)::F) w:=by
 obtain⟨⟨km,kvK,stK,cK,hv⟩,h⟩:=St.ex h;obtain⟨⟨h1,h2,h3⟩,h⟩:=St.pure h;have h:=St.star.1 h;have h4:=St.star.1 (h.take (.tail .head));exact⟨km,kvK,stK,cK,hv,h1,h2,h3,h4.pk⟩
theorem zFh {heard:List Int}(h1:Knows K kvK stK)(h2:stK.Nodup)(h3:∀s∈stK,s<cK)
 (h:St we ρ (Row kb [pP p,hv,.map (some km)] 130::BMap km kvK stK cK::Vec 3 1 hv heard.length (heard.flatMap intL)::F) w):St we ρ (KN kb p heard K::F) w:=by
 refine St.ex_mk (km,kvK,stK,cK,hv) (St.pure_mk ⟨h1,h2,h3⟩ (St.star.2 ?_));have h4:=St.star.2 (h.pk:St we ρ (BMap km kvK stK cK::Vec 3 1 hv heard.length (heard.flatMap intL)::Row kb [pP p,hv,.map (some km)] 130::F) w);exact h4.pk
attribute [irreducible] KN
theorem zPz (hS:St we ρ σ w):Cl Tryz.prog 32 [pP p] w fun v w'=>∃kb,v = pP kb∧St we ρ (KN kb p [] (fun _=>false) :: σ) w':=by
 refine Run.calls1 (n:=7) Tryz.func32 rfl rfl rfl ?_;repeat' first|apply Qs|apply Qr|apply Qn|refine Ql ?_|(refine Qx ?_;clear hS;intro b w1 hS)|(refine Qp ?_;clear hS;intro b w1 hS)
 refine Qw Tryz.func32 ?_;rename_i m _;have h2:St we ρ (Vec 3 1 (.slice none 0 0) ([]:List Int).length (([]:List Int).flatMap intL)::_) _:=zAh hS;exact⟨_,rfl,zFh (km:=m) (cK:=0) (hv:=.slice none 0 0) zPy List.nodup_nil (by simp) h2.pk⟩
theorem zCU {heard:List Int}{x:Int}(hh:∀x,K x=true→has L x=true)(hS:St we ρ (KN kb p heard K::zAA p lim L::F) w) :
 Cl Tryz.prog 12 [pP kb,pI x] w fun v w'=>v = .bool (can L K x)∧St we ρ (KN kb p heard K::zAA p lim L::F) w':=by
 obtain⟨g,hS⟩:=zA7 (hS.take (.tail .head));obtain⟨km,kvK,stK,cK,hv,k1,k2,k3,hS⟩:=zId (hS.take (.tail .head));replace hS:=((hS.take (.tail (.tail (.tail .head)))).take (.tail (.tail .head))).take (.tail (.tail .head));refine Run.calls2 (n:=9) Tryz.func12 rfl rfl rfl ?_;repeat' first|(refine Qc 23 (c:=zIY (L:=L) (p:=p) (lim:=lim) hS) (k':=?_);clear hS;rintro v w1 ⟨y,rfl,e1,e2,e3,e4,e5,hS⟩)|(apply RO.op;apply OP.callV;rfl;rfl;rfl;rfl;exact zUe k1 hh (by rw[e4];exact g) (x.toNat+1) x _ _ _ _ _ (fun _=>Nat.lt_succ_self _) (zJW _) hS;clear hS;rintro v w1 ⟨kv',st',c',rfl,ht',hS⟩;replace hS:=St.all.1 hS;simp only[lkL,List.cons_append,List.nil_append]at hS)|apply Qs|apply Qr|apply Qn|refine Ql ?_
 refine Qw Tryz.func12 ?_;rw[e1,e2,e3,e4,e5]at hS;refine⟨rfl,?_⟩;have h2:St we ρ (KN kb p heard K::zAA p lim L::F) _:=zFh k1 k2 k3 hS.pk;exact h2
end
section
variable {we w:World}{ρ:List (Nat × Obj)}{σ F:List HP}{L:List Nd}{kv kvK:List (Int × Bool)}{st stK:List Nat}{c cK:Nat}{K:Int→Bool}{kb km p lim:Nat}{hv:Value}
theorem zAG {el:TypeId}{size:Nat}{v:Value}{m:Nat}{xs:List Value}(h:St we ρ (Vec el size v m xs::F) w):∃pk cap,v = .slice pk m cap:=by
 rcases(zBP h).2 with ⟨rfl,rfl,_⟩|⟨g,cap,spare,rfl,_⟩
 · exact⟨_,_,rfl⟩
 · exact⟨_,_,rfl⟩
theorem zLo {bk bo q n:Nat}{l out:List Int}{ov:Value}{cs:List Value}{el:TypeId}{fr:Nat × Nat}(hK:Knows K kvK stK)(hln:l.length≤2)(hol:out.length≤200000)
 (hq:Rd ρ F q (.cells cs.toArray el fr)) (hcs:∀(i:Nat) (h:i<l.length),cs[i]? = some (pI l[i]))
 (hS:St we ρ (Vec 3 1 ov out.length (out.flatMap intL)::Row bk [pP kb] 41::Row bo [ov] 80::Row kb [pP p,hv,.map (some km)] 130::BMap km kvK stK cK::F) w) :
 Cl Tryz.prog 180 [.slice (some ⟨q,0,none⟩) l.length n,pP bk,pP bo] w
  fun v w'=>∃ov',St we ρ (Vec 3 1 ov' (out++l.filter (fun x=>!K x)).length ((out++l.filter (fun x=>!K x)).flatMap intL)::Row bk [pP kb] 41::Row bo [ov'] 80::Row kb [pP p,hv,.map (some km)] 130::BMap km kvK stK cK::F) w':=by
 refine Run.calls3 (n:=24) Tryz.func180 rfl rfl rfl ?_;repeat' first|apply Qs|apply Qr|apply Qn|refine Ql ?_|apply Qb
 refine Run.while (fun z:Nat × Value=>[(1,pP bk),(2,pP bo),(6,.slice (some ⟨q,0,none⟩) l.length n),(7,pI l.length),(8,pI z.1)])
  (fun z w=>z.1≤l.length∧St we ρ (Vec 3 1 z.2 (out++(l.take z.1).filter (fun x=>!K x)).length ((out++(l.take z.1).filter (fun x=>!K x)).flatMap intL)::Row bk [pP kb] 41::Row bo [z.2] 80::Row kb [pP p,hv,.map (some km)] 130::BMap km kvK stK cK::F) w) (fun z=>l.length - z.1) (0,ov)
  ⟨by simp,by simpa using hS⟩ (by exact Sb) ?_
 clear hS;rintro⟨i,ov⟩ w ⟨hi,hS⟩ ih;simp only at hi hS ih ⊢;by_cases hlt:i<l.length
 · have hci:=hcs i hlt
   have hlen:(out++(l.take i).filter (fun x=>!K x)).length≤200002:=by
    rw[List.length_append];have:=List.length_filter_le (fun x=>!K x) (l.take i);rw[List.length_take]at this;omega
   have e0:(l.take (i+1)).filter (fun x=>!K x)=(l.take i).filter (fun x=>!K x)++(if K l[i]=true then [] else [l[i]]):=by
    rw[List.take_succ_eq_append_getElem hlt,List.filter_append];cases hk:K l[i]<;>simp[hk]
   generalize hxx:l[i]=x at hci e0;have hfd:zBN (fun u=>decide (x=intK u)) (ents kfB vfB kvK stK) 0=(zAM kvK x 0).map fun r=>(r.1,vfB r.2):=zBc (kf:=kfB) (vf:=vfB) (kof:=intK) zAT 0 hK.len
   have hkf:=zG2 hK x;generalize ho:out++(l.take i).filter (fun x=>!K x)=o2 at hS hlen;cases hk:K x with
   | true =>
     rw[hk]at hkf;rw[hk,if_pos rfl,List.append_nil]at e0;repeat' first|(refine Ql ?_ (h:=by apply Still.load;rfl;rfl;(exact Rd.any);exact hci))|(refine Ql ?_ (h:=by apply Still.lookup;rfl;rfl;rfl;rfl;(exact Rd.any);exact KeyIs.int (f:=intK) rfl (zAS zAT);exact hfd;exact hkf))|apply Qs|apply Qr|(apply Rs<;>intro hc<;>try exact No)|apply Qn|refine Ql ?_|refine Qt ?_|refine Qf ?_|apply Qk|apply Qb|apply Qi
     refine Run.weaken (by exact Sb) (ih (i+1,ov) _ ⟨by simp;omega,?_⟩ (by simp;omega));simp only[e0,ho];exact hS.pk
   | false =>
     rw[hk]at hkf;rw[hk,if_neg (by simp)]at e0;repeat' first
      | (refine Ql ?_ (h:=by apply Still.load;rfl;rfl;(exact Rd.any);exact hci))
      | (refine Ql ?_ (h:=by apply Still.lookup;rfl;rfl;rfl;rfl;(exact Rd.any);exact KeyIs.int (f:=intK) rfl (zAS zAT);exact hfd;exact hkf))
      | (apply RO.op;apply OP.append (size:=1) (bytes:=8) (k:=1) (news:=[.int .i64 x]) hS;rfl;rfl;rfl;rfl;rfl;rfl;rfl;rfl;exact(by omega);exact An;(exact Rd.any);rfl;rfl;exact(by intro v hv;simp at hv;subst hv;rfl);(exact(by unfold maxLen;omega));(exact(by omega));rfl
         clear hS;intro v2 w1 hS;obtain⟨pk,capk,rfl⟩:=zAG hS)
      | apply Qs
      | apply Qr
      | (apply Rs<;>intro hc<;>try exact No)
      | apply Qn
      | refine Ql ?_
      | (refine Qd ?_;clear hS;intro w1 hS)
      | (refine Qg ?_;clear hS;intro b w1 hS)
      | refine Qt ?_
      | apply Qk
      | apply Qb
      | apply Qi
     refine Run.weaken (by exact Sb) (ih (i+1,.slice pk (o2.length+1) capk) _ ⟨by simp;omega,?_⟩ (by simp;omega));simp only[e0,← List.append_assoc,ho];rw[List.length_append,List.flatMap_append];exact hS.pk
 · obtain rfl:i=l.length:=by omega
   rw[List.take_of_length_le (Nat.le_refl _)]at hS;repeat' first|apply Qs|apply Qr|(apply Rs<;>intro hc<;>try exact No)|apply Qn|refine Ql ?_|refine Qf ?_|refine Qe ?_
   refine Run.done Tryz.func180 rfl .nil ?_;exact⟨_,hS.pk⟩
end
section
variable {α β:Type}{kf : α→Value}{vf : β→Value}
theorem zNx:∀{kv:List (α × β)} {st:List Nat} {i:Nat} (h1:i<kv.length) (h2:i<st.length),(ents kf vf kv st)[i]? = some ⟨kf kv[i].1,vf kv[i].2,st[i]⟩
 | [],_,_,h,_=>by simp at h
 | _::_,[],_,_,h=>by simp at h
 | (a,b)::l,s::st,0,_,_=>by simp[ents]
 | (a,b)::l,s::st,i+1,h1,h2=>by
   simp only[ents,List.getElem?_cons_succ,List.getElem_cons_succ];exact zNx (by simpa using h1) (by simpa using h2)
theorem zOz {kv:List (α × β)}{st:List Nat}(h:st.length=kv.length){en:MapEntry}(he:en∈ents kf vf kv st):∃(i:Nat) (h1:i<kv.length) (h2:i<st.length),en=⟨kf kv[i].1,vf kv[i].2,st[i]⟩:=by
 obtain⟨i,hi,rfl⟩:=List.mem_iff_getElem.1 he;have hl:=zIs (kf:=kf) (vf:=vf) h;have h1:i<kv.length:=by omega
 refine⟨i,h1,by omega,?_⟩;have:=zNx (kf:=kf) (vf:=vf) h1 (by omega:i<st.length);rw[List.getElem?_eq_getElem hi,Option.some.injEq]at this;exact this
theorem zMN:∀{kv:List (α × β)} {st:List Nat},st.length=kv.length→(ents kf vf kv st).map (·.born)=st
 | [],[],_=>rfl
 | [],s::st,h=>by simp at h
 | (a,b)::l,[],h=>by simp at h
 | (a,b)::l,s::st,h=>by
   simp only[ents,List.map_cons];rw[zMN (by simpa using h)]
end
def zEZ (st:List Nat)(seen:Array Nat):Nat:=st.countP fun s=>decide (s∉seen.toList)
theorem zH0:∀{st:List Nat} {seen:Array Nat} {s:Nat},s∈st→s∉seen.toList→zEZ st (seen.push s)<zEZ st seen:=by
 intro st seen s;have hle:∀(l:List Nat),zEZ l (seen.push s)≤zEZ l seen:=by
  intro l;unfold zEZ;refine List.countP_mono_left fun x _ hx=>?_
  simp only[Array.toList_push,List.mem_append,List.mem_singleton,not_or,decide_eq_true_eq]at hx ⊢;exact hx.1
 induction st with
 | nil=>intro h;cases h
 | cons a l ih =>
   intro hm hn;have h1:=hle l;unfold zEZ at h1 ih ⊢;rw[List.countP_cons,List.countP_cons];rcases List.mem_cons.1 hm with rfl|hm
   · simp[hn]at h1 ⊢;omega
   · have:=ih hm hn
     by_cases h:a∈seen.toList
     · rw[if_neg (by simp[h]),if_neg (by simp[h])];omega
     · rw[if_pos (show decide (a∉seen.toList)=true by simpa using h)]
       split<;>omega
structure MoreI (L:List Nd)(K:Int→Bool)(kv:List (Int × Bool))(st:List Nat)(seen:Array Nat)(out:List Int):Prop where
 src:∀x∈out,K x=false∧∃z,K z=true∧x∈zA6 L K z
 done:∀(i:Nat) (h1:i<kv.length) (h2:i<st.length),st[i]∈seen.toList→∀x∈zA6 L K kv[i].1,K x=true∨x∈out
 len:out.length+2*zEZ st seen≤2*st.length
theorem zNW {L:List Nd}{K:Int→Bool}{kv:List (Int × Bool)}{st:List Nat}:MoreI L K kv st #[] [] :=
 ⟨by simp,by simp,by
  have:zEZ st #[]≤st.length:=List.countP_le_length;simp only[List.length_nil];omega⟩
theorem zPk {L:List Nd}{K:Int→Bool}{kv:List (Int × Bool)}{st:List Nat}{seen:Array Nat}{out:List Int}(hK:Knows K kv st)(hn:st.Nodup)(h:MoreI L K kv st seen out){i:Nat}(h1:i<kv.length)(h2:i<st.length)(hs:st[i]∉seen.toList) :
 MoreI L K kv st (seen.push st[i]) (out++(zA6 L K kv[i].1).filter fun x=>!K x):=by
 have hk:K kv[i].1=true:=(hK.all _).1 (List.mem_map.2 ⟨_,List.getElem_mem h1,rfl⟩);refine⟨fun x hx=>?_,fun j j1 j2 hj x hx=>?_,?_⟩
 · rcases List.mem_append.1 hx with hx|hx
   · exact h.src x hx
   · rw[List.mem_filter]at hx
     exact⟨by simpa using hx.2,_,hk,hx.1⟩
 · rw[Array.toList_push,List.mem_append,List.mem_singleton]at hj
   rcases hj with hj|hj
   · rcases h.done j j1 j2 hj x hx with q|q
     · exact .inl q
     · exact .inr (List.mem_append.2 (.inl q))
   · obtain rfl:j=i:=(List.getElem_inj hn).1 hj
     cases hkx:K x with
     | true=>exact .inl rfl
     | false=>exact .inr (List.mem_append.2 (.inr (List.mem_filter.2 ⟨hx,by simp[hkx]⟩)))
 · have q1:=zH0 (List.getElem_mem h2) hs
   have q2:=h.len;have q3:=zN7 L K kv[i].1;have q4:=List.length_filter_le (fun x=>!K x) (zA6 L K kv[i].1);rw[List.length_append];omega
theorem zRz {L:List Nd}{K:Int→Bool}{kv:List (Int × Bool)}{st:List Nat}(hK:Knows K kv st)(hh:∀x,K x=true→has L x=true):st.length≤L.length:=by
 rw[hK.len];have h1:(kv.map (·.1)).Nodup:=hK.keyed;have h2:∀x∈kv.map (·.1),x∈(List.range L.length).map fun i:Nat=>(i:Int):=by
  intro x hx;obtain⟨i,rfl,hi⟩:=zEq (hh x ((hK.all x).1 hx));exact List.mem_map.2 ⟨i,List.mem_range.2 hi,rfl⟩
 have:=h1.length_le_of_subset h2;simpa using this
theorem zPl {L:List Nd}{K:Int→Bool}{kv:List (Int × Bool)}{st:List Nat}{seen:Array Nat}{out:List Int}(hK:Knows K kv st)(hn:st.Nodup)(h:MoreI L K kv st seen out){en:MapEntry}(he:en∈(ents kfB vfB kv st).toArray.toList)(hs:en.born∉seen.toList) :
 ∃z b s,en=⟨pI z,.bool b,s⟩∧K z=true∧MoreI L K kv st (seen.push s) (out++(zA6 L K z).filter fun x=>!K x)∧zEZ st (seen.push s)<zEZ st seen:=by
 obtain⟨i,h1,h2,rfl⟩:=zOz hK.len (by simpa using he);exact⟨_,_,_,rfl,(hK.all _).1 (List.mem_map.2 ⟨_,List.getElem_mem h1,rfl⟩),zPk hK hn h h1 h2 hs,zH0 (List.getElem_mem h2) hs⟩
theorem zRi {L:List Nd}{K:Int→Bool}{kv:List (Int × Bool)}{st:List Nat}{seen:Array Nat}{out:List Int}(hK:Knows K kv st)(h:MoreI L K kv st seen out)(hall:∀x∈(ents kfB vfB kv st).toArray.toList,x.born∈seen.toList) :
 ∀z,K z=true→∀x∈zA6 L K z,K x=true∨x∈out:=by
 intro z hz;obtain⟨q,hq,rfl⟩:=List.mem_map.1 ((hK.all z).2 hz);obtain⟨i,hi,rfl⟩:=List.mem_iff_getElem.1 hq;have h2:i<st.length:=by rw[hK.len];exact hi
 refine h.done i hi h2 ?_;have:=zNx (kf:=kfB) (vf:=vfB) hi h2;exact hall _ (by simpa using List.mem_of_getElem? this)
theorem zV6 {we w:World}{ρ:List (Nat × Obj)}{σ:List HP}{A1 A2 A3 A4 A5:HP}{F1 F2 F3 F4 F5:List HP}(h:St we ρ σ w)(t1:Take A1 σ F1)(t2:Take A2 F1 F2)(t3:Take A3 F2 F3)(t4:Take A4 F3 F4)(t5:Take A5 F4 F5) :
 St we ρ (A5::A4::A3::A2::A1::F5) w :=
 ((((h.take t1).take (.tail t2)).take (.tail (.tail t3))).take (.tail (.tail (.tail t4)))).take (.tail (.tail (.tail (.tail t5))))
section
variable {we w:World}{ρ:List (Nat × Obj)}{σ F:List HP}{L:List Nd}{kv kvK:List (Int × Bool)}{st stK:List Nat}{c cK:Nat}{K:Int→Bool}{kb km p lim:Nat}{hv:Value}
theorem zPm {heard:List Int}(hh:∀x,K x=true→has L x=true)(hS:St we ρ (KN kb p heard K::zAA p lim L::F) w) :
 Cl Tryz.prog 138 [pP kb] w fun v w'=>∃l:List Int,(∀x∈l,K x=false∧∃z,K z=true∧x∈zA6 L K z)∧(∀z,K z=true→∀x∈zA6 L K z,K x=true∨x∈l)∧l.length≤200000 ∧
  St we ρ (Vec 3 1 v l.length (l.flatMap intL)::KN kb p heard K::zAA p lim L::F) w':=by
 obtain⟨g,hS⟩:=zA7 (hS.take (.tail .head));obtain⟨km,kvK,stK,cK,hv,k1,k2,k3,hS⟩:=zId (hS.take (.tail .head));replace hS:=((hS.take (.tail (.tail (.tail .head)))).take (.tail (.tail .head))).take (.tail (.tail .head));have hlen:=zRz k1 hh;have hL:=g.len;have hlim:=g.lim;have hold:∀x∈(ents kfB vfB kvK stK).toArray.toList,x.born<cK:=by
  intro x hx;obtain⟨i,h1,h2,rfl⟩:=zOz k1.len (by simpa using hx);exact k3 _ (List.getElem_mem h2)
 have hnod:((ents kfB vfB kvK stK).toArray.toList.map (·.born)).Nodup:=by
  rw[List.toList_toArray,zMN k1.len];exact k2
 refine Run.calls1 (n:=57) Tryz.func138 rfl rfl rfl ?_;repeat' first|(refine Qc 23 (c:=zIY (L:=L) (p:=p) (lim:=lim) (((hS.take (.tail (.tail (.tail .head)))).take (.tail (.tail (.tail .head)))).take (.tail (.tail (.tail .head))))) (k':=?_);clear hS;rintro v w1 ⟨y,rfl,rfl,rfl,rfl,rfl,rfl,hS⟩;replace hS:=St.all.1 hS;simp only[lkL,List.cons_append,List.nil_append]at hS)|(apply RO.op;apply OP.range hS;rfl;rfl;(exact Rd.any);rfl;clear hS;intro r w1 hS)|apply Qs|apply Qr|apply Qn|refine Ql ?_|(refine Qx ?_;clear hS;intro b w1 hS)|(refine Qa ?_;clear hS;intro b w1 hS)|apply Qb
 rename_i bk _ _ _ _ _;have hS2:St we ρ (Lk y L _ _ _ kvK stK cK::_) _:=zBA hS;clear hS;refine Run.while (fun q:Array Nat × List Int × Value × List (Int × Bool) × List Nat × Nat=>[(1,pP bk),(3,canV y),(4,pP b),(5,.func (.func 180) #[] #[pP bk,pP b]),(16,pP r)])
  (fun q w=>MoreI L K kvK stK q.1 q.2.1∧Tells (can L K) q.2.2.2.1 q.2.2.2.2.1∧St we ρ (Lk y L q.2.2.2.1 q.2.2.2.2.1 q.2.2.2.2.2 kvK stK cK::Blk r (.mapIter (some y.km) cK q.1 cK)::Vec 3 1 q.2.2.1 q.2.1.length (q.2.1.flatMap intL)::Row bk [pP y.kb] 41::Row b [q.2.2.1] 80::Vec 3 1 y.hv heard.length (heard.flatMap intL)::F) w)
  (fun q=>zEZ stK q.1) (#[],[],.slice none 0 0,[],[],0) ⟨zNW,zJW _,(zAh hS2).picks (by focus((repeat(first|apply Picks.all|apply Picks.nil|(refine Picks.cons (by repeat(first|apply Take.head|apply Take.tail)) ?_)|apply Picks.drop));done))⟩ (by exact Sb) ?_
 clear hS2;rintro⟨seen,out,ov,kv,st,c⟩ w ⟨hI,ht,hS⟩ ih;simp only at hI ht hS ih ⊢;replace hS:=St.all.1 hS;simp only[lkL,List.cons_append,List.nil_append]at hS;have hol:out.length≤200000:=by have:=hI.len;omega
 have hcan:∀x (w:World) (F:List HP) (kv:List (Int × Bool)) (st:List Nat) (c:Nat),Tells (can L K) kv st→St we ρ (Lk y L kv st c kvK stK cK::F) w→_:=fun x w F kv st c=>zUe k1 hh g (x.toNat+1) x w F kv st c (fun _=>Nat.lt_succ_self _)
 repeat' first|apply Qs|apply Qr
 apply RO.op;apply OP.next hS
 · rfl
 · exact An
 · (exact Rd.any)
 · exact hold
 · exact Nat.le_refl _
 · rfl
 · intro hall
   repeat' first|apply Qs|apply Qr|apply Qn|refine Ql ?_|refine Qf ?_|refine Qe ?_
   refine Qw Tryz.func138 ?_;have h2:St we ρ (KN y.kb y.p heard K::Vec 3 1 ov out.length (out.flatMap intL)::zAA y.p y.lim L::F) _:=zFh k1 k2 k3 hS.pk;exact⟨out,hI.src,zRi k1 hI hall,hol,h2.pk⟩
 · clear hS
   intro en hen hns w1 hS;obtain⟨z,b2,s,rfl,hz,hI2,hlt⟩:=zPl k1 k2 hI hen hns;simp only at hS;by_cases k8:(nd L z).k=8
   · have hc:zA6 L K z=[(nd L z).a,(nd L z).b]:=by unfold zA6;rw[if_pos k8]
     rw[hc]at hI2;repeat' first|(refine Ql ?_ (h:=by apply Still.entry (en:=⟨pI z,.bool b2,s⟩);rfl;(exact Rd.any);(exact Rd.any);exact hen;exact hnod))|(refine Qv 10 (zA0 hS.tk) ?_;clear hS;intro w1 hS)|(apply RO.op;apply OP.callV;rfl;rfl;rfl;rfl;refine zLo (l:=[(nd L z).a,(nd L z).b]) (cs:=[pI (nd L z).a,pI (nd L z).b]) (el:=3) (fr:=(0,0)) k1 (by simp) hol ?_ ?_ (zV6 hS An An An An An);(exact Rd.any);(intro i hi;simp at hi;rcases i with _ | _|i<;>first|rfl|omega);clear hS;rintro v w1 ⟨ov',hS⟩)|apply Qs|apply Qr|(apply Rs<;>intro hc<;>try exact No)|apply Qn|refine Ql ?_|(refine Qa ?_;clear hS;intro b w1 hS)|(refine Qd ?_;clear hS;intro w1 hS)|(refine Qg ?_;clear hS;intro b w1 hS)|refine Qt ?_|apply Qk|apply Qb|apply Qi
     refine Run.weaken (by exact Sb) (ih (_,_,ov',kv,st,c) _ ⟨hI2,ht,?_⟩ hlt);have hS2:St we ρ (Lk y L _ _ _ kvK stK cK::_) _:=zBA hS;exact hS2.pk
   by_cases k7:(nd L z).k=7
   · have hcan:=hcan (nd L z).a
     cases hca:can L K (nd L z).a with
     | true =>
       have hc:zA6 L K z=[(nd L z).c]:=by unfold zA6;rw[if_neg k8,if_pos ⟨k7,hca⟩]
       rw[hc]at hI2;simp only[hca]at hcan;repeat' first|(refine Ql ?_ (h:=by apply Still.entry (en:=⟨pI z,.bool b2,s⟩);rfl;(exact Rd.any);(exact Rd.any);exact hen;exact hnod))|(refine Qv 10 (zA0 hS.tk) ?_;clear hS;intro w1 hS)|(apply RO.op;apply OP.callV;rfl;rfl;rfl;rfl;exact hcan _ _ _ _ _ ht (zBA hS);clear hS;rintro v w1 ⟨kv',st',c',rfl,ht',hS⟩;replace hS:=St.all.1 hS;simp only[lkL,List.cons_append,List.nil_append]at hS)|(apply RO.op;apply OP.callV;rfl;rfl;rfl;rfl;refine zLo (l:=[(nd L z).c]) (cs:=[pI (nd L z).c]) (el:=3) (fr:=(0,0)) k1 (by simp) hol ?_ ?_ (zV6 hS An An An An An);(exact Rd.any);(intro i hi;simp at hi;rcases i with _|i<;>first|rfl|omega);clear hS;rintro v w1 ⟨ov',hS⟩)|apply Qs|apply Qr|(apply Rs<;>intro hc<;>try exact No)|apply Qn|refine Ql ?_|(refine Qa ?_;clear hS;intro b w1 hS)|(refine Qd ?_;clear hS;intro w1 hS)|(refine Qg ?_;clear hS;intro b w1 hS)|refine Qy ?_|refine Qt ?_|refine Qf ?_|apply Qk|apply Qb|apply Qi
       refine Run.weaken (by exact Sb) (ih (_,_,ov',kv',st',c') _ ⟨hI2,ht',?_⟩ hlt);have hS2:St we ρ (Lk y L _ _ _ kvK stK cK::_) _:=zBA hS;exact hS2.pk
     | false =>
       have hc:zA6 L K z=[]:=by unfold zA6;rw[if_neg k8,if_neg (fun h=>by rw[hca]at h;cases h.2)]
       rw[hc,List.filter_nil,List.append_nil]at hI2;simp only[hca]at hcan;repeat' first|(refine Ql ?_ (h:=by apply Still.entry (en:=⟨pI z,.bool b2,s⟩);rfl;(exact Rd.any);(exact Rd.any);exact hen;exact hnod))|(refine Qv 10 (zA0 hS.tk) ?_;clear hS;intro w1 hS)|(apply RO.op;apply OP.callV;rfl;rfl;rfl;rfl;exact hcan _ _ _ _ _ ht (zBA hS);clear hS;rintro v w1 ⟨kv',st',c',rfl,ht',hS⟩;replace hS:=St.all.1 hS;simp only[lkL,List.cons_append,List.nil_append]at hS)|apply Qs|apply Qr|(apply Rs<;>intro hc<;>try exact No)|apply Qn|refine Ql ?_|(refine Qa ?_;clear hS;intro b w1 hS)|(refine Qd ?_;clear hS;intro w1 hS)|refine Qy ?_|refine Qt ?_|refine Qf ?_|apply Qk|apply Qb|apply Qi
       refine Run.weaken (by exact Sb) (ih (_,_,ov,kv',st',c') _ ⟨hI2,ht',?_⟩ hlt);have hS2:St we ρ (Lk y L _ _ _ kvK stK cK::_) _:=zBA hS;exact hS2.pk
   · have hc:zA6 L K z=[]:=by unfold zA6;rw[if_neg k8,if_neg (fun h=>k7 h.1)]
     rw[hc,List.filter_nil,List.append_nil]at hI2;repeat' first|(refine Ql ?_ (h:=by apply Still.entry (en:=⟨pI z,.bool b2,s⟩);rfl;(exact Rd.any);(exact Rd.any);exact hen;exact hnod))|(refine Qv 10 (zA0 hS.tk) ?_;clear hS;intro w1 hS)|apply Qs|apply Qr|(apply Rs<;>intro hc<;>try exact No)|apply Qn|refine Ql ?_|(refine Qa ?_;clear hS;intro b w1 hS)|(refine Qd ?_;clear hS;intro w1 hS)|refine Qz ?_|refine Qt ?_|refine Qf ?_|apply Qk|apply Qb|apply Qi
     refine Run.weaken (by exact Sb) (ih (_,_,ov,kv,st,c) _ ⟨hI2,ht,?_⟩ hlt);have hS2:St we ρ (Lk y L _ _ _ kvK stK cK::_) _:=zBA hS;exact hS2.pk
end
theorem zNq (K:Int→Bool)(l:List Int)(x:Int):zBe K (l++[x])=ins (zBe K l) x:=by
 unfold zBe;rw[List.foldl_append];rfl
structure LearnI (L:List Nd)(K:Int→Bool)(x:Int)(K2:Int→Bool)(l:List Int):Prop where
 sub:∀y,K y=true→K2 y=true
 self:x∈l∨K2 x=true
 within:∀C,Closed L C→(∀y,ins K x y=true→C y=true)→(∀y,K2 y=true→C y=true)∧∀y∈l,C y=true
 hasK:∀y,K2 y=true→has L y=true
 hasl:∀y∈l,has L y=true
 fin:l=[]→Closed L K2
 len:l.length≤200000
def zOd (L:List Nd)(K2:Int→Bool)(l:List Int):Nat:=2*rest L K2+(if l≠[]∧∀y∈l,K2 y=true then 1 else 0)
theorem zL9 {L:List Nd}{K:Int→Bool}{x:Int}(hh:∀y,K y=true→has L y=true)(hx:has L x=true):LearnI L K x K [x] :=
 ⟨fun _ h=>h,.inl (by simp),fun C _ hs=>⟨fun y hy=>hs y (zCo.2 (.inl hy)),fun y hy=>hs y (zCo.2 (.inr (by simpa using hy)))⟩,hh,by simpa using hx,by simp,by simp⟩
theorem zPu {L:List Nd}{K K2:Int→Bool}{x:Int}(h:LearnI L K x K2 []):K2=cl L (ins K x):=by
 refine zSk (h.fin rfl) (fun y hy=>?_) (fun C hC hs y hy=>(h.within C hC hs).1 y hy);rcases zCo.1 hy with h1|rfl
 · exact h.sub y h1
 · rcases h.self with h2|h2
   · cases h2
   · exact h2
theorem zNb {lim:Nat}{L:List Nd}(g:Good lim L){K K2:Int→Bool}{x:Int}{l l2:List Int}(h:LearnI L K x K2 l)(hl:l≠[])(h1:∀x∈l2,zBe K2 l x=false∧∃z,zBe K2 l z=true∧x∈zA6 L (zBe K2 l) z)
 (h2:∀z,zBe K2 l z=true→∀x∈zA6 L (zBe K2 l) z,zBe K2 l x=true∨x∈l2) (h3:l2.length≤200000):LearnI L K x (zBe K2 l) l2∧zOd L (zBe K2 l) l2<zOd L K2 l:=by
 have hall:∀y,zBe K2 l y=true→has L y=true:=fun y hy=>by
  rcases zBn.1 hy with q|q
  · exact h.hasK y q
  · exact h.hasl y q
 refine⟨⟨fun y hy=>zBn.2 (.inl (h.sub y hy)),.inr ?_,fun C hC hs=>?_,hall,fun y hy=>?_,fun he=>?_,h3⟩,?_⟩
 · rcases h.self with q|q
   · exact zBn.2 (.inr q)
   · exact zBn.2 (.inl q)
 · obtain⟨q1,q2⟩:=h.within C hC hs
   have q3:∀y,zBe K2 l y=true→C y=true:=fun y hy=>by
    rcases zBn.1 hy with q|q
    · exact q1 y q
    · exact q2 y q
   refine⟨q3,fun y hy=>?_⟩;obtain⟨_,z,hz,hc⟩:=h1 y hy;exact zUE hC q3 hz hc
 · obtain⟨_,z,hz,hc⟩:=h1 y hy
   exact zSf g (hall z hz) hc
 · subst he
   exact zSh (fun z hz x hx=>by
    rcases h2 z hz x hx with q|q
    · exact q
    · cases q)
 · have hno:¬(l2≠[]∧∀y∈l2,zBe K2 l y=true):=by
    rintro⟨q1,q2⟩;obtain⟨y,l3,rfl⟩:=List.exists_cons_of_ne_nil q1;have q3:=q2 y (by simp);have q4:=(h1 y (by simp)).1;rw[q3]at q4;cases q4
   unfold zOd;rw[if_neg hno];by_cases hk:∀y∈l,K2 y=true
   · rw[if_pos ⟨hl,hk⟩]
     have:zBe K2 l=K2:=by
      funext y
      rw[Bool.eq_iff_iff,zBn];exact⟨fun q=>q.elim id (hk y),.inl⟩
     rw[this];omega
   · rw[if_neg (fun q=>hk q.2)]
     obtain⟨y,hy⟩:=Classical.not_forall.1 hk;obtain⟨hy1,hy2⟩:=Classical.not_imp.1 hy;have:=zU4 (L:=L) (K:=K2) (K':=zBe K2 l) (fun z hz=>zBn.2 (.inl hz)) (h.hasl y hy1) (by simpa using hy2) (zBn.2 (.inr hy1));omega
section
variable {we w:World}{ρ:List (Nat × Obj)}{σ F:List HP}{L:List Nd}{kv kvK:List (Int × Bool)}{st stK:List Nat}{c cK:Nat}{K:Int→Bool}{kb km p lim:Nat}{hv:Value}
theorem zNc {heard:List Int}{x:Int}(hh:∀x,K x=true→has L x=true)(hl:heard.length≤100000)(hS:St we ρ (KN kb p heard K::zAA p lim L::F) w) :
 Cl Tryz.prog 82 [pP kb,pI x] w fun v w'=>v = pI (if has L x=true then 0 else 1) ∧
  St we ρ (KN kb p (if has L x=true then heard++[x] else heard) (if has L x=true then cl L (ins K x) else K)::zAA p lim L::F) w':=by
 obtain⟨g,hS⟩:=zA7 (hS.take (.tail .head));obtain⟨km,kvK,stK,cK,hv,k1,k2,k3,hS⟩:=zId (hS.take (.tail .head));obtain⟨pk,capk,rfl⟩:=zAG (hS.take (.tail (.tail .head)));cases hx:has L x with
 | false =>
   refine Run.calls2 (n:=45) Tryz.func82 rfl rfl rfl ?_;have hx1:[x].all (has L)=false:=by simp[hx]
   repeat' first|(apply RO.op;apply OP.callF;rfl;rfl;rfl;exact zBl (xs:=[x]) hS.tk (by exact Rd.any) zNp len1;clear hS;rintro v w1 ⟨rfl,hS⟩;rw[hx1])|apply Qs|apply Qr|apply Qn|refine Ql ?_|(refine Qg ?_;clear hS;intro b w1 hS)|refine Qt ?_
   refine Qw Tryz.func82 ?_;have h2:St we ρ (KN kb p heard K::zAA p lim L::F) _:=zFh k1 k2 k3 hS.pk;exact⟨rfl,h2⟩
 | true =>
   refine Run.calls2 (n:=45) Tryz.func82 rfl rfl rfl ?_;have hx1:[x].all (has L)=true:=by simp[hx]
   repeat' first
    | (apply RO.op;apply OP.callF;rfl;rfl;rfl;exact zBl (xs:=[x]) hS.tk (by exact Rd.any) zNp len1;clear hS;rintro v w1 ⟨rfl,hS⟩;rw[hx1])
    | (apply RO.op;apply OP.append (size:=1) (bytes:=8) (k:=1) (news:=[.int .i64 x]) hS;rfl;rfl;rfl;rfl;rfl;rfl;rfl;rfl;exact(by omega);exact An;(exact Rd.any);rfl;rfl;exact(by intro v hv;simp at hv;subst hv;rfl);(exact(by unfold maxLen;omega));(exact(by omega));rfl
       clear hS;intro v2 w1 hS;obtain⟨pk2,capk2,rfl⟩:=zAG hS)
    | apply Qs
    | apply Qr
    | apply Qn
    | refine Ql ?_
    | (refine Qd ?_;clear hS;intro w1 hS)
    | (refine Qg ?_;clear hS;intro b w1 hS)
    | refine Qf ?_
    | apply Qk
    | apply Qb
   have hS2:St we ρ (Row b [pI x] 3::Row kb [pP p,.slice pk2 (heard.length+1) capk2,.map (some km)] 130::BMap km kvK stK cK::Vec 3 1 (.slice pk2 (heard.length+1) capk2) (heard++[x]).length ((heard++[x]).flatMap intL)::zAA p lim L::F) w1:=by
    rw[List.length_append,List.flatMap_append];exact hS.pk
   have hS3:=zBF (m:=1) (cap:=1) (size:=1) (xs:=([x]:List Int).flatMap intL) hS2 (Nat.le_refl _) (by unfold maxLen;omega) rfl rfl;have hS4:=zFh k1 k2 k3 (hS3.take (.tail .head) |>.picks (by focus((repeat(first|apply Picks.all|apply Picks.nil|(refine Picks.cons (by repeat(first|apply Take.head|apply Take.tail)) ?_)|apply Picks.drop));done)):St we ρ (Row kb [pP p,.slice pk2 (heard.length+1) capk2,.map (some km)] 130::BMap km kvK stK cK::Vec 3 1 (.slice pk2 (heard.length+1) capk2) (heard++[x]).length ((heard++[x]).flatMap intL)::Vec 3 1 (.slice (some ⟨b,0,none⟩) 1 1) 1 ([x].flatMap intL)::zAA p lim L::F) w1);clear hS hS2 hS3;refine Run.while (fun q:(Int→Bool) × List Int × Value=>[(0,pP kb),(5,q.2.2)])
    (fun q w=>LearnI L K x q.1 q.2.1∧St we ρ (KN kb p (heard++[x]) q.1::Vec 3 1 q.2.2 q.2.1.length (q.2.1.flatMap intL)::zAA p lim L::F) w)
    (fun q=>zOd L q.1 q.2.1) (K,[x],.slice (some ⟨b,0,none⟩) 1 1) ⟨zL9 hh hx,hS4⟩ (by exact Sb) ?_
   clear hS4 k1 k2 k3;rintro⟨K2,l,lv⟩ w ⟨hI,hS⟩ ih;simp only at hI hS ih ⊢;by_cases hl0:l=[]
   · have hlen:l.length=0:=by rw[hl0];rfl
     obtain⟨pl,capl,rfl⟩:=zAG (hS.take (.tail .head));repeat' first|apply Qs|apply Qr|(apply Rs<;>intro hc<;>try exact No)|apply Qn|refine Ql ?_|refine Qf ?_|refine Qe ?_
     refine Qw Tryz.func82 ?_;subst hl0;have he:=zPu hI;subst he;exact Xp
   · have hpos:0<l.length:=List.length_pos_iff.2 hl0
     have hll:=hI.len;obtain⟨_,⟨_,h0,_⟩|⟨g0,capl,spare,rfl,c1,c2,c3,hS2⟩⟩:=zBP (hS.take (.tail .head))
     · omega
     obtain⟨km,kvK,stK,cK,hv,k1,k2,k3,hS3⟩:=zId (hS2.take (.tail .head));clear hS hS2;have hS:=hS3;clear hS3;have hcs:∀(i:Nat) (h:i<l.length),(l.flatMap intL++spare)[i]? = some (pI l[i]):=by
      intro i h;rw[zB4,List.getElem?_append_left (by simpa using h)];simp[h]
     generalize hcell:l.flatMap intL++spare=cells at hS hcs;repeat' first|apply Qs|apply Qr|(apply Rs<;>intro hc<;>try exact No)|apply Qn|refine Ql ?_|refine Qt ?_|apply Qk|apply Qb
     refine Run.while (fun q:Nat × List (Int × Bool) × List Nat × Nat=>[(0,pP kb),(33,.slice (some ⟨g0,0,none⟩) l.length capl),(34,pI l.length),(35,pI q.1)])
      (fun q w=>q.1≤l.length∧Knows (zBe K2 (l.take q.1)) q.2.1 q.2.2.1∧q.2.2.1.Nodup∧(∀s∈q.2.2.1,s<q.2.2.2) ∧
        St we ρ (Row kb [pP p,hv,.map (some km)] 130::BMap km q.2.1 q.2.2.1 q.2.2.2::Vec 3 1 hv (heard++[x]).length ((heard++[x]).flatMap intL)::Row g0 cells 3::zAA p lim L::F) w) (fun q=>l.length - q.1) (0,kvK,stK,cK)
      ⟨by simp,by simpa[zBe]using k1,k2,k3,hS.pk⟩ (by exact Sb) ?_
     clear hS k1 k2 k3;rintro⟨i,kv,st,c⟩ w ⟨hi,k1,k2,k3,hS⟩ ih2;simp only at hi k1 k2 k3 hS ih2 ⊢;by_cases hlt:i<l.length
     · have hci:=hcs i hlt
       have e0:zBe K2 (l.take (i+1))=ins (zBe K2 (l.take i)) l[i]:=by rw[List.take_succ_eq_append_getElem hlt,zNq]
       generalize l[i]=z at hci e0;obtain⟨kv2,st2,c2,hput,k4,k5⟩:=zRy k1 z c;rw[← e0]at k4;have k6:st2.Nodup∧∀s∈st2,s<c2:=by
        rcases k5 with ⟨rfl,rfl⟩|⟨rfl,rfl⟩
        · exact⟨k2,k3⟩
        · refine⟨List.nodup_append.2 ⟨k2,by simp,fun a ha b hb=>?_⟩,fun s hs=>?_⟩
          · simp at hb;subst hb;have:=k3 a ha;omega
          · rcases List.mem_append.1 hs with q|q
            · have:=k3 s q;omega
            · simp at q;omega
       repeat' first|(refine Ql ?_ (h:=by apply Still.load;rfl;rfl;(exact Rd.any);exact hci))|(apply RO.op;apply OP.mapUpdate hS;rfl;rfl;rfl;rfl;exact An;exact KeyIs.int (f:=intK) rfl (zAS zAT);exact zCy (zAS zAT);exact hput;clear hS;intro w1 hS)|apply Qs|apply Qr|(apply Rs<;>intro hc<;>try exact No)|apply Qn|refine Ql ?_|refine Qt ?_|apply Qk|apply Qb|apply Qi
       refine Run.weaken (by exact Sb) (ih2 (i+1,kv2,st2,c2) _ ⟨by simp;omega,k4,k6.1,k6.2,?_⟩ (by simp;omega));exact hS.pk
     · obtain rfl:i=l.length:=by omega
       rw[List.take_of_length_le (Nat.le_refl _)]at k1;have hS2:St we ρ (KN kb p (heard++[x]) (zBe K2 l)::zAA p lim L::F) _:=zFh k1 k2 k3 hS.pk;clear hS;have hS:=hS2;clear hS2;have hhas:∀y,zBe K2 l y=true→has L y=true:=fun y hy=>by
        rcases zBn.1 hy with q|q
        · exact hI.hasK y q
        · exact hI.hasl y q
       repeat' first|(refine Qc 138 (c:=zPm hhas hS) (k':=?_);clear hS;rintro v w1 ⟨l2,m1,m2,m3,hS⟩)|apply Qs|apply Qr|(apply Rs<;>intro hc<;>try exact No)|apply Qn|refine Ql ?_|refine Qf ?_|apply Qi|refine Qe ?_
       obtain⟨n1,n2⟩:=zNb g hI hl0 m1 m2 m3;refine Run.weaken (by exact Sb) (ih (zBe K2 l,l2,v) _ ⟨n1,?_⟩ n2);exact hS.pk
end
section
variable {we w:World}{ρ:List (Nat × Obj)}{σ F:List HP}{L:List Nd}{kv kvK:List (Int × Bool)}{st stK:List Nat}{c cK:Nat}{K:Int→Bool}{kb km p p2 lim:Nat}{hv:Value}
theorem zSj {v:Value}{n:Nat}{xs:List Value}(hn:n≤200000)(h1:∀u∈xs,one u=true)(ht:Take (Vec 3 1 v n xs) σ F)(hS:St we ρ σ w) :
 Cl Tryz.prog 95 [v] w fun u w'=>St we ρ (Vec 3 1 u n xs :: σ) w':=by
 have hS1:=hS.take ht;obtain⟨hl,⟨rfl,rfl,rfl,-⟩|⟨g,cap,spare,rfl,k1,k2,k3,hS2⟩⟩:=zBP hS1
 · clear hS1
   refine Run.calls1 (n:=8) Tryz.func95 rfl rfl rfl ?_;repeat' first|apply Qs|apply Qr|apply Qn|refine Ql ?_|refine Qt ?_
   refine Qw Tryz.func95 ?_;exact zAh hS
 · clear hS1
   refine Run.calls1 (n:=8) Tryz.func95 rfl rfl rfl ?_;clear hS;have hS:=hS2;clear hS2;repeat' first
    | (apply RO.op;apply OP.append (size:=1) (bytes:=8) (k:=n) (news:=xs) (zBF (size:=1) (xs:=[]) (l:=[]) (cap:=0) hS (Nat.le_refl _) (Nat.zero_le _) rfl rfl);rfl;rfl;rfl;rfl;rfl;rfl;rfl;rfl;exact(by omega);exact .head;exact(.own .head);(exact(by rw[List.drop_zero,← hl];exact List.take_left));(exact hl);exact h1;(exact(by unfold maxLen;omega));(exact(by omega));rfl
       clear hS;intro v' w1 hS)
    | apply Qs
    | apply Qr
    | apply Qn
    | refine Ql ?_
    | (refine Qg ?_;clear hS;intro b w1 hS)
    | refine Qf ?_
    | apply Qk
   refine Qw Tryz.func95 ?_;rw[Nat.zero_add,List.nil_append]at hS;have hS3:=(zBF (m:=n) (xs:=xs) (hS.take (.tail .head)) k1 k2 (by rw[List.length_append,hl,k3,← Nat.add_mul,Nat.add_sub_cancel' k1]) (by rw[← hl];exact List.take_left))
   show St we ρ (Vec 3 1 v' n xs :: σ) w1;exact hS3.untake (.tail ht)
theorem zTr {l:List Int}:∀u∈l.flatMap intL,one u=true:=by rw[zB4];exact zOj
theorem zIg {heard:List Int}(hl:heard.length≤200000)(hS:St we ρ (KN kb p heard K::F) w) :
 Cl Tryz.prog 203 [pP kb] w fun v w'=>St we ρ (Vec 3 1 v heard.length (heard.flatMap intL)::KN kb p heard K::F) w':=by
 obtain⟨km,kvK,stK,cK,hv,k1,k2,k3,hS⟩:=zId hS;refine Run.calls1 (n:=8) Tryz.func203 rfl rfl rfl ?_;repeat' first|(refine Qc 95 (c:=zSj hl zTr (.tail (.tail .head)) hS) (k':=?_);clear hS;intro v w1 hS)|apply Qs|apply Qr|apply Qn|refine Ql ?_
 refine Qw Tryz.func203 ?_;have h2:St we ρ (KN kb p heard K::_) w1:=zFh k1 k2 k3 (hS.take (.tail (.tail (.tail .head))) |>.picks (by focus((repeat(first|apply Picks.all|apply Picks.nil|(refine Picks.cons (by repeat(first|apply Take.head|apply Take.tail)) ?_)|apply Picks.drop));done)):St we ρ (Row kb [pP p,hv,.map (some km)] 130::BMap km kvK stK cK::Vec 3 1 hv heard.length (heard.flatMap intL)::Vec 3 1 v heard.length (heard.flatMap intL)::F) w1);exact h2.pk
end
section
variable {we w:World}{ρ:List (Nat × Obj)}{σ F:List HP}{L:List Nd}{K:Int→Bool}{kb p lim:Nat}{heard:List Int}
end
end Go.Proofs.YtcikdogkkgefcaaGreatDoor
