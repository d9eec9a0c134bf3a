/- What is known of keys that are mixed. What a handshake's keys tell, message by message. What a handshake's messages tell, whole. What a session's keys tell. What a session's messages tell, whole. -/
import Derived.Test.YtcikdogkkgefcaaGreatDoorMA40
namespace Go.Proofs.YtcikdogkkgefcaaGreatDoor
set_option maxRecDepth 8000
set_option maxHeartbeats 16000000
set_option linter.unusedVariables false
set_option linter.unusedSimpArgs false
open Go Go.RowKit
section
variable {Lf L:List Nd}{B:Int→Prop}{E:List Evt}{lim:Nat}{s:Sy}{h:Sh}{x q ck:Int}{n:Nd}
theorem zJF (he:(mk lim L n).2.2=0)(p:Pf Lf (mk lim L n).1):has Lf (mk lim L n).2.1=true∧nd Lf (mk lim L n).2.1=n:=by
 obtain⟨h1,h2⟩:=zKm he;exact⟨p.has h1,by rw[p.nd h1];exact h2⟩
def SecP (L:List Nd)(B:Int→Prop)(E:List Evt)(x y:Int):Prop:=(nd L y).k=2→Kn L B E x∨Kn L B E (nd L y).a
theorem zQ4 (f:Fin Lf B E){x y:Int}(he:(share lim L x y).2.2=0)(p:Pf Lf (share lim L x y).1)(hk:Kn Lf B E (share lim L x y).2.1):SecP Lf B E x y:=by
 intro h2;have p0:Pf Lf L:=p.back zHn;unfold share at he p hk;by_cases hh:has L x=true∧has L y=true
 · rw[if_pos hh]at he p hk
   have hn:=p0.nd hh.2;rw[if_neg (by rw[← hn];omega)]at he p hk;by_cases hc:cmp L x (nd L y).a>0
   · rw[if_pos hc]at he p hk
     have hm:=(zJF he p).2;have:=zWU f hk (by rw[hm]);rw[hm]at this;rw[hn];exact this.symm
   · rw[if_neg hc]at he p hk
     have hm:=(zJF he p).2;have:=zWU f hk (by rw[hm]);rw[hm]at this;rw[hn];exact this
 · rw[if_neg hh]at he
   simp at he
theorem zKw (he:(zAj lim L ck x).2.2.2=0)(p:Pf Lf (zAj lim L ck x).1):nd Lf (zAj lim L ck x).2.1=keyN 1 ck x∧nd Lf (zAj lim L ck x).2.2.1=keyN 2 ck x:=by
 unfold zAj at he p ⊢;by_cases h1:(mk lim L (keyN 1 ck x)).2.2=0
 · rw[if_pos h1]at he p ⊢
   by_cases h2:(mk lim (mk lim L (keyN 1 ck x)).1 (keyN 2 ck x)).2.2=0
   · rw[if_pos h2]at he p ⊢
     exact⟨(zJF h1 (p.back (zB5 _))).2,(zJF h2 p).2⟩
   · rw[if_neg h2]at he
     exact absurd he h2
 · rw[if_neg h1]at he
   exact absurd he h1
theorem zTm (he:(zBb lim L ck x).2.2.2.2=0)(p:Pf Lf (zBb lim L ck x).1):nd Lf (zBb lim L ck x).2.1=keyN 1 ck x∧nd Lf (zBb lim L ck x).2.2.2.1=keyN 3 ck x:=by
 unfold zBb at he p ⊢;by_cases h1:(zAj lim L ck x).2.2.2=0
 · rw[if_pos h1]at he p ⊢
   by_cases h2:(mk lim (zAj lim L ck x).1 (keyN 3 ck x)).2.2=0
   · rw[if_pos h2]at he p ⊢
     exact⟨(zKw h1 (p.back (zB5 _))).1,(zJF h2 p).2⟩
   · rw[if_neg h2]at he
     exact absurd he h2
 · rw[if_neg h1]at he
   exact absurd he h1
theorem zHY (f:Fin Lf B E){y ck x i:Int}(hn:nd Lf y=keyN i ck x)(h:Kn Lf B E y):Kn Lf B E ck∧Kn Lf B E x:=by
 have:=zRv f h (by rw[hn];simp[keyN]);rw[hn]at this;exact this
theorem zRx {y ck x i:Int}(hn:nd Lf y=keyN i ck x)(h1:Kn Lf B E ck)(h2:Kn Lf B E x):Kn Lf B E y:=.two (by rw[hn];simp[keyN]) (by rw[hn];exact h1) (by rw[hn];exact h2)
def zFz (Lf:List Nd)(B:Int→Prop)(E:List Evt)(y:Sy):Prop:=y.c.has=true→Kn Lf B E y.c.key→Kn Lf B E y.ck
theorem zDR (he:(zAW lim L s x).2.2=0):(zAW lim L s x).2.1.ck=s.ck∧(zAW lim L s x).2.1.c=s.c:=by
 unfold zAW at he ⊢;by_cases h1:(mk lim L (zIh s.h x)).2.2=0
 · rw[if_pos h1];exact⟨rfl,rfl⟩
 · rw[if_neg h1]at he;exact absurd he h1
structure Mixed (Lf:List Nd)(B:Int→Prop)(E:List Evt)(s y:Sy)(x:Int):Prop where
 ck:Kn Lf B E y.ck→Kn Lf B E s.ck∧Kn Lf B E x
 has:y.c.has=true
 key:zFz Lf B E y
theorem zHU (f:Fin Lf B E)(he:(zBK lim L s x).2.2=0)(p:Pf Lf (zBK lim L s x).1):Mixed Lf B E s (zBK lim L s x).2.1 x:=by
 unfold zBK at he p ⊢;by_cases h1:(zAj lim L s.ck x).2.2.2=0
 · rw[if_pos h1]at p ⊢
   obtain⟨k1,k2⟩:=zKw h1 p;exact⟨zHY f k1,rfl,fun _ h=>zRx k1 (zHY f k2 h).1 (zHY f k2 h).2⟩
 · rw[if_neg h1]at he;exact absurd he h1
theorem zKn (f:Fin Lf B E)(he:(zBG lim L s x).2.2=0)(p:Pf Lf (zBG lim L s x).1):Mixed Lf B E s (zBG lim L s x).2.1 x:=by
 unfold zBG at he p ⊢;by_cases h1:(zBb lim L s.ck x).2.2.2.2=0
 · rw[if_pos h1]at he p ⊢
   obtain⟨e1,e2⟩:=zDR he;obtain⟨k1,k2⟩:=zTm h1 (p.back zCW);refine⟨?_,?_,?_⟩
   · rw[e1];exact zHY f k1
   · rw[e2]
   · intro _ h
     rw[e2]at h;rw[e1];exact zRx k1 (zHY f k2 h).1 (zHY f k2 h).2
 · rw[if_neg h1]at he;exact absurd he h1
structure Same (s y:Sy):Prop where
 ck:y.ck=s.ck
 has:y.c.has=s.c.has
 key:y.c.key=s.c.key
theorem Same.ok {y:Sy}(h:Same s y)(k:zFz Lf B E s):zFz Lf B E y:=by unfold zFz at *;rw[h.ck,h.has,h.key];exact k
theorem zJ6 {c:Cph}{ad:Int}(he:(zBE lim L c ad q).2.2.2=0):(zBE lim L c ad q).2.1.has=c.has∧(zBE lim L c ad q).2.1.key=c.key∧(c.has=false→(zBE lim L c ad q).2.2.1=q) ∧
 (c.has=true→Pf Lf (zBE lim L c ad q).1→∃n,nd Lf (zBE lim L c ad q).2.2.1=⟨7,n,c.key,ad,q⟩):=by
 unfold zBE at he ⊢;by_cases h1:cmay L c ad q≠0
 · rw[if_pos h1]at he;exact absurd he h1
 rw[if_neg h1]at he ⊢;by_cases h2:c.has=false
 · rw[if_pos h2];exact⟨rfl,rfl,fun _=>rfl,fun h=>by rw[h2]at h;exact Bool.noConfusion h⟩
 rw[if_neg h2]at he ⊢;by_cases h3:(mk lim L ⟨7,c.n,c.key,ad,q⟩).2.2≠0
 · rw[if_pos h3]at he;exact absurd he h3
 rw[if_neg h3];exact⟨rfl,rfl,fun h=>absurd h h2,fun _ p=>⟨c.n,(zJF (Classical.not_not.1 h3) p).2⟩⟩
theorem zQS {c:Cph}{ad:Int}(he:(zCB L c ad x).2.2=0):(zCB L c ad x).1.has=c.has∧(zCB L c ad x).1.key=c.key:=by
 unfold zCB at he ⊢;by_cases h1:cmay L c ad x≠0
 · rw[if_pos h1]at he;exact absurd he h1
 rw[if_neg h1]at he ⊢;by_cases h2:c.has=false
 · rw[if_pos h2];exact⟨rfl,rfl⟩
 rw[if_neg h2]at he ⊢;by_cases h3:nd L x=⟨7,c.n,c.key,ad,(nd L x).c⟩
 · rw[if_pos h3];exact⟨rfl,rfl⟩
 · rw[if_neg h3]at he;simp at he
theorem zMR {c:Cph}{told:Int}(he:(zDy lim L s c x told).2.2.2=0):(zDy lim L s c x told).2.1.ck=s.ck∧(zDy lim L s c x told).2.1.c=c∧(zDy lim L s c x told).2.2.1=told:=by
 unfold zDy at he ⊢;by_cases h1:(zAW lim L ⟨s.ck,s.h,c⟩ x).2.2=0
 · rw[if_pos h1];have:=zDR h1;exact⟨this.1,this.2,rfl⟩
 · rw[if_neg h1]at he;exact absurd he h1
theorem zLU (he:(zAy lim L s q).2.2.2=0)(p:Pf Lf (zAy lim L s q).1):Same s (zAy lim L s q).2.1∧(s.c.has=false→(zAy lim L s q).2.2.1=q)∧(s.c.has=true→∃n,nd Lf (zAy lim L s q).2.2.1=⟨7,n,s.c.key,s.h,q⟩):=by
 unfold zAy at he p ⊢;by_cases h1:(zBE lim L s.c s.h q).2.2.2=0
 · rw[if_pos h1]at he p ⊢
   obtain⟨a1,a2,a3,a4⟩:=zJ6 (Lf:=Lf) h1;obtain⟨b1,b2,b3⟩:=zMR he;rw[b3];exact⟨⟨b1,by rw[b2,a1],by rw[b2,a2]⟩,a3,fun h=>a4 h (p.back zNs)⟩
 · rw[if_neg h1]at he;exact absurd he h1
theorem zLV (he:(zBB lim L s x).2.2.2=0):Same s (zBB lim L s x).2.1:=by
 unfold zBB at he ⊢;by_cases h1:(zCB L s.c s.h x).2.2=0
 · rw[if_pos h1]at he ⊢
   obtain⟨a1,a2⟩:=zQS h1;obtain⟨b1,b2,b3⟩:=zMR he;exact⟨b1,by rw[b2,a1],by rw[b2,a2]⟩
 · rw[if_neg h1]at he;exact absurd he h1
theorem zH7 (f:Fin Lf B E)(he:(zBx lim L s).2.2.2=0)(p:Pf Lf (zBx lim L s).1):((zBx lim L s).2.1.has=true∧(Kn Lf B E (zBx lim L s).2.1.key→Kn Lf B E s.ck))∧((zBx lim L s).2.2.1.has=true∧(Kn Lf B E (zBx lim L s).2.2.1.key→Kn Lf B E s.ck)):=by
 unfold zBx at he p ⊢;by_cases h1:(zAj lim L s.ck 0).2.2.2=0
 · rw[if_pos h1]at p ⊢
   obtain⟨k1,k2⟩:=zKw h1 p;exact⟨⟨rfl,fun h=>(zHY f k1 h).1⟩,⟨rfl,fun h=>(zHY f k2 h).1⟩⟩
 · rw[if_neg h1]at he;exact absurd he h1
theorem zMV (f:Fin Lf B E){c:Cph}(he:(zBm lim L c).2.2=0)(p:Pf Lf (zBm lim L c).1):(zBm lim L c).2.1.has=c.has∧c.has=true∧(Kn Lf B E (zBm lim L c).2.1.key→Kn Lf B E c.key):=by
 unfold zBm at he p ⊢;by_cases h1:c.has=false
 · rw[if_pos h1]at he;simp at he
 rw[if_neg h1]at he p ⊢;by_cases h2:(mk lim L ⟨6,4,c.key,0,0⟩).2.2≠0
 · rw[if_pos h2]at he;exact absurd he h2
 rw[if_neg h2]at p ⊢;have h3:=(zJF (Classical.not_not.1 h2) p).2;refine⟨rfl,by simpa using h1,fun h=>?_⟩;have:=zRv f h (by rw[h3];simp);rw[h3]at this;exact this.1
end
structure Up (Lf:List Nd)(B:Int→Prop)(E:List Evt)(s y:Sy):Prop where
 ck:Kn Lf B E y.ck→Kn Lf B E s.ck
 has:s.c.has=true→y.c.has=true
 key:zFz Lf B E s→zFz Lf B E y
section
variable {Lf L:List Nd}{B:Int→Prop}{E:List Evt}{lim:Nat}{s y z:Sy}{h:Sh}{x q t who e:Int}
theorem Up.trans (a:Up Lf B E s y)(b:Up Lf B E y z):Up Lf B E s z:=⟨fun h=>a.ck (b.ck h),fun h=>b.has (a.has h),fun h=>b.key (a.key h)⟩
theorem Same.up (a:Same s y):Up Lf B E s y:=⟨fun h=>by rw[a.ck]at h;exact h,fun h=>by rw[a.has];exact h,fun k=>a.ok k⟩
theorem Mixed.up (a:Mixed Lf B E s y x):Up Lf B E s y:=⟨fun h=>(a.ck h).1,fun _=>a.has,fun _=>a.key⟩
theorem zEe (f:Fin Lf B E){eph:Bool}(he:(zA3 lim L h x eph).2.2=0)(p:Pf Lf (zA3 lim L h x eph).1):∃y,(zA3 lim L h x eph).2.1 = { h with y:=y }∧Up Lf B E h.y y:=by
 unfold zA3 at he p ⊢;by_cases h1:(zAW lim L h.y x).2.2≠0
 · rw[if_pos h1]at he;exact absurd he h1
 rw[if_neg h1]at he p ⊢;have hs:=zDR (Classical.not_not.1 h1);have hup:Up Lf B E h.y (zAW lim L h.y x).2.1:=Same.up ⟨hs.1,by rw[hs.2],by rw[hs.2]⟩;by_cases h2:(eph && zPn h.p)=true
 · rw[if_pos h2]at he p ⊢
   exact⟨_,rfl,hup.trans (zHU f he p).up⟩
 · rw[if_neg h2]
   exact⟨_,rfl,hup⟩
theorem zFN (he:(zAU lim L h x).2.2.2=0)(p:Pf Lf (zAU lim L h x).1):∃y,(zAU lim L h x).2.1 = { h with y:=y }∧Same h.y y∧(h.y.c.has=false→(zAU lim L h x).2.2.1=x)∧(h.y.c.has=true→∃n,nd Lf (zAU lim L h x).2.2.1=⟨7,n,h.y.c.key,h.y.h,x⟩):=by
 unfold zAU at he p ⊢;by_cases h1:(zAy lim L h.y x).2.2.2≠0
 · rw[if_pos h1]at he;exact absurd he h1
 rw[if_neg h1]at p ⊢;obtain⟨a1,a2,a3⟩:=zLU (Classical.not_not.1 h1) p;exact⟨_,rfl,a1,a2,a3⟩
theorem zFP (he:(zAO lim L h x).2.2.2=0):∃y,(zAO lim L h x).2.1 = { h with y:=y }∧Same h.y y:=by
 unfold zAO at he ⊢;by_cases h1:(zBB lim L h.y x).2.2.2≠0
 · rw[if_pos h1]at he;exact absurd he h1
 rw[if_neg h1];exact⟨_,rfl,zLV (Classical.not_not.1 h1)⟩
theorem zL3 (f:Fin Lf B E)(he:(zAR lim L h t).2.2=0)(p:Pf Lf (zAR lim L h t).1):∃y nx,(zAR lim L h t).2.1 = { h with y:=y,next:=nx }∧Up Lf B E h.y y∧(t≠7→y.c.has=true∧(Kn Lf B E y.ck→SecP Lf B E (zBT h t).1 (zBT h t).2)):=by
 unfold zAR at he p ⊢;by_cases h7:t=7
 · rw[if_pos h7]at he p ⊢
   by_cases h1:(zBG lim L h.y (h.psks.getD h.next 0)).2.2≠0
   · rw[if_pos h1]at he;exact absurd he h1
   rw[if_neg h1]at p ⊢;exact⟨_,_,rfl,(zKn f (Classical.not_not.1 h1) p).up,fun h=>absurd h7 h⟩
 · rw[if_neg h7]at he p ⊢
   by_cases h1:(share lim L (zBT h t).1 (zBT h t).2).2.2≠0
   · rw[if_pos h1]at he;exact absurd he h1
   rw[if_neg h1]at he p ⊢;by_cases h2:(zBK lim (share lim L (zBT h t).1 (zBT h t).2).1 h.y (share lim L (zBT h t).1 (zBT h t).2).2.1).2.2≠0
   · rw[if_pos h2]at he;exact absurd he h2
   rw[if_neg h2]at p ⊢;have hm:=zHU f (Classical.not_not.1 h2) p;exact⟨_,_,rfl,hm.up,fun _=>⟨hm.has,fun hk=>zQ4 f (Classical.not_not.1 h1) (p.back zIj) (hm.ck hk).2⟩⟩
def zFm (role:Int)(tk:Trk):Bool:=if role=0 then tk.m4 else tk.m5
theorem zUO (tk:Trk)(t:Int):(tk.put t).m3=(tk.m3 || decide (t=3)):=by
 unfold Trk.put;(repeat' split)<;>simp_all
theorem zOV (role:Int)(tk:Trk)(t:Int):zFm role (tk.put t)=(zFm role tk || decide (t=if role=0 then 4 else 5)):=by
 unfold Trk.put zFm;by_cases hr:role=0
 · rw[if_pos hr,if_pos hr,if_pos hr]
   (repeat' split)<;>simp_all
 · rw[if_neg hr,if_neg hr,if_neg hr]
   (repeat' split)<;>simp_all
structure HS (Lf:List Nd)(B:Int→Prop)(E:List Evt)(vs:VS)(tk:Trk)(h:Sh):Prop where
 key:zFz Lf B E h.y
 ee:tk.m3=true→vs.has 0 1=true∧vs.has 1 1=true∧h.y.c.has=true∧(Kn Lf B E h.y.ck→SecP Lf B E h.e h.re)
 es:zFm h.role tk=true→vs.has h.role 1=true∧vs.has (1 - h.role) 2=true∧h.y.c.has=true∧(Kn Lf B E h.y.ck→SecP Lf B E h.e h.rs)
def VSle (a b:VS):Prop:=∀who t,a.has who t=true→b.has who t=true
theorem HS.up {vs vs':VS}{tk:Trk}{nx:Nat}(a:HS Lf B E vs tk h)(u:Up Lf B E h.y y)(hv:VSle vs vs'):HS Lf B E vs' tk { h with y:=y,next:=nx }:=by
 refine⟨u.key a.key,fun h3=>?_,fun h4=>?_⟩
 · obtain⟨b1,b2,b3,b4⟩:=a.ee h3
   exact⟨hv _ _ b1,hv _ _ b2,u.has b3,fun k=>b4 (u.ck k)⟩
 · obtain⟨b1,b2,b3,b4⟩:=a.es h4
   exact⟨hv _ _ b1,hv _ _ b2,u.has b3,fun k=>b4 (u.ck k)⟩
theorem HS.tk {vs:VS}{tk tk':Trk}(a:HS Lf B E vs tk h)(h3:tk'.m3=tk.m3)(h4:zFm h.role tk'=zFm h.role tk):HS Lf B E vs tk' h :=
 ⟨a.key,fun k=>a.ee (by rw[← h3];exact k),fun k=>a.es (by rw[← h4];exact k)⟩
theorem zWc (s:VS)(who t:Int):VSle s (s.add who t):=by
 intro w u;unfold VS.add VS.has;(repeat' split)<;>simp_all
theorem zTc (s:VS)(t w u:Int):(s.meet t).has w u=s.has w u:=by
 unfold VS.meet VS.has;(repeat' split)<;>rfl
theorem zR2 (s:VS)(k:Bool)(w u:Int):({ s with keyed:=k }:VS).has w u=s.has w u:=by
 unfold VS.has;(repeat' split)<;>rfl
theorem zDl (s:VS)(who t:Int):VSle s (zAx s who t).1:=by
 intro w u hw;unfold zAx;(repeat' split)<;>first|exact hw|(rw[zR2];exact zWc _ _ _ _ _ hw)|(rw[zR2,zTc];exact hw)
theorem zGn {vs:VS}(ht:t=1∨t=2)(hv:¬ 0<(zAx vs who t).2):vs.has who t=false:=by
 unfold zAx at hv;rw[if_pos ht]at hv;by_cases h1:vs.has who t=true
 · rw[if_pos h1]at hv;simp at hv
 · simpa using h1
theorem zH3 {vs:VS}(ht:2<t∧t<7)(hv:¬ 0<(zAx vs who t).2):vs.has 0 (zEM t)=true∧vs.has 1 (zEL t)=true:=by
 unfold zAx at hv;rw[if_neg (by omega)]at hv;by_cases h1:t<7∧(vs.has 0 (zEM t)=false∨vs.has 1 (zEL t)=false)
 · rw[if_pos h1]at hv;simp at hv
 · have h2:¬(vs.has 0 (zEM t)=false∨vs.has 1 (zEL t)=false):=fun h=>h1 ⟨ht.2,h⟩
   constructor
   · cases h3:vs.has 0 (zEM t)with
     | true=>rfl
     | false=>exact absurd (.inl h3) h2
   · cases h3:vs.has 1 (zEL t)with
     | true=>rfl
     | false=>exact absurd (.inr h3) h2
theorem zUW (f:Fin Lf B E){vs:VS}{tk:Trk}(hr:h.role=0∨h.role=1)(a:HS Lf B E vs tk h)(ht:2<t∧t≤7)(hv:¬ 0<(zAx vs who t).2)(he:(zAR lim L h t).2.2=0)(p:Pf Lf (zAR lim L h t).1) :
 ∃y nx,(zAR lim L h t).2.1 = { h with y:=y,next:=nx }∧HS Lf B E (zAx vs who t).1 (tk.put t) { h with y:=y,next:=nx }:=by
 obtain⟨y,nx,e1,u,hs⟩:=zL3 f he p;have b:=a.up (nx:=nx) u (zDl vs who t);have hle:=zDl vs who t;refine⟨y,nx,e1,b.key,fun h3=>?_,fun h4=>?_⟩
 · rw[zUO,Bool.or_eq_true]at h3
   rcases h3 with h3|h3
   · exact b.ee h3
   · have h3:=of_decide_eq_true h3
     subst h3;obtain⟨c1,c2⟩:=zH3 (by omega) hv;obtain⟨d1,d2⟩:=hs (by omega);refine⟨hle _ _ c1,hle _ _ c2,d1,?_⟩;have hp:zBT h 3=(h.e,h.re):=by unfold zBT zEk;simp
     rw[hp]at d2;exact d2
 · rw[zOV,Bool.or_eq_true]at h4
   rcases h4 with h4|h4
   · exact b.es h4
   · have h4:=of_decide_eq_true h4
     simp only at h4 ⊢;rcases hr with hr|hr
     · rw[if_pos hr]at h4
       subst h4;obtain⟨c1,c2⟩:=zH3 (by omega) hv;obtain⟨d1,d2⟩:=hs (by omega);have hp:zBT h 4=(h.e,h.rs):=by unfold zBT zEk;simp[hr]
       rw[hp]at d2;rw[hr];exact⟨hle _ _ c1,hle _ _ c2,d1,d2⟩
     · rw[if_neg (by omega)]at h4
       subst h4;obtain⟨c1,c2⟩:=zH3 (by omega) hv;obtain⟨d1,d2⟩:=hs (by omega);have hp:zBT h 5=(h.e,h.rs):=by unfold zBT zEk;simp[hr]
       rw[hp]at d2;rw[hr];exact⟨hle _ _ c2,hle _ _ c1,d1,d2⟩
end
section
variable {Lf L:List Nd}{B:Int→Prop}{E:List Evt}{lim:Nat}{s y z:Sy}{h:Sh}{x q t who e:Int}
def zQf (Lf:List Nd)(x:Int):Prop:=(nd Lf x).k=2∨((nd Lf x).k=7∧(nd Lf (nd Lf x).c).k=2)
theorem zKa {tk:Trk}(ht:t=1∨t=2)(role:Int):(tk.put t).m3=tk.m3∧zFm role (tk.put t)=zFm role tk:=by
 rw[zUO,zOV];have h1:decide (t=3)=false:=by simp;omega
 have h2:decide (t=if role=0 then 4 else 5)=false:=by
  rw[decide_eq_false_iff_not];split<;>omega
 rw[h1,h2];simp
structure Hold (h h':Sh):Prop where
 role:h'.role=h.role
 s:h'.s=h.s
 p:h'.p=h.p
 at_:h'.at_=h.at_
theorem zTu (f:Fin Lf B E){vs:VS}{tk:Trk}(a:HS Lf B E vs tk h)(hv:¬ 0<(zAx vs h.role 1).2)(hr:h.role=0∨h.role=1)(he:(zA9 lim L { h with e:=e } 1).2.2.2=0)(p:Pf Lf (zA9 lim L { h with e:=e } 1).1) :
 ∃y,(zA9 lim L { h with e:=e } 1).2.1 = { h with e:=e,y:=y }∧HS Lf B E (zAx vs h.role 1).1 (tk.put 1) { h with e:=e,y:=y }∧zQf Lf (zA9 lim L { h with e:=e } 1).2.2.1:=by
 have hnew:=zGn (vs:=vs) (who:=h.role) (t:=1) (by omega) hv;unfold zA9 at he p ⊢;by_cases h1:(1:Int)=1∧({ h with e:=e }:Sh).e=0
 · rw[if_pos h1]at he;simp at he
 rw[if_neg h1]at he p ⊢;by_cases h2:(zAk lim L { h with e:=e } ({ h with e:=e }:Sh).role 1).2.2≠0
 · rw[if_pos h2]at he;exact absurd he h2
 rw[if_neg h2,if_neg (by decide)]at he p ⊢;simp only at he p ⊢;obtain⟨y,e1,u⟩:=zEe f he p;have a1:HS Lf B E vs (tk.put 1) { h with e:=e }:=by
  obtain⟨q1,q2⟩:=zKa (tk:=tk) (t:=1) (by omega) h.role;refine⟨a.key,fun k=>?_,fun k=>?_⟩
  · obtain⟨b1,b2,-⟩:=a.ee (by rw[← q1];exact k)
    rcases hr with hr|hr<;>rw[hr]at hnew
    · rw[b1]at hnew;exact Bool.noConfusion hnew
    · rw[b2]at hnew;exact Bool.noConfusion hnew
  · obtain⟨b1,-⟩:=a.es (by rw[← q2];exact k)
    rw[b1]at hnew;exact Bool.noConfusion hnew
 refine⟨y,e1,a1.up u (zDl vs h.role 1),.inl ?_⟩;have p2:Pf Lf (zAk lim L { h with e:=e } ({ h with e:=e }:Sh).role 1).1:=p.back zGU;unfold zAk at h2 p2 ⊢;rw[if_neg (by simp)]at h2 p2 ⊢;rw[(zJF (Classical.not_not.1 h2) p2).2]
theorem zTt (f:Fin Lf B E){vs:VS}{tk:Trk}(a:HS Lf B E vs tk h)(he:(zA9 lim L h 2).2.2.2=0)(p:Pf Lf (zA9 lim L h 2).1) :
 ∃y,(zA9 lim L h 2).2.1 = { h with y:=y }∧HS Lf B E (zAx vs h.role 2).1 (tk.put 2) { h with y:=y }∧zQf Lf (zA9 lim L h 2).2.2.1:=by
 unfold zA9 at he p ⊢;rw[if_neg (by simp)]at he p ⊢;by_cases h2:(zAk lim L h h.role 2).2.2≠0
 · rw[if_pos h2]at he;exact absurd he h2
 rw[if_neg h2,if_pos rfl]at he p ⊢;obtain⟨y,e1,u,c1,c2⟩:=zFN he p;obtain⟨q1,q2⟩:=zKa (tk:=tk) (t:=2) (by omega) h.role;refine⟨y,e1,(a.tk q1 q2).up u.up (zDl vs h.role 2),?_⟩;have p2:Pf Lf (zAk lim L h h.role 2).1:=p.back zEO;have hk:(nd Lf (zAk lim L h h.role 2).2.1).k=2:=by
  unfold zAk at h2 p2 ⊢;rw[if_neg (by simp)]at h2 p2 ⊢;rw[(zJF (Classical.not_not.1 h2) p2).2]
 cases hh:h.y.c.has with
 | false=>rw[c1 hh];exact .inl hk
 | true =>
   obtain⟨n,hn⟩:=c2 hh;exact .inr (by rw[hn];exact⟨rfl,hk⟩)
theorem zTw (f:Fin Lf B E){vs:VS}{tk:Trk}{part:Int}(a:HS Lf B E vs tk h)(hv:¬ 0<(zAx vs (1 - h.role) 1).2)(hr:h.role=0∨h.role=1)(he:(zAe lim L h 1 part).2.2=0)(p:Pf Lf (zAe lim L h 1 part).1) :
 ∃y,(zAe lim L h 1 part).2.1 = { h with re:=part,y:=y }∧HS Lf B E (zAx vs (1 - h.role) 1).1 (tk.put 1) { h with re:=part,y:=y }:=by
 have hnew:=zGn (vs:=vs) (who:=1 - h.role) (t:=1) (by omega) hv;unfold zAe at he p ⊢;rw[if_pos rfl]at he p ⊢;obtain⟨y,e1,u⟩:=zEe f he p;have a1:HS Lf B E vs (tk.put 1) { h with re:=part }:=by
  obtain⟨q1,q2⟩:=zKa (tk:=tk) (t:=1) (by omega) h.role;refine⟨a.key,fun k=>?_,fun k=>a.es (by rw[← q2];exact k)⟩;obtain⟨b1,b2,-⟩:=a.ee (by rw[← q1];exact k);rcases hr with hr|hr<;>rw[hr]at hnew
  · rw[show(1:Int) - 0=1 from rfl,b2]at hnew;exact Bool.noConfusion hnew
  · rw[show(1:Int) - 1=0 from rfl,b1]at hnew;exact Bool.noConfusion hnew
 exact⟨y,e1,a1.up u (zDl vs (1 - h.role) 1)⟩
theorem zTv {vs:VS}{tk:Trk}{part:Int}(a:HS Lf B E vs tk h)(ht:t=2)(hv:¬ 0<(zAx vs (1 - h.role) t).2)(he:(zAe lim L h t part).2.2=0) :
 ∃y rs,(zAe lim L h t part).2.1 = { h with rs:=rs,y:=y }∧HS Lf B E (zAx vs (1 - h.role) t).1 (tk.put t) { h with rs:=rs,y:=y }:=by
 subst ht;have hnew:=zGn (vs:=vs) (who:=1 - h.role) (t:=2) (by omega) hv;unfold zAe at he ⊢;rw[if_neg (by decide)]at he ⊢;obtain⟨y,e1,u⟩:=zFP he;obtain⟨q1,q2⟩:=zKa (tk:=tk) (t:=2) (by omega) h.role;have b:=(a.tk q1 q2).up (nx:=h.next) (u.up (Lf:=Lf) (B:=B) (E:=E)) (zDl vs (1 - h.role) 2);refine⟨y,(zAO lim L h part).2.2.1,by rw[e1],b.key,b.ee,fun k=>?_⟩;obtain⟨-,b2,-⟩:=a.es (by rw[← q2];exact k);rw[b2]at hnew;exact Bool.noConfusion hnew
structure Toks (Lf:List Nd)(B:Int→Prop)(E:List Evt)(vs:VS)(tk:Trk)(h h':Sh):Prop where
 hs:HS Lf B E vs tk h'
 hold:Hold h h'
theorem Hold.refl (h:Sh):Hold h h:=⟨rfl,rfl,rfl,rfl⟩
theorem zHC {vs:VS}{l:List Int}(hv:¬ 0<(zA2 vs who (t::l)).2):¬ 0<(zAx vs who t).2∧¬ 0<(zA2 (zAx vs who t).1 who l).2∧(zA2 vs who (t::l)).1=(zA2 (zAx vs who t).1 who l).1:=by
 unfold zA2 at hv;by_cases h1:0<(zAx vs who t).2
 · rw[if_pos h1]at hv;exact absurd h1 hv
 · rw[if_neg h1]at hv
   refine⟨h1,hv,?_⟩;conv=>lhs;unfold zA2
   rw[if_neg h1]
theorem zL4 (tk:Trk)(l:List Int):mixT tk (t::l)=mixT (tk.put t) l:=rfl
theorem zD2 (f:Fin Lf B E)(lim:Nat)(e:Int):∀(l:List Int) (L:List Nd) (h:Sh) (m:List Int) (vs:VS) (tk:Trk),HS Lf B E vs tk h→(h.role=0∨h.role=1)→(∀t∈l,1≤t∧t≤7)→¬ 0<(zA2 vs h.role l).2→(∀x∈m,zQf Lf x) →
 (zAJ lim e L h m l).2.2.2=0→Pf Lf (zAJ lim e L h m l).1 →
 Toks Lf B E (zA2 vs h.role l).1 (mixT tk l) h (zAJ lim e L h m l).2.1∧(∀x∈(zAJ lim e L h m l).2.2.1,zQf Lf x)∧((zAJ lim e L h m l).2.1.e=h.e∨(zAJ lim e L h m l).2.1.e=e)
 | [],L,h,m,vs,tk,a,hr,hl,hv,hm,he,p=>⟨⟨a,Hold.refl _⟩,hm,.inl rfl⟩
 | t::l,L,h,m,vs,tk,a,hr,hl,hv,hm,he,p=>by
   obtain⟨v1,v2,v3⟩:=zHC hv;have ht:=hl t (List.mem_cons_self ..);rw[v3,zL4];unfold zAJ at he p ⊢;by_cases h2:2<t
   · rw[if_pos h2]at he p ⊢
     by_cases h3:(zAR lim L h t).2.2≠0
     · rw[if_pos h3]at he;exact absurd he h3
     rw[if_neg h3]at he p ⊢;obtain⟨y,nx,e1,b⟩:=zUW f hr a ⟨h2,ht.2⟩ v1 (Classical.not_not.1 h3) (p.back (zBr e _ _ _ _));rw[e1]at he p ⊢;obtain⟨c1,c2,c3⟩:=zD2 f lim e l _ { h with y:=y,next:=nx } m _ _ b hr (fun t ht=>hl t (List.mem_cons_of_mem _ ht)) v2 hm he p;exact⟨⟨c1.hs,⟨c1.hold.role,c1.hold.s,c1.hold.p,c1.hold.at_⟩⟩,c2,c3⟩
   · rw[if_neg h2]at he p ⊢
     by_cases h1:t=1
     · subst h1
       rw[if_pos rfl]at he p ⊢;by_cases h3:(zA9 lim L { h with e:=e } 1).2.2.2≠0
       · rw[if_pos h3]at he;exact absurd he h3
       rw[if_neg h3]at he p ⊢;obtain⟨y,e1,b,bp⟩:=zTu f a v1 hr (Classical.not_not.1 h3) (p.back (zBr e _ _ _ _));rw[e1]at he p ⊢;obtain⟨c1,c2,c3⟩:=zD2 f lim e l _ { h with e:=e,y:=y } _ _ _ b hr (fun t ht=>hl t (List.mem_cons_of_mem _ ht)) v2 (fun x hx=>by
        rcases List.mem_append.1 hx with hx|hx
        · exact hm x hx
        · rw[List.mem_singleton]at hx;subst hx;exact bp) he p
       exact⟨⟨c1.hs,⟨c1.hold.role,c1.hold.s,c1.hold.p,c1.hold.at_⟩⟩,c2,.inr (by rcases c3 with c3|c3<;>exact c3)⟩
     · obtain rfl:t=2:=by omega
       rw[if_neg h1]at he p ⊢;by_cases h3:(zA9 lim L h 2).2.2.2≠0
       · rw[if_pos h3]at he;exact absurd he h3
       rw[if_neg h3]at he p ⊢;obtain⟨y,e1,b,bp⟩:=zTt f a (Classical.not_not.1 h3) (p.back (zBr e _ _ _ _));rw[e1]at he p ⊢;obtain⟨c1,c2,c3⟩:=zD2 f lim e l _ { h with y:=y } _ _ _ b hr (fun t ht=>hl t (List.mem_cons_of_mem _ ht)) v2 (fun x hx=>by
        rcases List.mem_append.1 hx with hx|hx
        · exact hm x hx
        · rw[List.mem_singleton]at hx;subst hx;exact bp) he p
       exact⟨⟨c1.hs,⟨c1.hold.role,c1.hold.s,c1.hold.p,c1.hold.at_⟩⟩,c2,c3⟩
theorem zE6 (f:Fin Lf B E)(lim:Nat)(msg:List Int):∀(l:List Int) (L:List Nd) (h:Sh) (n:Nat) (vs:VS) (tk:Trk),HS Lf B E vs tk h→(h.role=0∨h.role=1)→(∀t∈l,1≤t∧t≤7)→¬ 0<(zA2 vs (1 - h.role) l).2 →
 (zAY lim msg L h n l).2.2.2=0→Pf Lf (zAY lim msg L h n l).1 →
 Toks Lf B E (zA2 vs (1 - h.role) l).1 (mixT tk l) h (zAY lim msg L h n l).2.1∧(zAY lim msg L h n l).2.1.e=h.e
 | [],L,h,n,vs,tk,a,hr,hl,hv,he,p=>⟨⟨a,Hold.refl _⟩,rfl⟩
 | t::l,L,h,n,vs,tk,a,hr,hl,hv,he,p=>by
   obtain⟨v1,v2,v3⟩:=zHC hv;have ht:=hl t (List.mem_cons_self ..);rw[v3,zL4];unfold zAY at he p ⊢;by_cases h2:2<t
   · rw[if_pos h2]at he p ⊢
     by_cases h3:(zAR lim L h t).2.2≠0
     · rw[if_pos h3]at he;exact absurd he h3
     rw[if_neg h3]at he p ⊢;obtain⟨y,nx,e1,b⟩:=zUW f hr a ⟨h2,ht.2⟩ v1 (Classical.not_not.1 h3) (p.back (zCV msg _ _ _ _));rw[e1]at he p ⊢;obtain⟨c1,c3⟩:=zE6 f lim msg l _ { h with y:=y,next:=nx } n _ _ b hr (fun t ht=>hl t (List.mem_cons_of_mem _ ht)) v2 he p;exact⟨⟨c1.hs,⟨c1.hold.role,c1.hold.s,c1.hold.p,c1.hold.at_⟩⟩,c3⟩
   · rw[if_neg h2]at he p ⊢
     by_cases h3:(zAe lim L h t (msg.getD n 0)).2.2≠0
     · rw[if_pos h3]at he;exact absurd he h3
     rw[if_neg h3]at he p ⊢;by_cases h1:t=1
     · subst h1
       obtain⟨y,e1,b⟩:=zTw f a v1 hr (Classical.not_not.1 h3) (p.back (zCV msg _ _ _ _));rw[e1]at he p ⊢;obtain⟨c1,c3⟩:=zE6 f lim msg l _ { h with re:=msg.getD n 0,y:=y } _ _ _ b hr (fun t ht=>hl t (List.mem_cons_of_mem _ ht)) v2 he p;exact⟨⟨c1.hs,⟨c1.hold.role,c1.hold.s,c1.hold.p,c1.hold.at_⟩⟩,c3⟩
     · obtain⟨y,rs,e1,b⟩:=zTv a (by omega) v1 (Classical.not_not.1 h3)
       rw[e1]at he p ⊢;obtain⟨c1,c3⟩:=zE6 f lim msg l _ { h with rs:=rs,y:=y } _ _ _ b hr (fun t ht=>hl t (List.mem_cons_of_mem _ ht)) v2 he p;exact⟨⟨c1.hs,⟨c1.hold.role,c1.hold.s,c1.hold.p,c1.hold.at_⟩⟩,c3⟩
end
def zO3 (Lf:List Nd)(B:Int→Prop)(E:List Evt)(n:Nt):Prop :=
 (2≤n.conf→Kn Lf B E n.key→SecP Lf B E n.own n.rs)∧(3≤n.conf→Kn Lf B E n.key→SecP Lf B E n.own n.re)
structure SInv (Lf:List Nd)(B:Int→Prop)(E:List Evt)(s:Ss):Prop where
 ok:ShOk s.h
 hs:∃vs last k,(zDc s.h.p vs last k (s.h.p.msgs.drop s.h.at_)).2.2=0∧HS Lf B E vs s.track s.h
 way:zBz s=true→s.way.s.has=true∧(Kn Lf B E s.way.s.key→Kn Lf B E s.h.y.ck)
section
variable {Lf L:List Nd}{B:Int→Prop}{E:List Evt}{lim:Nat}{s x:Ss}{h:Sh}{e pl wa wc:Int}{d:Dv}{msg:List Int}
theorem zSe {tk:Trk}{f:Int}(h:2≤zFt tk f):zFm f tk=true:=by
 unfold zFt at h;unfold zFm;(repeat' split at h)<;>simp_all
theorem zN4 {tk:Trk}{f:Int}(h:3≤zFt tk f):tk.m3=true:=by
 unfold zFt at h;(repeat' split at h)<;>simp_all
theorem zEE (tk:Trk)(f r:Int):(zKV tk f).m3=tk.m3∧zFm r (zKV tk f)=zFm r tk:=by
 unfold zKV zFm;split<;>exact⟨rfl,rfl⟩
theorem zJm {vs:VS}{last k:Int}(ho:ShOk h)(hlt:h.at_<h.p.msgs.length)(hv:(zDc h.p vs last k (h.p.msgs.drop h.at_)).2.2=0) :
 ∃m,h.p.msgs[h.at_]? = some m∧zAq h=m.t∧(∀t∈m.t,1≤t∧t≤7)∧zDf h=decide (m.who=h.role)∧(m.who=0∨m.who=1)∧¬ 0<(zA2 vs m.who m.t).2∧(zDc h.p (zA2 vs m.who m.t).1 m.who (k+1) (h.p.msgs.drop (h.at_+1))).2.2=0:=by
 obtain⟨m,hm,h1,-,h2,-,h3,-⟩:=ho.msg hlt;have hm':=(List.getElem?_eq_some_iff.1 hm).2;rw[List.drop_eq_getElem_cons hlt,hm']at hv;unfold zDc at hv;split at hv
 · simp at hv
 · split at hv
   · simp at hv
   · rename_i q1 q2
     have hw:m.who=0∨m.who=1:=by
      obtain⟨p1,p2,p3,p4,p5,p6,p7⟩:=zAs ho.right;exact(p5 m (by rw[← hm'];exact List.getElem_mem hlt)).1
     unfold msgV at q2 hv;by_cases q3:0<(zA2 vs m.who m.t).2
     · rw[if_pos q3]at q2;exact absurd q3 q2
     · rw[if_neg q3]at hv
       refine⟨m,hm,h1,h2,h3,hw,q3,?_⟩;split at hv<;>exact hv
theorem zKP (f:Fin Lf B E){vs:VS}{tk:Trk}{last k:Int}(ho:ShOk h)(hv:(zDc h.p vs last k (h.p.msgs.drop h.at_)).2.2=0)(a:HS Lf B E vs tk h)(he:(zAK lim L h e pl).2.2.2=0)(p:Pf Lf (zAK lim L h e pl).1) :
 ∃h' vs' last' k',(zAK lim L h e pl).2.1=h'∧HS Lf B E vs' (mixT tk (zAq h)) h'∧(zDc h'.p vs' last' k' (h'.p.msgs.drop h'.at_)).2.2=0∧h'.role=h.role∧h'.s=h.s∧(h'.e=h.e∨h'.e=e)∧h'.p=h.p∧h'.at_=h.at_+1 ∧
  ∀x∈(zAK lim L h e pl).2.2.1,zQf Lf x∨(h'.y.c.has=true∧∃n ad,nd Lf x=⟨7,n,h'.y.c.key,ad,pl⟩)∨(h'.y.c.has=false∧x=pl):=by
 unfold zAK at he p ⊢;by_cases h1:zDf h=false
 · rw[if_pos h1]at he;simp at he
 rw[if_neg h1]at he p ⊢;by_cases h2:(has L e && has L pl)=false
 · rw[if_pos h2]at he;simp at he
 rw[if_neg h2]at he p ⊢;by_cases h3:(zAJ lim e L h [] (zAq h)).2.2.2≠0
 · rw[if_pos h3]at he;exact absurd he h3
 rw[if_neg h3]at he p ⊢;simp only at he p ⊢;have hm:zDf h=true:=by simpa using h1
 obtain⟨m,q1,q2,q3,q4,q5,q6,q7⟩:=zJm ho (zNY hm) hv;rw[hm]at q4;have hw:m.who=h.role:=of_decide_eq_true q4.symm;rw[hw]at q6 q7;by_cases h4:(zAU lim (zAJ lim e L h [] (zAq h)).1 (zAJ lim e L h [] (zAq h)).2.1 pl).2.2.2≠0
 · rw[if_pos h4]at he;exact absurd he h4
 rw[if_neg h4]at p ⊢;simp only at p ⊢;rw[q2]at h3 h4 p ⊢;obtain⟨w1,w2,w3⟩:=zD2 f lim e m.t L h [] vs tk a ho.role q3 q6 (by simp) (Classical.not_not.1 h3) (p.back zEO);obtain⟨y,e1,u,c1,c2⟩:=zFN (Classical.not_not.1 h4) p;rw[e1];refine⟨_,(zA2 vs h.role m.t).1,m.who,k+1,rfl,?_,?_,w1.hold.role,w1.hold.s,w3,w1.hold.p,congrArg (· + 1) w1.hold.at_,?_⟩
 · have:=w1.hs.up (nx:=(zAJ lim e L h [] m.t).2.1.next) (u.up (Lf:=Lf) (B:=B) (E:=E)) (fun _ _ h=>h)
   exact⟨this.key,this.ee,this.es⟩
 · simp only
   rw[w1.hold.p,w1.hold.at_,hw];exact q7
 · intro x hx
   rcases List.mem_append.1 hx with hx|hx
   · exact .inl (w2 x hx)
   · rw[List.mem_singleton]at hx
     subst hx;right
     simp only;rw[u.has,u.key];cases hh:(zAJ lim e L h [] m.t).2.1.y.c.has with
     | true=>obtain⟨n,hn⟩:=c2 hh;exact .inl ⟨rfl,n,_,hn⟩
     | false=>exact .inr ⟨rfl,c1 hh⟩
theorem zLc (f:Fin Lf B E){vs:VS}{tk:Trk}{last k:Int}(ho:ShOk h)(hv:(zDc h.p vs last k (h.p.msgs.drop h.at_)).2.2=0)(a:HS Lf B E vs tk h)(he:(zAN lim L h msg).2.2.2=0)(p:Pf Lf (zAN lim L h msg).1) :
 ∃h' vs' last' k',(zAN lim L h msg).2.1=h'∧HS Lf B E vs' (mixT tk (zAq h)) h'∧(zDc h'.p vs' last' k' (h'.p.msgs.drop h'.at_)).2.2=0∧h'.role=h.role∧h'.s=h.s∧h'.e=h.e∧h'.p=h.p∧h'.at_=h.at_+1:=by
 unfold zAN at he p ⊢;by_cases h1:h.p.msgs.length≤h.at_∨zDf h=true
 · rw[if_pos h1]at he;simp at he
 rw[if_neg h1]at he p ⊢;by_cases h2:msg.all (has L)=false
 · rw[if_pos h2]at he;simp at he
 rw[if_neg h2]at he p ⊢;by_cases h5:(msg.length:Int)≠zBL (zAq h)
 · rw[if_pos h5]at he;simp at he
 rw[if_neg h5]at he p ⊢;by_cases h3:(zAY lim msg L h 0 (zAq h)).2.2.2≠0
 · rw[if_pos h3]at he;exact absurd he h3
 rw[if_neg h3]at he p ⊢;simp only at he p ⊢;have hlt:h.at_<h.p.msgs.length:=by
  refine Nat.lt_of_not_le fun h=>h1 (.inl h)
 have hm:zDf h=false:=by
  cases hm:zDf h with
  | false=>rfl
  | true=>exact absurd (.inr hm) h1
 obtain⟨m,q1,q2,q3,q4,q5,q6,q7⟩:=zJm ho hlt hv;rw[hm]at q4;have hw0:m.who≠h.role:=of_decide_eq_false q4.symm;have hw:m.who=1 - h.role:=by have:=ho.role;omega
 rw[hw]at q6 q7;by_cases h4:(zAO lim (zAY lim msg L h 0 (zAq h)).1 (zAY lim msg L h 0 (zAq h)).2.1 (msg.getD (zAY lim msg L h 0 (zAq h)).2.2.1 0)).2.2.2≠0
 · rw[if_pos h4]at he;exact absurd he h4
 rw[if_neg h4]at p ⊢;simp only at p ⊢;rw[q2]at h3 h4 p ⊢;obtain⟨w1,w3⟩:=zE6 f lim msg m.t L h 0 vs tk a ho.role q3 q6 (Classical.not_not.1 h3) (p.back zFi);obtain⟨y,e1,u⟩:=zFP (Classical.not_not.1 h4);rw[e1];refine⟨_,(zA2 vs (1 - h.role) m.t).1,1 - h.role,k+1,rfl,?_,?_,w1.hold.role,w1.hold.s,w3,w1.hold.p,congrArg (· + 1) w1.hold.at_⟩
 · have:=w1.hs.up (nx:=(zAY lim msg L h 0 m.t).2.1.next) (u.up (Lf:=Lf) (B:=B) (E:=E)) (fun _ _ h=>h)
   exact⟨this.key,this.ee,this.es⟩
 · simp only
   rw[w1.hold.p,w1.hold.at_];exact q7
theorem zJ4 (f:Fin Lf B E)(hd:zBz s=false)(he:(zAI lim L s x).2.2=0)(p:Pf Lf (zAI lim L s x).1):(zAI lim L s x).2.1.h=x.h∧(zBz x=true→(zAI lim L s x).2.1.way.s.has=true∧(Kn Lf B E (zAI lim L s x).2.1.way.s.key→Kn Lf B E x.h.y.ck)):=by
 unfold zAI at he p ⊢;by_cases h1:(zBz s || !zBz x)=true
 · rw[if_pos h1]
   refine⟨rfl,fun h=>?_⟩;rw[hd,h]at h1;simp at h1
 rw[if_neg h1]at he p ⊢;refine⟨rfl,fun _=>?_⟩;simp only at he p ⊢;unfold zGl at he p ⊢;by_cases h2:(zBM lim L x.h).2.2.2=0
 · rw[if_pos h2]at p ⊢
   simp only at p ⊢;unfold zBM at h2 p ⊢;by_cases h3:x.h.at_<x.h.p.msgs.length
   · rw[if_pos h3]at h2;simp at h2
   rw[if_neg h3]at h2 p ⊢;by_cases h4:x.h.role=1
   · rw[if_pos h4]at h2 p ⊢
     exact(zH7 f h2 p).2
   · rw[if_neg h4]at h2 p ⊢
     exact(zH7 f h2 p).1
 · rw[if_neg h2]at he;exact absurd he h2
end
section
variable {Lf L:List Nd}{B:Int→Prop}{E:List Evt}{lim:Nat}{s x:Ss}{h:Sh}{e pl wa wc:Int}{d:Dv}{msg:List Int}
def zWd (Lf:List Nd)(n:Nt)(x:Int):Prop:=zQf Lf x∨(∃i ad,nd Lf x=⟨7,i,n.key,ad,n.payload⟩)∨(n.key=0∧x=n.payload)
theorem HS.note {vs:VS}{tk:Trk}{n:Nt}(a:HS Lf B E vs tk h)(hk:h.y.c.has=true→Kn Lf B E n.key→Kn Lf B E h.y.ck)(hc:n.conf=zFt tk h.role)(ho:n.own=h.e)(hrs:n.rs=h.rs)(hre:n.re=h.re):zO3 Lf B E n:=by
 refine⟨fun h2 k=>?_,fun h3 k=>?_⟩
 · rw[hc]at h2
   obtain⟨-,-,b3,b4⟩:=a.es (zSe h2);rw[ho,hrs];exact b4 (hk b3 k)
 · rw[hc]at h3
   obtain⟨-,-,b3,b4⟩:=a.ee (zN4 h3);rw[ho,hre];exact b4 (hk b3 k)
structure SWr (Lf:List Nd)(B:Int→Prop)(E:List Evt)(s s':Ss)(e pl:Int)(m:List Int):Prop where
 inv:SInv Lf B E s'
 note:zO3 Lf B E s'.note
 sent:s'.note.sent=true
 pay:s'.note.payload=pl
 own:s'.note.own=s'.h.e
 e:s'.h.e=s.h.e∨s'.h.e=e
 st:s'.h.s=s.h.s
 parts:∀x∈m,zWd Lf s'.note x
theorem zQ7 (f:Fin Lf B E)(a:SInv Lf B E s)(he:(zAE lim L s e pl wa wc).2.2.2=0)(p:Pf Lf (zAE lim L s e pl wa wc).1):SWr Lf B E s (zAE lim L s e pl wa wc).2.1 e pl (zAE lim L s e pl wa wc).2.2.1:=by
 have hto:=(zDN a.ok he).ok;unfold zAE at he p hto ⊢;by_cases h1:zD5 s true wa wc≠0
 · rw[if_pos h1]at he;exact absurd he h1
 rw[if_neg h1]at he p hto ⊢;unfold zBR at he p hto ⊢;by_cases h2:(zAL lim L s e pl).2.2.2≠0
 · rw[if_pos h2]at he;exact absurd he h2
 rw[if_neg h2]at he p hto ⊢;by_cases h3:(zAI lim (zAL lim L s e pl).1 s (zAL lim L s e pl).2.1).2.2≠0
 · rw[if_pos h3]at he;exact absurd he h3
 rw[if_neg h3]at p hto ⊢;have h2:=Classical.not_not.1 h2;have h3:=Classical.not_not.1 h3;obtain⟨vs,last,k,hv,hs⟩:=a.hs;have p1:Pf Lf (zAL lim L s e pl).1:=p.back zEP;cases hd:zBz s with
 | true =>
   have hw:=a.way hd;have e3:zAI lim (zAL lim L s e pl).1 s (zAL lim L s e pl).2.1=((zAL lim L s e pl).1,(zAL lim L s e pl).2.1,0):=by unfold zAI;rw[hd];simp
   rw[e3]at hto ⊢;unfold zAL at h2 p1 hto ⊢;rw[if_pos hd]at h2 p1 hto ⊢;simp only at h2 p1 hto ⊢;unfold zB8 at h2 p1 hto ⊢;by_cases h4:(zBE lim L s.way.s 0 pl).2.2.2=0
   · rw[if_pos h4]at p1 hto ⊢
     simp only at p1 hto ⊢;obtain⟨c1,c2,c3,c4⟩:=zJ6 (Lf:=Lf) h4;obtain⟨n,hn⟩:=c4 hw.1 p1;have hmx:zA1 s=s.track:=by unfold zA1;rw[if_pos hd]
     have hfr:zBs s true=s.h.role:=rfl;obtain⟨t1,t2⟩:=zEE (zA1 s) (zBs s true) s.h.role;have hkey:∀y:Ss,keyS s y true=s.way.s.key:=fun y=>by unfold keyS;rw[if_pos hd,if_pos rfl]
     refine⟨⟨hto,⟨vs,last,k,hv,?_⟩,?_⟩,?_,rfl,rfl,rfl,.inl rfl,rfl,?_⟩
     · rw[hmx]at t1 t2
       exact(hs.tk (tk':=zKV (zA1 s) (zBs s true)) (by rw[hmx];exact t1) (by rw[hmx];exact t2))
     · intro _
       exact⟨c1.trans hw.1,fun hk=>hw.2 (by rw[← c2];exact hk)⟩
     · refine hs.note (n:=zPd s _ true _ pl) (fun _ hk=>hw.2 ?_) ?_ rfl rfl rfl
       · rw[show(zPd s _ true _ pl).key=keyS s _ true from rfl,hkey]at hk;exact hk
       · show zFt (zA1 s) (zBs s true)=_;rw[hmx,hfr]
     · intro x hx
       rw[List.mem_singleton]at hx;subst hx;refine .inr (.inl ⟨n,0,?_⟩);rw[hn];show _=(⟨7,n,keyS s _ true,0,pl⟩:Nd);rw[hkey]
   · rw[if_neg h4]at h2;exact absurd h2 h4
 | false =>
   obtain⟨d1,d2⟩:=zJ4 f hd h3 p;have e1:zAL lim L s e pl=((zAK lim L s.h e pl).1,{ s with h:=(zAK lim L s.h e pl).2.1 },(zAK lim L s.h e pl).2.2.1,(zAK lim L s.h e pl).2.2.2):=by unfold zAL;rw[if_neg (by rw[hd];simp)]
   rw[e1]at h2 p1 hto d1 d2 ⊢;simp only at h2 p1 hto d1 d2 ⊢;obtain⟨h',vs',last',k',g1,g2,g3,g4,g5,g6,g7,g8,g9⟩:=zKP f a.ok hv hs h2 p1;rw[g1]at hto d1 d2 ⊢;generalize zAI lim (zAK lim L s.h e pl).1 s { s with h:=h' } = dq at hto d1 d2 ⊢;have hmx:zA1 s=mixT s.track (zAq s.h):=by unfold zA1;rw[if_neg (by rw[hd];simp)]
   have hkey:keyS s dq.2.1 true=if h'.y.c.has then h'.y.c.key else 0:=by unfold keyS;rw[if_neg (by rw[hd];simp),d1]
   obtain⟨t1,t2⟩:=zEE (zA1 s) (zBs s true) h'.role;refine⟨⟨hto,⟨vs',last',k',?_,?_⟩,?_⟩,?_,rfl,rfl,rfl,?_,?_,?_⟩
   · show(zDc dq.2.1.h.p vs' last' k' (dq.2.1.h.p.msgs.drop dq.2.1.h.at_)).2.2=0
     rw[d1];exact g3
   · show HS Lf B E vs' (zKV (zA1 s) (zBs s true)) dq.2.1.h
     rw[d1];rw[← hmx]at g2;exact g2.tk t1 t2
   · intro hdd
     show dq.2.1.way.s.has=true∧(Kn Lf B E dq.2.1.way.s.key→Kn Lf B E dq.2.1.h.y.ck);rw[d1];refine d2 ?_;have:zBz dq.2.1=true:=hdd;unfold zBz at this ⊢;rw[d1]at this;exact this
   · rw[← hmx]at g2
     refine g2.note (n:=zPd s dq.2.1 true _ pl) (fun hh hk=>g2.key hh ?_) ?_ (by show dq.2.1.h.e=_;rw[d1]) (by show dq.2.1.h.rs=_;rw[d1]) (by show dq.2.1.h.re=_;rw[d1])
     · rw[show(zPd s dq.2.1 true _ pl).key=keyS s dq.2.1 true from rfl,hkey,if_pos hh]at hk;exact hk
     · show zFt (zA1 s) (zBs s true)=_
       rw[g4];rfl
   · show dq.2.1.h.e=_∨dq.2.1.h.e=_
     rw[d1];exact g6
   · show dq.2.1.h.s=_
     rw[d1];exact g5
   · intro x hx
     rcases g9 x hx with q|⟨q1,n,ad,q2⟩|⟨q1,q2⟩
     · exact .inl q
     · refine .inr (.inl ⟨n,ad,?_⟩)
       rw[q2];show _=(⟨7,n,keyS s dq.2.1 true,ad,pl⟩:Nd);rw[hkey,if_pos q1]
     · refine .inr (.inr ⟨?_,q2⟩)
       show keyS s dq.2.1 true=0;rw[hkey,if_neg (by rw[q1];simp)]
structure SRd (Lf:List Nd)(B:Int→Prop)(E:List Evt)(s s':Ss):Prop where
 inv:SInv Lf B E s'
 e:s'.h.e=s.h.e
 st:s'.h.s=s.h.s
 note:s'.note.own=s.note.own∨s'.note.own=s.h.e
theorem zOP (f:Fin Lf B E)(a:SInv Lf B E s)(p:Pf Lf (zAP lim L s d msg wa wc).1):SRd Lf B E s (zAP lim L s d msg wa wc).2.1∧((zAP lim L s d msg wa wc).2.2.2=0→(zAP lim L s d msg wa wc).2.1.note.sent=false):=by
 have hto:=(zFZ (lim:=lim) (L:=L) (d:=d) (msg:=msg) (wa:=wa) (wc:=wc) a.ok).ok;have same:SRd Lf B E s s:=⟨a,rfl,rfl,.inl rfl⟩
 unfold zAP at p hto ⊢;by_cases h1:zD5 s false wa wc≠0
 · rw[if_pos h1];exact⟨same,fun h=>absurd h h1⟩
 rw[if_neg h1]at p hto ⊢;have sdead:∀b:Bool,SRd Lf B E s { s with dead:=b }:=fun b=>⟨⟨a.ok,a.hs,a.way⟩,rfl,rfl,.inl rfl⟩
 obtain⟨vs,last,k,hv,hs⟩:=a.hs;unfold zEB at p hto ⊢;by_cases h2:(zAo lim L s d msg).2.2.2.2≠0
 · rw[if_pos h2]
   refine⟨?_,fun h=>absurd h h2⟩;unfold zAo;(repeat' split)<;>first|exact same|exact sdead _
 rw[if_neg h2]at p hto ⊢;have h2:=Classical.not_not.1 h2;refine⟨?_,fun _=>rfl⟩;cases hd:zBz s with
 | true =>
   have hw:=a.way hd;unfold zAo at h2 hto ⊢;rw[if_neg (by rw[hd];simp)]at h2 hto ⊢;by_cases h3:msg.length≠1
   · rw[if_pos h3]at h2;simp at h2
   rw[if_neg h3]at h2 hto ⊢;simp only at h2 hto ⊢;have hmx:zA1 s=s.track:=by unfold zA1;rw[if_pos hd]
   obtain⟨t1,t2⟩:=zEE (zA1 s) (zBs s false) s.h.role;have hws:(zCk L s.way (msg.getD 0 0)).1.s=s.way.s:=by
    unfold zCk at h2 ⊢;split
    · rfl
    · rename_i h4;rw[if_neg h4]at h2;exact absurd h2 h4
   refine⟨⟨hto,⟨vs,last,k,hv,hs.tk (tk':=zKV (zA1 s) (zBs s false)) (by rw[t1,hmx]) (by rw[t2,hmx])⟩,?_⟩,rfl,rfl,.inr rfl⟩;intro _;show(zCk L s.way (msg.getD 0 0)).1.s.has=true∧(Kn Lf B E (zCk L s.way (msg.getD 0 0)).1.s.key→Kn Lf B E s.h.y.ck);rw[hws];exact hw
 | false =>
   unfold zAo at h2 p hto ⊢;rw[if_pos hd]at h2 p hto ⊢;simp only at h2 p hto ⊢;unfold zAr at h2 p hto ⊢;by_cases h3:(zAc lim L s d msg).2.2.2≠0
   · rw[if_pos h3]at h2;exact absurd h2 h3
   rw[if_neg h3]at h2 p hto ⊢;simp only at h2 p hto ⊢;have h3:=Classical.not_not.1 h3;obtain⟨d1,d2⟩:=zJ4 f hd h2 p;have p1:Pf Lf (zAc lim L s d msg).1:=p.back zEP;generalize hdq:zAI lim (zAc lim L s d msg).1 s (zAc lim L s d msg).2.1=dq at h2 hto d1 d2 ⊢;have hx:(zAN lim L s.h msg).2.2.2=0∧(zAc lim L s d msg).1=(zAN lim L s.h msg).1∧(zAc lim L s d msg).2.1.h=(zAN lim L s.h msg).2.1:=by
    unfold zAc at h3 ⊢;by_cases h4:(zAN lim L s.h msg).2.2.2≠0
    · rw[if_pos h4]at h3;exact absurd h3 h4
    · rw[if_neg h4]
      refine⟨Classical.not_not.1 h4,?_,?_⟩<;>split<;>rfl
   obtain⟨x1,x2,x3⟩:=hx;rw[x2]at p1;obtain⟨h',vs',last',k',g1,g2,g3,g4,g5,g6,g7,g8⟩:=zLc f a.ok hv hs x1 p1;rw[x3,g1]at d1;have hmx:zA1 s=mixT s.track (zAq s.h):=by unfold zA1;rw[if_neg (by rw[hd];simp)]
   obtain⟨t1,t2⟩:=zEE (zA1 s) (zBs s false) h'.role;refine⟨⟨hto,⟨vs',last',k',?_,?_⟩,?_⟩,?_,?_,.inr ?_⟩
   · show(zDc dq.2.1.h.p vs' last' k' (dq.2.1.h.p.msgs.drop dq.2.1.h.at_)).2.2=0
     rw[d1];exact g3
   · have hms:(zA1 { s with dead:=zSY dq.2.2 })=zA1 s:=rfl
     show HS Lf B E vs' (zKV (zA1 s) (zBs s false)) dq.2.1.h;rw[d1];rw[← hmx]at g2;exact g2.tk t1 t2
   · intro hdd
     show dq.2.1.way.s.has=true∧(Kn Lf B E dq.2.1.way.s.key→Kn Lf B E dq.2.1.h.y.ck);rw[d1];have:=d2 (by
      have:zBz dq.2.1=true:=hdd;unfold zBz at this ⊢;rw[d1]at this;rw[x3,g1];exact this)
     rw[x3,g1]at this;exact this
   · show dq.2.1.h.e=_
     rw[d1];exact g6
   · show dq.2.1.h.s=_
     rw[d1];exact g5
   · show dq.2.1.h.e=_
     rw[d1];exact g6
theorem zQ8 (f:Fin Lf B E){send:Bool}(a:SInv Lf B E s)(p:Pf Lf (zAb lim L s send).1):SRd Lf B E s (zAb lim L s send).2.1:=by
 have same:SRd Lf B E s s:=⟨a,rfl,rfl,.inl rfl⟩
 unfold zAb at p ⊢;by_cases h1:s.dead=true
 · rw[if_pos h1];exact same
 rw[if_neg h1]at p ⊢;by_cases h2:zBz s=false
 · rw[if_pos h2];exact same
 rw[if_neg h2]at p ⊢;by_cases h3:(zBV lim L s.way send).2.2=0
 · rw[if_pos h3]at p ⊢
   refine⟨⟨a.ok,a.hs,?_⟩,rfl,rfl,.inl rfl⟩;intro hd;have hw:=a.way hd;simp only at p ⊢;unfold zBV at h3 p ⊢;by_cases h4:(zBm lim L (if send then s.way.s else s.way.r)).2.2=0
   · rw[if_pos h4]at p ⊢
     cases send with
     | true =>
       simp only[if_true]at h4 p ⊢;obtain⟨c1,c2,c3⟩:=zMV f h4 p;exact⟨c1.trans hw.1,fun h=>hw.2 (c3 h)⟩
     | false=>exact hw
   · rw[if_neg h4]at h3;exact absurd h3 h4
 · rw[if_neg h3];exact same
end
end Go.Proofs.YtcikdogkkgefcaaGreatDoor
