/- part 25 of the proof -/
import Derived.Test.YthomdlajobnmnaaGreatDoorChecked
import Derived.WalkKit
import Derived.LaidEql
import Derived.Stop.Asserts
import Derived.RowKitTokens
import Derived.Tactics
import Derived.Maps.AppendAt
import Derived.Tactics2
import Derived.Deep.LoopGhost
import Derived.Deep.QuietTactic
import Derived.BigQuiet
import Derived.Deep.CutRange
import Derived.StillTailTactics
import Derived.Deep.RegionHeld3
import Derived.Test.YthomdlajobnmnaaGreatDoorX12
import Derived.Test.YthomdlajobnmnaaGreatDoorX13
import Derived.Test.YthomdlajobnmnaaGreatDoorX14
import Derived.Test.YthomdlajobnmnaaGreatDoorX18
import Derived.Test.YthomdlajobnmnaaGreatDoorX24
namespace Go.Proofs.YthomdlajobnmnaaGreatDoor
open Go.RowKit Go.Extern.Stop Go.Stop Go.Extern
theorem abG (v:Value) (w:World):(Extern.ReflectliteType.typeOf #[.iface 224 v]).run Tryz.prog w=.ok (.iface 188 (.agg #[.pointer (some ⟨8,224,none⟩)])) w:=by kernel_rfl
def ai7:Array Value->Sem Value:=Extern.ReflectliteType.method λt=>do Extern.Rtype.noPackHeld "Comparable" t;pure (.bool (<-typeInfo t).comparable)
theorem Q6 (w:World):(ai7 #[.agg #[.pointer (some ⟨8,224,none⟩)]]).run Tryz.prog w=.ok (.bool true) w:=by kernel_rfl
theorem EE (v:Value) (w:World):(Go.method 361 188 v "Comparable").run Tryz.prog w=.ok (174,v) w:=by kernel_rfl
theorem ai8:(Tryz.prog.info? 224).map (·.comparable)=some true:=by kernel_rfl
theorem ai9:(Tryz.prog.info? 249).map (·.size)=some 1:=by kernel_rfl
theorem alo (v:Value) (a:TypeId) (w:World):(Instr.typeAssert (.iface 161 v) a 190 true).run Tryz.prog w=.ok (.tuple #[.nilIface,.bool false]) w:=run_typeAssert_lacksB Tryz.underlying190 (by kernel_rfl) (by kernel_rfl) v a w
theorem V9 (v:Value) (a:TypeId) (w:World):(Instr.typeAssert (.iface 161 v) a 193 true).run Tryz.prog w=.ok (.tuple #[.iface 161 v,.bool true]) w:=run_typeAssert_hasB Tryz.underlying193 (by kernel_rfl) v a w
theorem Q7 (v:Value) (w:World):(Go.method 361 161 v "Unwrap").run Tryz.prog w=.ok (170,v) w:=by kernel_rfl
theorem Q8 (a:Addr) (b:Addr) (w:World) (q:w.cell? ⟨a.block,a.off+1,none⟩=some (.iface 224 (.pointer (some b)))) :
  Calls Tryz.prog 31 #[.iface 161 (.pointer (some a)),.iface 224 (.pointer (some b))] w λe w'=>e=.returned (.bool true)/\w'=w:=by
 obtain ⟨i,h,c⟩:=Option.map_eq_some_iff.1 ai8
 obtain ⟨j,k,d⟩:=Option.map_eq_some_iff.1 ai9
 have r:=@run_callFunc_extern Tryz.prog 60 _ Extern.ReflectliteType.typeOf Tryz.func60 (by kernel_rfl) (by kernel_rfl) (by kernel_rfl) (by kernel_rfl)
 have f:=@run_callFunc_extern Tryz.prog 174 _ ai7 Tryz.func174 (by kernel_rfl) (by kernel_rfl) (by kernel_rfl) (by kernel_rfl)
 have p:=abG
 have cT:=Q6
 have m:=EE
 have o:=alo
 have l:=V9
 have n:=Q7
 have heq:=run_eql_iface_ptr_same (P:=Tryz.prog) w b Tryz.underlying36 Tryz.underlying224 h c k
 have g:=run_eql_iface_types (P:=Tryz.prog) 161 224 (.pointer (some a)) (.pointer (some b)) Tryz.underlying36 (by decide) w
 go_enter Tryz.func31,Tryz.ntmps31
 go_wp2
 refine wp_loop_rounds 2 ?_
 rw [rounds_succ]
 go_wp2
 rw [rounds_succ]
 go_wp2
 go_ret
 exact ⟨rfl,rfl⟩
end Go.Proofs.YthomdlajobnmnaaGreatDoor
set_option linter.unusedSimpArgs false
set_option linter.unusedVariables false
namespace Go.Proofs.YthomdlajobnmnaaGreatDoor
open Go.RowKit Go.Rex
theorem afc:aK Tryz.prog isE gU gU:=by
 refine ZX ⟨_,Tryz.func31,by kernel_rfl,by kernel_rfl⟩ rfl (λb a w i _ _=>?_) λ_ _=>trivial
 obtain ⟨-,k,d,e⟩:=i.rd 0 _ rfl rfl rfl
 have c:=e 1 _ (d.ex 1 _ rfl rfl)
 have g:SA.den b a {ak:=0}=a 0:=by simp [SA.den,SA.off,IE.den,Addr.add_zero]
 have f:SA.den b a {ak:=1}=a 1:=by simp [SA.den,SA.off,IE.den,Addr.add_zero]
 have h:w.cell? ⟨(a 0).block,(a 0).off+1,none⟩=some (.iface 224 (.pointer (some (a 1)))):=by
  have c:w.cell? ((a 0).add 1)=some (.iface 224 (.pointer (some (SA.den b a {ak:=1})))):=c
  rw [f] at c
  exact c
 have j:=Q8 (a 0) (a 1) w h
 show Calls Tryz.prog 31 #[.iface 161 (.pointer (some (SA.den b a {ak:=0}))),.iface 224 (.pointer (some (SA.den b a {ak:=1})))] w _
 rw [g,f]
 exact j
def Rd (w:World) (v:Value) (l:List Int):Prop :=
 ∃A c,v=.slice A l.length c/\l.length<=c/\c<=9223372036854775807/\∀k,k<l.length->∃ad,A=some ad/\w.cell? (ad.add k)=some (.int .i64 (l.getD k 0))
def qG:List SB:=mO 36 Ct 0
structure Aa (w:World) (ν:Nat->Addr):Prop where
 hp:∃ρ,aD ρ ν qG w
 gl:iU ν (eG Ct 0)
def Ab (k:Nat):Nat:=if k<2 then k else k+4
theorem alp:(List.range oF.length).map (λj=>qG[Ab j]?)=oF.map λsb=>some (sb.aX id Ab):=by kernel_rfl
theorem afd:∀i j,i<oF.length->j<oF.length->Ab i=Ab j->i=j:=by
 intro i j _ _ h
 unfold Ab at h
 split at h <;> split at h <;> omega
theorem anU (ν:Nat->Addr) (h:iU ν (eG Ct 0)):iU (λk=>ν (Ab k)) (eG DN 0):=by
 have b:∀g k,assoc g (eG DN 0)=some k->assoc g (eG Ct 0)=some (Ab k):=λg k c=>by
  have a:=kE c
  have:∀x∈eG DN 0,assoc x.1 (eG Ct 0)=some (Ab x.2):=by decide
  exact this _ a
 exact ⟨λg k j c=>h.at_ g _ j (b g k c),λg l k m f d i e=>h.ne g l _ _ f d (b _ _ i) (b _ _ e)⟩
theorem Aa.sn {w:World} {ν:Nat->Addr} (h:Aa w ν):oz w λk=>ν (Ab k):=by
 obtain ⟨⟨a,c⟩,b⟩:=h
 exact ⟨⟨a.pull id,c.sub alp afd⟩,anU ν b⟩
theorem Aa.lt {w:World} {ν:Nat->Addr} (h:Aa w ν) {k:Nat} (e:k<14):(ν k).block<w.heap.size:=by
 obtain ⟨⟨g,i⟩,l⟩:=h
 have d:k<qG.length:=e
 have hd:∀sb∈qG,sb.dead g=false:=by
  have j:(qG.all λb=>!b.gone && (match b.nl with | .lit false=>true | _=>false))=true:=by kernel_rfl
  intro sb c
  have:=List.all_eq_true.1 j sb c
  simp only [Bool.and_eq_true,Bool.not_eq_true'] at this
  obtain ⟨a,b⟩:=this
  unfold SB.dead
  rw [a]
  split at b
  ·rename_i f
   rw [f]
   rfl
  ·cases b
 exact i.lt (List.getElem?_eq_getElem d) (hd _ (List.getElem_mem d))
theorem Aa.nw {w w':World} {ν:Nat->Addr} (h:Aa w ν) (b:Nw w w'):Aa w' ν:=by
 have d:=λk a=>h.lt (k:=k) a
 obtain ⟨⟨c,f⟩,e⟩:=h
 exact ⟨⟨c,f.wM b.size λk sb a _=>b.block _ (d k (List.getElem?_eq_some_iff.1 a).1) id⟩,e⟩
end Go.Proofs.YthomdlajobnmnaaGreatDoor
namespace Go.Proofs.YthomdlajobnmnaaGreatDoor.Sk
open Go.RowKit Go.Rex
section
variable {w w':World} {a:Addr} {j:Jb} {B B':Nat->Prop} {x:Rp} {k:Int}
theorem aja (h:lC w a j B) {c:Cm} (J:j.cl=some c) (n:JW k j) (N:Wb k x.word) (hk:k<=800000) (h0:0<=k) (M:(j.op.kind=6/\(9<=j.at'/\j.at'<=12)/\j.level<3)\/101<=j.at'\/(j.op.kind=6/\5<=j.at'/\j.at'<=8)\/(j.op.kind≠6/\0<j.at'/\j.at'<101)) :
  Calls Tryz.prog 56 #[.pointer (some a),iy x] w λG w'=>G=.returned (oG (j.next x).2)/\∃B',lC w' a (j.next x).1 B'/\(∀b,B' b->w.heap.size<=b\/B b)/\cK w B w':=by
 cases h with
 | a s m H h2 F h5=>rw [<-F] at J;cases J
 | c s m H E F hB =>
  subst H F
  have D:bY 54 2 s (s.cat 54 (xY x)) m m:=⟨λ_ h=>if_pos h,λ_ h=>if_pos h,λ_ h=>if_pos h,λ_ h=>if_pos h,λ_ h=>if_pos h,λ_ h=>if_pos h,λ_ _=>rfl⟩
  obtain ⟨q,t⟩:∃q,q=s.cat 54 (xY x):=⟨_,rfl⟩
  rw [<-t] at D
  have V:aD q m JL w:=E.ext D (by kernel_rfl) (by decide)
  have P:jC q=mD s 0 (some (cZ s 31)):=by rw [t];rfl
  have K:az q 54=x:=by rw [t];rfl
  rw [<-P] at n M
  have r:CW k (cZ q 31):=n.cl _ rfl
  have S:Wb k (aC q 54):=by rw [<-K] at N;exact N
  have tg:∀{u:Wd},Wb k u->-1000000000000<=u.tag/\u.tag<=1000000000000:=λ{u} W=>by
   have:=W.t
   omega
  have f:tO q:=by
   have c1:=tg r.cur
   have c2:=tg S
   have L:=tg r.s0
   have d1:=tg r.s1
   have d2:=tg r.s2
   have Q:=(QZ n.op)
   refine ⟨r.iG.1,r.iG.2,c1.1,c1.2,λi X=>?_,λi X=>?_,c2.1,c2.2,Q.1,Q.2,n.by'.1,n.by'.2,n.iG.1,n.iG.2⟩
   ·rcases (by omega:i=0\/i=1\/i=2) with rfl | rfl | rfl
    ·exact L.1
    ·exact d1.1
    ·exact d2.1
   ·rcases (by omega:i=0\/i=1\/i=2) with rfl | rfl | rfl
    ·exact L.2
    ·exact d1.2
    ·exact d2.2
  have o:=aeO.run q m w V ⟨λg k _ h=>(by cases h),λg g' k k' _ _ h=>(by cases h)⟩ ⟨(⟨f.l0,f.l1,f.t0,f.t1,f.s0,f.s1,f.x0,f.x1,f.k0,f.k1,f.b0,f.b1,f.v0,f.v1⟩:tO q.num),by
    rcases M with h | h | ⟨h,T⟩ | h
    · exact .inl h
    · exact .inr (.inl h)
    · have:=Ic n.op h
      exact .inr (.inr (.inl ⟨h,T,(show 0<q.iv 22 from Int.lt_of_lt_of_le (by decide:(0:Int)<1) this.2.1),this.2.2⟩))
    · exact .inr (.inr (.inr h))⟩
  have p:(aL.args.map (·.den q m)).toArray=#[.pointer (some (m 0)),iy x]:=by
   rw [t]
   rfl
  rw [p] at o
  refine Calls.mono o ?_
  rintro G w' ⟨d,I,e,rfl,U,l,C,y,z⟩
  have R:jC d=jC q:=by
   unfold jC mD cZ iq fe yM aC
   simp (disch:=decide) only [e.iv,e.bv,e.ic,e.bc]
  have Z:az d 54=az q 54:=by
   unfold az aC
   simp (disch:=decide) only [e.iv,e.bv]
  replace y:mD d 60 (some (cZ d 91))=((jC d).next (az d 54)).1:=y
  replace z:fe d 114=((jC d).next (az d 54)).2:=z
  rw [R,Z,P,K] at y z
  have sub:(List.range JL.length).map (λj=>aL.hp'[2 * j]?)=JL.map λsb=>some (sb.aX (·+60) (2 * ·)):=by kernel_rfl
  have O:∀x,jB q m JL x->B x:=λx h=>hB x ((o8 D (by kernel_rfl) (by decide)).1 (mg h))
  refine ⟨?_,_,.c (d.pull (·+60)) (λk=>I (2 * k)) ?_ (U.sub sub (λi j _ _ h=>by omega)) y λ_ h=>h,λb A=>((C.sub sub).ak abh A).imp id (O b),l.os,l.tape,l.output,l.size,λb A Y=>l.block b A λh=>Y (O b h)⟩
  ·rw [<-z]
   rfl
  ·show I 0=m 0
   exact e.bl 0 (by decide)
theorem abH (h:lC w a j B) (g:OkJ k j x) (l:k<=800000) (m:0<=k) :
  Calls Tryz.prog 56 #[.pointer (some a),iy x] w λi w'=>i=.returned (oG (j.next x).2)/\∃B',lC w' a (j.next x).1 B'/\(∀b,B' b->w.heap.size<=b\/B b)/\cK w B w':=by
 cases g.n with
 | a e f d=>exact aiz h e f d
 | b e d=>exact aiA h e d
 | c c e d=>exact aja h e g.w g.x l m d
def OkT (j:Jb) (x:Rp):Prop:=∃K,(0<=K/\K<=800000)/\OkJ K j x
theorem afe (h:lC w a j B) (f:OkT j x) :
  Calls Tryz.prog 56 #[.pointer (some a),iy x] w λd w'=>d=.returned (oG (j.next x).2)/\∃B',lC w' a (j.next x).1 B'/\(∀b,B' b->w.heap.size<=b\/B b)/\cK w B w':=by
 obtain ⟨K,c,e⟩:=f
 exact abH h e c.2 c.1
end
def snA:List SB:=mO 36 Tq 0
theorem anV:(List.range snA.length).map (λj=>oF[id j]?)=snA.map λsb=>some (sb.aX id id):=by kernel_rfl
theorem glA (ν:Nat->Addr) (h:iU ν (eG DN 0)):iU (λk=>ν (id k)) (eG Tq 0):=by
 have b:∀g k,assoc g (eG Tq 0)=some k->assoc g (eG DN 0)=some (id k):=λg k c=>by
  have a:=kE c
  have:∀x∈eG Tq 0,assoc x.1 (eG DN 0)=some (id x.2):=by decide
  exact this _ a
 exact ⟨λg k j c=>h.at_ g _ j (b g k c),λg l k m f d i e=>h.ne g l _ _ f d (b _ _ i) (b _ _ e)⟩
theorem ajc {w:World} {d:Nat->Addr} {o:Op} (s:oz w d) (h:¬o.bP) :
  Calls Tryz.prog 54 #[NW o] w λg w'=>∃a,g=.returned (.tuple #[.pointer none,.iface 161 (.pointer (some a))])/\Nw w w':=by
 obtain ⟨⟨q,e⟩,f⟩:=s
 have r:aD (NY o) (λk=>d (id k)) snA w:=aD.ext (nv:=0) (n:=2) ⟨λi h=>absurd h (Nat.not_lt_zero _),λi h=>absurd h (Nat.not_lt_zero _),λi h=>absurd h (Nat.not_lt_zero _),λi h=>absurd h (Nat.not_lt_zero _),λi h=>absurd h (Nat.not_lt_zero _),λi h=>absurd h (Nat.not_lt_zero _),λi h=>rfl⟩ (by kernel_rfl) (by decide) (e.sub anV λi j _ _ h=>h)
 have c:=abf.run (NY o) (λk=>d (id k)) w r (glA _ f) h
 refine Calls.mono c ?_
 rintro g w' ⟨l,p,y,rfl,x,b,t,u⟩
 exact ⟨p 2,rfl,b.os,b.tape,b.output,b.size,λk m _=>b.block k m λh=>w9 (by kernel_rfl) h⟩
structure pV (w:World) (x:Option Addr) (l:List Op):Prop where
 ex:∀(i:Nat) (o:Op),l[i]?=some o->∃a,x=some a/\w.cell? (a.add (4 * i))=some (.int .i64 o.kind)/\w.cell? (a.add (4 * i+1))=some (.int .i64 o.key)/\w.cell? (a.add (4 * i+2))=some (.int .i64 o.val)/\w.cell? (a.add (4 * i+3))=some (.int .i64 o.dz)
def Q9 (w:World) (v:Value) (j:Option Jb) (B:Nat->Prop):Prop :=
 match j with
 | none=>v=.pointer none
 | some x=>∃a,v=.pointer (some a)/\lC w a x B
def qH (l:List (Int × Int)):List Value:=l.flatMap λx=>[.int .i64 x.1,.int .i64 x.2]
def Sl (A n:Nat):Type:={x:Option Addr × Nat // 0<n->∀a,x.1=some a->a.block=A}
structure bV (w:World) (b base A:Nat) (k:Wk) (B:Nat->Prop):Prop where
 ex:∃(aR:Nat) (jv sv:Value) (c:Sl A k.ops.length) (BR BJ:Nat->Prop),
  w.heap[b]?=some (.cells #[.pointer (some ⟨aR,0,none⟩),.slice c.1.1 k.ops.length c.1.2,jv,.bool k.aj,sv] 123 (0,0)) /\
  nK w ⟨aR,0,none⟩ k.r BR/\Q9 w jv k.j BJ/\pV w c.1.1 k.ops/\w.ownsRow base 39 2 sv k.said.length (qH k.said) /\
  (¬BR b/\¬BJ b/\∀x,BR x->¬BJ x)/\(sv.ownBlock≠some b/\∀x,BR x\/BJ x->sv.ownBlock≠some x) /\
  (A≠b/\¬BR A/\¬BJ A/\sv.ownBlock≠some A/\A<w.heap.size)/\∀x,x=b\/BR x\/BJ x\/sv.ownBlock=some x->B x
section
variable {w w':World} {b base A:Nat} {k:Wk} {B:Nat->Prop}
theorem bV.cells (h:bV w b base A k B):∃(a:Nat) (e d:Value) (c:Sl A k.ops.length),w.cell? ⟨b,0,none⟩=some (.pointer (some ⟨a,0,none⟩))/\w.cell? ⟨b,1,none⟩=some (.slice c.1.1 k.ops.length c.1.2)/\w.cell? ⟨b,2,none⟩=some e/\w.cell? ⟨b,3,none⟩=some (.bool k.aj)/\w.cell? ⟨b,4,none⟩=some d/\∀i,w.frozen? ⟨b,i,none⟩=false:=by
 obtain ⟨a,e,d,c,g,j,f,-⟩:=h.ex
 refine ⟨a,e,d,c,?_,?_,?_,?_,?_,λi=>?_⟩
 all_goals
  first
   | unfold World.cell?
   | unfold World.frozen?
  rw [f]
  first
   | rfl
   | simp
theorem pV.frame {l:List Op} {c:Sl A l.length} (h:pV w c.1.1 l) (g:w'.heap[A]?=w.heap[A]?):pV w' c.1.1 l:=⟨λi o f=>by
  obtain ⟨a,e,j⟩:=h.ex i o f
  have m:=c.2 (by have:=(List.getElem?_eq_some_iff.1 f).1;omega) a e
  have d:∀n,w'.cell? (a.add n)=w.cell? (a.add n):=λn=>by
    have:(a.add n).block=A:=by rw [<-m];unfold Addr.add;split <;> rfl
    unfold World.cell?
    rw [this,g]
  exact ⟨a,e,by rw [d,d,d,d];exact j⟩⟩
theorem Q9.frame {v:Value} {j:Option Jb} {c:Nat->Prop} (h:Q9 w v j c) (f:∀x,x<w.heap.size->c x->w'.heap[x]?=w.heap[x]?):Q9 w' v j c:=by
 cases j with
 | none=>exact h
 | some x =>
  obtain ⟨a,e,g⟩:=h
  have:=(g.mono (B':=λx=>c x/\x<w.heap.size) λb p q=>⟨p,q⟩).frame λb d=>f b d.2 d.1
  exact ⟨a,e,this.mono λb p _=>p.1⟩
theorem nD {v:Value} {n:Nat} {e:TypeId} {size:Nat} {f:List Value} (h:w.ownsRow base e size v n f) (i:∀x,x<w.heap.size->v.ownBlock=some x->w'.heap[x]?=w.heap[x]?):w'.ownsRow base e size v n f:=by
 obtain ⟨d,a | ⟨g,cap,cur,a,l,c,j⟩⟩:=h
 ·exact ⟨d,.inl a⟩
 ·refine ⟨d,.inr ⟨g,cap,cur,a,l,?_,j⟩⟩
  rw [i g ?_ (by rw [a];rfl)]
  ·exact c
  ·rcases Nat.lt_or_ge g w.heap.size with h | h
   ·exact h
   ·rw [Array.getElem?_eq_none h] at c;cases c
theorem J8 {v:Value} {n:Nat} {e:TypeId} {size:Nat} {d:List Value} {x:Nat} (h:w.ownsRow base e size v n d) (c:v.ownBlock=some x):x<w.heap.size:=by
 obtain ⟨f,⟨rfl,-⟩ | ⟨g,cap,cur,rfl,j,a,i⟩⟩:=h
 ·cases c
 ·obtain rfl:g=x:=Option.some.inj c
  rcases Nat.lt_or_ge g w.heap.size with h | h
  ·exact h
  ·rw [Array.getElem?_eq_none h] at a;cases a
theorem bV.rt (h:bV w b base A k B):∃(j:Nat) (g:Nat->Prop),w.cell? ⟨b,0,none⟩=some (.pointer (some ⟨j,0,none⟩))/\nK w ⟨j,0,none⟩ k.r g/\(∀x,g x->(B x/\x<w.heap.size)/\x≠b) /\
  ∀w' t f,nK w' ⟨j,0,none⟩ t f->(∀x,f x->w.heap.size<=x\/g x)->cK w g w'->bV w' b base A {k with r:=t} λx=>B x\/w.heap.size<=x:=by
 obtain ⟨j,L,N,c,g,F,s,I,D,K,E,⟨d1,d2,d3⟩,⟨O,z⟩,⟨J,G,Q,P,C⟩,o⟩:=h.ex
 have m:b<w.heap.size:=by
  rcases Nat.lt_or_ge b w.heap.size with h | h
  ·exact h
  ·rw [Array.getElem?_eq_none h] at s;cases s
 refine ⟨j,λx=>g x/\x<w.heap.size,by unfold World.cell?;rw [s];rfl,I.mono λx p q=>⟨p,q⟩,λx d=>⟨⟨o x (.inr (.inl d.1)),d.2⟩,λe=>d1 (e ▸ d.1)⟩,λw' t f M g2 l=>⟨j,L,N,c,f,λx=>F x/\x<w.heap.size,?_,M,?_,?_,?_,⟨?_,?_,?_⟩,⟨O,?_⟩,⟨J,?_,?_,P,?_⟩,?_⟩⟩
 ·rw [l.block b m λx=>d1 x.1];exact s
 ·have:=D.frame (w':=w') λx d i=>l.block x d λy=>d3 x y.1 i
  cases H:k.j with
  | none=>rw [H] at this;exact this
  | some x =>
   rw [H] at this D
   obtain ⟨a,e,i⟩:=D
   have u:=(i.mono (B':=λx=>F x/\x<w.heap.size) λb p q=>⟨p,q⟩).frame (w':=w') λb m=>l.block b m.2 λy=>d3 b y.1 m.1
   exact ⟨a,e,u⟩
 ·exact K.frame (l.block A C λx=>G x.1)
 ·exact nD E λx d n=>l.block x d λy=>z x (.inl y.1) n
 ·exact λx=>(g2 b x).elim (λy=>absurd m (Nat.not_lt.2 y)) λy=>d1 y.1
 ·exact λx=>d2 x.1
 ·exact λx d i=>(g2 x d).elim (λy=>absurd i.2 (Nat.not_lt.2 y)) λy=>d3 x y.1 i.1
 ·rintro x (d | d) n
  ·exact (g2 x d).elim (λy=>absurd (J8 E n) (Nat.not_lt.2 y)) λy=>z x (.inl y.1) n
  ·exact z x (.inr d.1) n
 ·exact λx=>(g2 A x).elim (λy=>absurd C (Nat.not_lt.2 y)) λy=>G y.1
 ·exact λx=>Q x.1
 ·exact Nat.lt_of_lt_of_le C l.size
 ·rintro x (d | d | d | d)
  ·exact .inl (o x (.inl d))
  ·exact (g2 x d).elim .inr λy=>.inl (o x (.inr (.inl y.1)))
  ·exact .inl (o x (.inr (.inr (.inl d.1))))
  ·exact .inl (o x (.inr (.inr (.inr d))))
theorem bV.put (h:bV w b base A k B) (i:Nat) (x:Value) (j:Option Jb) (aj:Bool) (R:i=2->j=none/\x=.pointer none) (Q:i=3->x=.bool aj) (n:i≠2->j=k.j) (m:i≠3->aj=k.aj) (p:i=2\/i=3) :
  (w.frozen? ⟨b,i,none⟩=false)/\bV (w.setCell ⟨b,i,none⟩ x) b base A {k with j:=j,aj:=aj} B:=by
 obtain ⟨F,N,u,c,q,C,r,K,P,L,M,⟨d1,d2,d3⟩,⟨o,t⟩,⟨l,D,G,E,z⟩,J⟩:=h.ex
 have a:∀y,y≠b->(w.setCell ⟨b,i,none⟩ x).heap[y]?=w.heap[y]?:=λy g=>heap_setCell_other w ⟨b,i,none⟩ y _ g
 have d:=heap_setCell_same w b i _ _ x r
 have f:(w.setCell ⟨b,i,none⟩ x).heap.size=w.heap.size:=by simp [World.setCell]
 have H:=K.frame (w':=w.setCell ⟨b,i,none⟩ x) λy g=>a y λe=>d1 (e ▸ g)
 have s:=L.frame (w':=w.setCell ⟨b,i,none⟩ x) (a A l)
 have I:=nD (w':=w.setCell ⟨b,i,none⟩ x) M λy _ O=>a y λe=>o (e ▸ O)
 refine ⟨by unfold World.frozen?;rw [r];rfl,?_⟩
 rcases p with rfl | rfl
 ·obtain ⟨rfl,rfl⟩:=R rfl
  obtain rfl:=m (by decide)
  exact ⟨F,.pointer none,u,c,q,C,d,H,rfl,s,I,⟨d1,d2,d3⟩,⟨o,t⟩,⟨l,D,G,E,by rw [f];exact z⟩,J⟩
 ·obtain rfl:=Q rfl
  obtain rfl:=n (by decide)
  exact ⟨F,N,u,c,q,C,d,H,P.frame λy _ g=>a y λe=>d2 (e ▸ g),s,I,⟨d1,d2,d3⟩,⟨o,t⟩,⟨l,D,G,E,by rw [f];exact z⟩,J⟩
theorem bV.abI (h:bV w b base A k B) (o:Nw w w') {f:Addr} {j:Jb} {z:Nat->Prop} (N:lC w' f j z) (l:∀x,z x->w.heap.size<=x) :
  w'.frozen? ⟨b,2,none⟩=false/\bV (w'.setCell ⟨b,2,none⟩ (.pointer (some f))) b base A {k with j:=some j} λx=>B x\/w.heap.size<=x:=by
 obtain ⟨Q,T,M,c,E,U,t,I,V,J,G,⟨d1,d2,d3⟩,⟨H,L⟩,⟨F,O,W,P,C⟩,D⟩:=h.ex
 have r:b<w.heap.size:=by
  rcases Nat.lt_or_ge b w.heap.size with h | h
  ·exact h
  ·rw [Array.getElem?_eq_none h] at t;cases t
 have n:w'.heap[b]?=_:=(o.block b r id).trans t
 have a:∀y,y≠b->(w'.setCell ⟨b,2,none⟩ (.pointer (some f))).heap[y]?=w'.heap[y]?:=λy g=>heap_setCell_other w' ⟨b,2,none⟩ y _ g
 have i:=heap_setCell_same w' b 2 _ _ (.pointer (some f)) n
 have u:(w'.setCell ⟨b,2,none⟩ (.pointer (some f))).heap.size=w'.heap.size:=by simp [World.setCell]
 have R:=((I.mono (B':=λx=>E x/\x<w.heap.size) λx p q=>⟨p,q⟩).frame (w':=w') λy g=>o.block y g.2 id).frame (w':=w'.setCell ⟨b,2,none⟩ (.pointer (some f))) λy g=>a y λe=>d1 (e ▸ g.1)
 have K:=(J.frame (w':=w') (o.block A C id)).frame (w':=w'.setCell ⟨b,2,none⟩ (.pointer (some f))) (a A F)
 have S:=nD (w':=w'.setCell ⟨b,2,none⟩ (.pointer (some f))) (nD (w':=w') G λy g m=>o.block y g id) λy _ m=>a y λe=>H (e ▸ m)
 have s:=N.frame (w':=w'.setCell ⟨b,2,none⟩ (.pointer (some f))) λy g=>a y λe=>absurd (l y g) (Nat.not_le.2 (e ▸ r))
 refine ⟨by unfold World.frozen?;rw [n];rfl,Q,.pointer (some f),M,c,λx=>E x/\x<w.heap.size,z,i,R,⟨f,rfl,s⟩,K,S,⟨λx=>d1 x.1,λx=>absurd (l b x) (Nat.not_le.2 r),λx d y=>absurd (l x y) (Nat.not_le.2 d.2)⟩,⟨H,?_⟩,⟨F,λx=>O x.1,λx=>absurd (l A x) (Nat.not_le.2 C),P,by rw [u];exact Nat.lt_of_lt_of_le C o.size⟩,?_⟩
 ·rintro x (d | d) m
  ·exact L x (.inl d.1) m
  ·exact absurd (J8 G m) (Nat.not_lt.2 (l x d))
 ·rintro x (d | d | d | d)
  ·exact .inl (D x (.inl d))
  ·exact .inl (D x (.inr (.inl d.1)))
  ·exact .inr (l x d)
  ·exact .inl (D x (.inr (.inr (.inr d))))
theorem bV.jb (h:bV w b base A k B) {j:Jb} (P:k.j=some j):∃(f:Addr) (d:Nat->Prop),w.cell? ⟨b,2,none⟩=some (.pointer (some f))/\lC w f j d/\(∀x,d x->(B x/\x<w.heap.size)/\x≠b) /\
  ∀w' j' n,lC w' f j' n->(∀x,n x->w.heap.size<=x\/d x)->cK w d w'->bV w' b base A {k with j:=some j'} λx=>B x\/w.heap.size<=x:=by
 obtain ⟨O,Q,K,c,t,d,m,G,E,I,C,⟨d1,d2,d3⟩,⟨M,o⟩,⟨H,L,F,N,r⟩,i⟩:=h.ex
 have u:b<w.heap.size:=by
  rcases Nat.lt_or_ge b w.heap.size with h | h
  ·exact h
  ·rw [Array.getElem?_eq_none h] at m;cases m
 rw [P] at E
 obtain ⟨f,rfl,s⟩:=E
 refine ⟨f,λx=>d x/\x<w.heap.size,by unfold World.cell?;rw [m];rfl,s.mono λx p q=>⟨p,q⟩,λx a=>⟨⟨i x (.inr (.inr (.inl a.1))),a.2⟩,λe=>d2 (e ▸ a.1)⟩,λw' j' n J g2 l=>⟨O,_,K,c,λx=>t x/\x<w.heap.size,n,?_,?_,⟨f,rfl,J⟩,?_,?_,⟨?_,?_,?_⟩,⟨M,?_⟩,⟨H,?_,?_,N,?_⟩,?_⟩⟩
 ·rw [l.block b u λx=>d2 x.1];exact m
 ·exact (G.mono (B':=λx=>t x/\x<w.heap.size) λx p q=>⟨p,q⟩).frame λy D=>l.block y D.2 λz=>d3 y D.1 z.1
 ·exact I.frame (l.block A r λx=>F x.1)
 ·exact nD C λx a g=>l.block x a λy=>o x (.inr y.1) g
 ·exact λx=>d1 x.1
 ·exact λx=>(g2 b x).elim (λy=>absurd u (Nat.not_lt.2 y)) λy=>d2 y.1
 ·exact λx a s=>(g2 x s).elim (λy=>absurd a.2 (Nat.not_lt.2 y)) λy=>d3 x a.1 y.1
 ·rintro x (a | a) g
  ·exact o x (.inl a.1) g
  ·exact (g2 x a).elim (λy=>absurd (J8 C g) (Nat.not_lt.2 y)) λy=>o x (.inr y.1) g
 ·exact λx=>L x.1
 ·exact λx=>(g2 A x).elim (λy=>absurd r (Nat.not_lt.2 y)) λy=>F y.1
 ·exact Nat.lt_of_lt_of_le r l.size
 ·rintro x (a | a | a | a)
  ·exact .inl (i x (.inl a))
  ·exact .inl (i x (.inr (.inl a.1)))
  ·exact (g2 x a).elim .inr λy=>.inl (i x (.inr (.inr (.inl y.1))))
  ·exact .inl (i x (.inr (.inr (.inr a))))
end
section
variable {w w':World} {b base A:Nat} {k:Wk} {B:Nat->Prop}
theorem bV.J9 (h:bV w b base A k B):∃l:Value,w.cell? ⟨b,4,none⟩=some l/\w.ownsRow base 39 2 l k.said.length (qH k.said) /\
  ∀r g i (x:Int × Int),Nw w r->r.grownBy g l.ownBlock->g.ownsRow base 39 2 i (k.said.length+1) (qH k.said ++ [.int .i64 x.1,.int .i64 x.2])->(i.ownBlock=l.ownBlock\/i.ownBlock=some r.heap.size) ->
   g.frozen? ⟨b,4,none⟩=false/\g.cell? ⟨b,4,none⟩=some l/\bV (g.setCell ⟨b,4,none⟩ i) b base A {k with said:=k.said ++ [x]} λy=>B y\/w.heap.size<=y:=by
 obtain ⟨Z,O,l,c,K,J,s,S,C,T,U,⟨d1,d2,d3⟩,⟨P,t⟩,⟨N,X,f3,Q,H⟩,E⟩:=h.ex
 have L:b<w.heap.size:=by
  rcases Nat.lt_or_ge b w.heap.size with h | h
  ·exact h
  ·rw [Array.getElem?_eq_none h] at s;cases s
 refine ⟨l,by unfold World.cell?;rw [s];rfl,U,λr g i x D M u Y=>?_⟩
 have ay:∀y,y<w.heap.size->l.ownBlock≠some y->g.heap[y]?=w.heap[y]?:=λy d F=>(M.block y (Nat.lt_of_lt_of_le d D.size) λe=>F e.symm).trans (D.block y d id)
 have m:g.heap[b]?=_:=(ay b L P).trans s
 have f:∀y,y≠b->(g.setCell ⟨b,4,none⟩ i).heap[y]?=g.heap[y]?:=λy d=>heap_setCell_other g ⟨b,4,none⟩ y _ d
 have n:=heap_setCell_same g b 4 _ _ i m
 have G:(g.setCell ⟨b,4,none⟩ i).heap.size=g.heap.size:=by simp [World.setCell]
 have j:∀y,i.ownBlock=some y->l.ownBlock=some y\/w.heap.size<=y:=λy d=>by
  rcases Y with e | e
  ·exact .inl (e ▸ d)
  ·rw [e] at d
   cases d
   exact .inr D.size
 have o:i.ownBlock≠some b:=λe=>(j b e).elim P λy=>absurd L (Nat.not_lt.2 y)
 have hR:=((S.mono (B':=λx=>K x/\x<w.heap.size) λx p q=>⟨p,q⟩).frame (w':=g) λy d=>ay y d.2 (t y (.inl d.1))).frame (w':=g.setCell ⟨b,4,none⟩ i) λy d=>f y λe=>d1 (e ▸ d.1)
 have V:=(T.frame (w':=g) (ay A H Q)).frame (w':=g.setCell ⟨b,4,none⟩ i) (f A N)
 have hS:=nD (w':=g.setCell ⟨b,4,none⟩ i) u λy _ d=>f y λe=>o (e ▸ d)
 have I:Q9 (g.setCell ⟨b,4,none⟩ i) O k.j λx=>J x/\x<w.heap.size:=by
  cases R:k.j with
  | none=>rw [R] at C;exact C
  | some z =>
   rw [R] at C
   obtain ⟨a,e,I⟩:=C
   exact ⟨a,e,((I.mono (B':=λx=>J x/\x<w.heap.size) λx p q=>⟨p,q⟩).frame (w':=g) λy d=>ay y d.2 (t y (.inr d.1))).frame λy d=>f y λe=>d2 (e ▸ d.1)⟩
 have hlen:qH (k.said ++ [x])=qH k.said ++ [.int .i64 x.1,.int .i64 x.2]:=by simp [qH]
 refine ⟨by unfold World.frozen?;rw [m];rfl,by unfold World.cell?;rw [m];rfl,Z,O,i,c,λx=>K x/\x<w.heap.size,λx=>J x/\x<w.heap.size,n,hR,I,V,?_,⟨λx=>d1 x.1,λx=>d2 x.1,λx W y=>d3 x W.1 y.1⟩,⟨o,?_⟩,⟨N,λx=>X x.1,λx=>f3 x.1,?_,?_⟩,?_⟩
 ·show World.ownsRow _ base 39 2 i (k.said ++ [x]).length (qH (k.said ++ [x]))
  rw [hlen,List.length_append,List.length_singleton]
  exact hS
 ·rintro y (d | d) u
  ·exact (j y u).elim (t y (.inl d.1)) λz=>absurd d.2 (Nat.not_lt.2 z)
  ·exact (j y u).elim (t y (.inr d.1)) λz=>absurd d.2 (Nat.not_lt.2 z)
 ·exact λe=>(j A e).elim Q λy=>absurd H (Nat.not_lt.2 y)
 ·rw [G]
  exact Nat.lt_of_lt_of_le H (Nat.le_trans D.size M.size)
 ·rintro y (d | d | d | d)
  ·exact .inl (E y (.inl d))
  ·exact .inl (E y (.inr (.inl d.1)))
  ·exact .inl (E y (.inr (.inr (.inl d.1))))
  ·exact (j y d).elim (λz=>.inl (E y (.inr (.inr (.inr z))))) .inr
end
theorem bV.bS {w:World} {b base A:Nat} {k:Wk} {B:Nat->Prop} (i:bV w b base A k B) :
  ∃rb,w.cell? ⟨b,0,none⟩=some (.pointer (some ⟨rb,0,none⟩))/\Calls Tryz.prog 38 #[.pointer (some ⟨rb,0,none⟩)] w λe w'=>e=.returned (iy k.r.bS)/\bV w' b base A k (λx=>B x\/w.heap.size<=x)/\cK w B w'/\w'.heap[b]?=w.heap[b]?:=by
 obtain ⟨n,p,a,o,f,d⟩:=i.rt
 refine ⟨n,a,(aaW o).mono ?_⟩
 rintro e w' ⟨rfl,g,j,g2,c⟩
 exact ⟨rfl,d w' _ g j g2 c,⟨c.os,c.tape,c.output,c.size,λx l m=>c.block x l λh=>m (f x h).1.1⟩,c.block b (World.block_lt_of_cell? _ _ a) λh=>(f b h).2 rfl⟩
theorem bV.alq {w:World} {b base A:Nat} {k:Wk} {B:Nat->Prop} (i:bV w b base A k B) (g:k.r.step≠0) :
  ∃rb,w.cell? ⟨b,0,none⟩=some (.pointer (some ⟨rb,0,none⟩))/\Calls Tryz.prog 39 #[.pointer (some ⟨rb,0,none⟩)] w λe w'=>e=.returned (.tuple #[rZ k.r.acc,.bool true])/\bV w' b base A k (λx=>B x\/w.heap.size<=x)/\cK w B w':=by
 obtain ⟨o,q,a,p,j,d⟩:=i.rt
 refine ⟨o,a,(aeG p g).mono ?_⟩
 rintro e w' ⟨rfl,f,l,g2,c⟩
 exact ⟨rfl,d w' _ f l g2 c,c.os,c.tape,c.output,c.size,λx m n=>c.block x m λh=>n (j x h).1.1⟩
theorem bV.alr {w:World} {b base A:Nat} {k:Wk} {B:Nat->Prop} {x:Rp} (g:bV w b base A k B) (i:uM k.r x) :
  ∃rb,w.cell? ⟨b,0,none⟩=some (.pointer (some ⟨rb,0,none⟩))/\Calls Tryz.prog 40 #[.pointer (some ⟨rb,0,none⟩),iy x] w λe w'=>e=.returned .nilIface/\bV w' b base A {k with r:=(k.r.aB x).1} (λx=>B x\/w.heap.size<=x)/\cK w B w':=by
 obtain ⟨o,q,a,p,j,d⟩:=g.rt
 refine ⟨o,a,(aeF p i).mono ?_⟩
 rintro e w' ⟨rfl,f,l,g2,c⟩
 exact ⟨rfl,d w' _ f l g2 c,c.os,c.tape,c.output,c.size,λx m n=>c.block x m λh=>n (j x h).1.1⟩
theorem bV.als {w:World} {b base A:Nat} {k:Wk} {B:Nat->Prop} {j:Jb} {x:Rp} (m:bV w b base A k B) (r:k.j=some j) (l:OkT j x) :
  ∃f,w.cell? ⟨b,2,none⟩=some (.pointer (some f))/\Calls Tryz.prog 56 #[.pointer (some f),iy x] w λe w'=>e=.returned (oG (j.next x).2)/\bV w' b base A {k with j:=some (j.next x).1} (λx=>B x\/w.heap.size<=x)/\cK w B w'/\w'.heap[b]?=w.heap[b]?:=by
 obtain ⟨f,s,a,o,g,d⟩:=m.jb r
 refine ⟨f,a,(afe o l).mono ?_⟩
 rintro e w' ⟨rfl,i,n,g2,c⟩
 exact ⟨rfl,d w' _ i n g2 c,⟨c.os,c.tape,c.output,c.size,λx p q=>c.block x p λh=>q (g x h).1.1⟩,c.block b (World.block_lt_of_cell? _ _ a) λh=>(g b h).2 rfl⟩
structure Ce (I:Nat->Wk->Prop):Prop where
 rt:∀n k,I n k->uL k.r
 len:∀n k,I n k->k.ops.length<=100
 leave:∀n k,I (n+1) k->k.r.step=0->k.j=none->k.aj=true->(k.r.begin (Ca.of 2)).2=true/\I n {k with aj:=false,r:=(k.r.begin (Ca.of 2)).1}
 start:∀n k,I (n+1) k->k.r.step=0->k.j=none->k.aj=false->k.said.length<k.ops.length->(k.ops.getD k.said.length ⟨0,0,0,0⟩).bP->(k.r.begin (Ca.of 1)).2=true/\I n {k with j:=some (Jb.new (k.ops.getD k.said.length ⟨0,0,0,0⟩)),aj:=true,r:=(k.r.begin (Ca.of 1)).1}
 bad:∀n k,I (n+1) k->k.r.step=0->k.j=none->k.aj=false->k.said.length<k.ops.length->¬(k.ops.getD k.said.length ⟨0,0,0,0⟩).bP->I n {k with said:=k.said ++ [(0,0)]}
 next:∀n k j,I (n+1) k->k.r.step=0->k.j=some j->OkT j k.r.bS /\
  (((j.next k.r.bS).2.kind=12/\k.said.length<k.ops.length/\I n {k with said:=k.said ++ [((j.next k.r.bS).2.code,(j.next k.r.bS).2.val)],j:=none}) \/
   ((j.next k.r.bS).2.kind≠12/\(j.next k.r.bS).2.OK/\(k.r.begin (j.next k.r.bS).2).2=true/\I n {k with j:=some (j.next k.r.bS).1,r:=(k.r.begin (j.next k.r.bS).2).1}))
section
variable {w C D:World} {b base A n:Nat} {k E:Wk} {B H J F G:Nat->Prop} {I:Nat->Wk->Prop}
theorem qO (h:cK C F w) (a:cK w G D) (f:∀x,G x->x<w.heap.size->F x\/C.heap.size<=x):cK C F D :=
 ⟨a.os.trans h.os,a.tape.trans h.tape,a.output.trans h.output,Nat.le_trans h.size a.size,λk c d=>(a.block k (Nat.lt_of_lt_of_le c h.size) λe=>(f k e (Nat.lt_of_lt_of_le c h.size)).elim d λz=>absurd c (Nat.not_lt.2 z)).trans (h.block k c d)⟩
theorem bV.ajd (j:bV w b base A k B) (l:uL k.r) (i:k.r.step=0) {c:Ca} (u:c.OK) :
  ∃rb,w.cell? ⟨b,0,none⟩=some (.pointer (some ⟨rb,0,none⟩))/\Calls Tryz.prog 37 #[.pointer (some ⟨rb,0,none⟩),oG c] w λe w'=>e=.returned .nilIface/\bV w' b base A {k with r:=(k.r.begin c).1} (λx=>B x\/w.heap.size<=x)/\cK w B w':=by
 obtain ⟨s,y,a,t,m,f⟩:=j.rt
 refine ⟨s,a,(aaV t l i u).mono ?_⟩
 rintro e w' ⟨rfl,g,o,g2,d⟩
 exact ⟨rfl,f w' _ g o g2 d,d.os,d.tape,d.output,d.size,λx p q=>d.block x p λh=>q (m x h).1.1⟩
theorem bV.alu (c:bV w b base A k B) :
  ∃rb,w.cell? ⟨b,0,none⟩=some (.pointer (some ⟨rb,0,none⟩))/\Calls Tryz.prog 36 #[.pointer (some ⟨rb,0,none⟩)] w λe w'=>e=.returned (.bool (decide (k.r.step≠0)))/\w'=w:=by
 obtain ⟨d,h,g,f,-⟩:=c.rt
 obtain ⟨i,e,-,a⟩:=f.step
 rw [Addr.mk.injEq] at e
 refine ⟨d,g,?_⟩
 rw [e.1]
 exact Yq a
end
def bD {α:Type} (f:Nat->α) (i:Nat) (x:α):Nat->α:=λk=>if k=i then x else f k
theorem aG {α:Type} (f:Nat->α) (i:Nat) (x:α):bD f i x i=x:=if_pos rfl
theorem bR {α:Type} (f:Nat->α) {i k:Nat} (x:α) (h:k≠i):bD f i x k=f k:=if_neg h
section
variable {w w':World} {b base A:Nat} {k:Wk} {B B':Nat->Prop}
theorem bV.frame (h:bV w b base A k B) (g:∀x,x<w.heap.size->B x->w'.heap[x]?=w.heap[x]?) (D:w'.heap[A]?=w.heap[A]?) (J:w.heap.size<=w'.heap.size):bV w' b base A k λx=>B x/\x<w.heap.size:=by
 obtain ⟨N,C,G,c,l,o,j,s,i,u,n,⟨d1,d2,d3⟩,⟨L,E⟩,⟨t,K,O,M,H⟩,f⟩:=h.ex
 have m:b<w.heap.size:=by
  rcases Nat.lt_or_ge b w.heap.size with h | h
  ·exact h
  ·rw [Array.getElem?_eq_none h] at j;cases j
 refine ⟨N,C,G,c,λx=>l x/\x<w.heap.size,λx=>o x/\x<w.heap.size,?_,?_,?_,u.frame D,nD n λx d F=>g x d (f x (.inr (.inr (.inr F)))),⟨λx=>d1 x.1,λx=>d2 x.1,λx d y=>d3 x d.1 y.1⟩,⟨L,λx d=>E x (d.imp And.left And.left)⟩,⟨t,λx=>K x.1,λx=>O x.1,M,Nat.lt_of_lt_of_le H J⟩,?_⟩
 ·rw [g b m (f b (.inl rfl))];exact j
 ·exact (s.mono (B':=λx=>l x/\x<w.heap.size) λx p q=>⟨p,q⟩).frame λx d=>g x d.2 (f x (.inr (.inl d.1)))
 ·cases r:k.j with
  | none=>rw [r] at i;exact i
  | some z =>
   rw [r] at i
   obtain ⟨a,e,I⟩:=i
   exact ⟨a,e,(I.mono (B':=λx=>o x/\x<w.heap.size) λx p q=>⟨p,q⟩).frame λx d=>g x d.2 (f x (.inr (.inr (.inl d.1))))⟩
 ·rintro x (d | d | d | d)
  ·exact ⟨f x (.inl d),d ▸ m⟩
  ·exact ⟨f x (.inr (.inl d.1)),d.2⟩
  ·exact ⟨f x (.inr (.inr (.inl d.1))),d.2⟩
  ·exact ⟨f x (.inr (.inr (.inr d))),J8 n d⟩
theorem bV.mono (h:bV w b base A k B) (t:∀x,B x->x<w.heap.size->B' x):bV w b base A k B':=by
 obtain ⟨s,m,o,c,f,p,i,e,q,g,l,r,j,n,d⟩:=(h.frame (w':=w) (λ_ _ _=>rfl) rfl (Nat.le_refl _)).ex
 exact ⟨s,m,o,c,f,p,i,e,q,g,l,r,j,n,λx a=>t x (d x a).1 (d x a).2⟩
theorem bV.self (h:bV w b base A k B):B b/\b<w.heap.size/\A<w.heap.size:=by
 obtain ⟨g,r,l,c,m,o,a,i,p,j,q,f,n,e,d⟩:=h.ex
 refine ⟨d b (.inl rfl),?_,e.2.2.2.2⟩
 rcases Nat.lt_or_ge b w.heap.size with h | h
 ·exact h
 ·rw [Array.getElem?_eq_none h] at a;cases a
end
structure pE (w:World) (aP:Addr) (aW A:Nat->Nat) (base n:Nat) (p:PS) (W:Nat->Wk) (F:Nat->Prop):Prop where
 ex:∃(BP:Nat->Prop) (BM:Nat->Nat->Prop),kr w aP p BP/\(∀k,k<n->bV w (aW k) base (A k) (W k) (BM k))/\(∀k,k<n->∀b,BP b->¬BM k b)/\(∀j k,j<n->k<n->j≠k->∀b,BM j b->¬BM k b)/\(∀b,BP b->F b)/\(∀k,k<n->∀b,BM k b->F b)/\∀k,k<n->¬F (A k)
section
variable {w w':World} {R:Addr} {S A:Nat->Nat} {base n:Nat} {p p':PS} {W:Nat->Wk} {F T:Nat->Prop}
theorem pE.frame (h:pE w R S A base n p W F) (c:∀b,b<w.heap.size->(F b\/∃k,k<n/\b=A k)->w'.heap[b]?=w.heap[b]?) (t:w.heap.size<=w'.heap.size):pE w' R S A base n p W F:=by
 obtain ⟨g,r,o,f,s,m,i,l,q⟩:=h.ex
 refine ⟨λb=>g b/\b<w.heap.size,λk b=>r k b/\b<w.heap.size,(o.mono (B':=λb=>g b/\b<w.heap.size) λb x y=>⟨x,y⟩).frame λb d=>c b d.2 (.inl (i b d.1)),λk a=>(f k a).frame (λb d x=>c b d (.inl (l k a b x))) (c _ (f k a).self.2.2 (.inr ⟨k,a,rfl⟩)) t,λk c b x y=>s k c b x.1 y.1,λj k u c e b x y=>m j k u c e b x.1 y.1,λb x=>i b x.1,λk c b x=>l k c b x.1,q⟩
theorem pE.abD (h:pE w R S A base n p W F) {i:Nat} (g:i<n):∃f B:Nat->Prop,kr w R p f/\bV w (S i) base (A i) (W i) B/\(∀x,f x->¬B x)/\(∀x,f x->x<w.heap.size)/\(∀x,B x->x<w.heap.size)/\(∀x,f x\/B x->F x) /\
  ∀w' k' p' (m B':Nat->Prop),kr w' R p' m->bV w' (S i) base (A i) k' B'->(∀x,m x->f x\/w.heap.size<=x)->(∀x,B' x->B x\/w.heap.size<=x)->(∀x,m x->¬B' x)->cK w (λx=>f x\/B x) w' ->
   pE w' R S A base n p' (bD W i k') λx=>F x\/w.heap.size<=x:=by
 obtain ⟨f,I,N,r,J,s,G,u,E⟩:=h.ex
 refine ⟨λb=>f b/\b<w.heap.size,λb=>I i b/\b<w.heap.size,N.mono λb x y=>⟨x,y⟩,(r i g).mono λb x y=>⟨x,y⟩,λx a b=>J i g x a.1 b.1,λx a=>a.2,λx a=>a.2,λx a=>a.elim (λa=>G x a.1) λa=>u i g x a.1,?_⟩
 intro w' k' p' m B' O g2 M H Q z
 have D:∀k,k<n->k≠i->bV w' (S k) base (A k) (W k) λb=>I k b/\b<w.heap.size:=λk d C=>by
  refine (r k d).frame (λx P K=>z.block x P ?_) (z.block _ (r k d).self.2.2 ?_) z.size
  ·rintro (q | q)
   ·exact J k d x q.1 K
   ·exact s i k g d (λe=>C e.symm) x q.1 K
  ·rintro (q | q)
   ·exact E k d (G _ q.1)
   ·exact E k d (u i g _ q.1)
 refine ⟨m,bD (λk b=>I k b/\b<w.heap.size) i B',O,λk d=>?_,λk d b x=>?_,λj k L d l b=>?_,λb x=>(M b x).imp (λq=>G b q.1) id,λk d b=>?_,λk d q=>q.elim (E k d) λq=>absurd (r k d).self.2.2 (Nat.not_lt.2 q)⟩
 ·by_cases c:k=i
  ·rw [c,aG,aG];exact g2
  ·rw [bR _ _ c,bR _ _ c];exact D k d c
 ·by_cases c:k=i
  ·rw [c,aG];exact Q b x
  ·rw [bR _ _ c]
   exact λy=>(M b x).elim (λq=>J k d b q.1 y.1) λq=>absurd y.2 (Nat.not_lt.2 q)
 ·by_cases t:j=i
  ·have o:k≠i:=λe=>l (t.trans e.symm)
   rw [t,aG,bR _ _ o]
   exact λx y=>(H b x).elim (λq=>s i k g d (λe=>o e.symm) b q.1 y.1) λq=>absurd y.2 (Nat.not_lt.2 q)
  ·rw [bR _ _ t]
   by_cases o:k=i
   ·rw [o,aG]
    exact λy x=>(H b x).elim (λq=>s i j g L (λe=>t e.symm) b q.1 y.1) λq=>absurd y.2 (Nat.not_lt.2 q)
   ·rw [bR _ _ o]
    exact λx y=>s j k L d l b x.1 y.1
 ·by_cases c:k=i
  ·rw [c,aG]
   exact λx=>(H b x).imp (λq=>u i g b q.1) id
  ·rw [bR _ _ c]
   exact λx=>.inl (u k d b x.1)
theorem pE.nil {B:Nat->Prop} (h:kr w R p B):pE w R S A base 0 p W B :=
 ⟨B,λ_ _=>False,h,λk a=>absurd a (Nat.not_lt_zero k),λk a=>absurd a (Nat.not_lt_zero k),λj k b=>absurd b (Nat.not_lt_zero j),λ_ h=>h,λk a=>absurd a (Nat.not_lt_zero k),λk a=>absurd a (Nat.not_lt_zero k)⟩
theorem pE.add {b:Nat} {k:Wk} {B:Nat->Prop} (h:pE w R S A base n p W F) (I:bV w b base (A n) k B) (hd:∀x,B x->¬F x) (D:∀i,i<n->¬B (A i)) (o:¬F (A n)) (l:¬B (A n)):pE w R (bD S n b) A base (n+1) p (bD W n k) λx=>F x\/B x:=by
 obtain ⟨u,E,z,t,G,y,s,r,C⟩:=h.ex
 refine ⟨u,bD E n B,z,λk f=>?_,λk f x=>?_,λj k J f d x=>?_,λx H=>.inl (s x H),λk f x=>?_,λk f=>?_⟩
 ·by_cases c:k=n
  ·rw [c,aG,aG,aG];exact I
  ·rw [bR _ _ c,bR _ _ c,bR _ _ c];exact t k (by omega)
 ·by_cases c:k=n
  ·rw [c,aG];exact λa b=>hd x b (s x a)
  ·rw [bR _ _ c];exact G k (by omega) x
 ·by_cases m:j=n
  ·have g:k≠n:=λe=>d (m.trans e.symm)
   rw [m,aG,bR _ _ g]
   exact λa b=>hd x a (r k (by omega) x b)
  ·rw [bR _ _ m]
   by_cases g:k=n
   ·rw [g,aG]
    exact λa b=>hd x b (r j (by omega) x a)
   ·rw [bR _ _ g]
    exact y j k (by omega) (by omega) d x
 ·by_cases c:k=n
  ·rw [c,aG];exact .inr
  ·rw [bR _ _ c];exact λa=>.inl (r k (by omega) x a)
 ·by_cases c:k=n
  ·rw [c];exact λq=>q.elim o l
  ·exact λq=>q.elim (C k (by omega)) (D k (by omega))
end
theorem aff {w:World} {ρ:Env} {ν:Nat->Addr} {b base A:Nat} {r:RS} {l:List Op} {c:Sl A l.length} (h:aD ρ ν dO w) (o:aa ρ 0 4=r) (m:dw ρ 4) (p:¬iw ρ ν dO b) (j:A<w.heap.size) (f:A≠b) (k:¬iw ρ ν dO A)
  (d:pV w c.1.1 l) (i:w.heap[b]?=some (.cells #[.pointer (some (ν 0)),.slice c.1.1 l.length c.1.2,.pointer none,.bool false,.slice none 0 0] 123 (0,0))) :
  bV w b base A ⟨r,l,none,false,[]⟩ λx=>x=b\/iw ρ ν dO x:=by
 have e:∃g,ν 0=⟨g,0,none⟩:=by
  obtain ⟨n,-⟩:=h.ak 0 _ rfl rfl rfl
  exact ⟨_,n⟩
 obtain ⟨g,e⟩:=e
 rw [e] at i
 refine ⟨g,.pointer none,.slice none 0 0,c,iw ρ ν dO,λ_=>False,i,⟨ρ,ν,e,h,o,m,λ_ h=>h⟩,rfl,d,⟨rfl,.inl ⟨rfl,rfl⟩⟩,⟨p,id,λ_ _=>id⟩,⟨λh=>(by cases h),λ_ _ h=>(by cases h)⟩,⟨f,k,id,λh=>(by cases h),j⟩,?_⟩
 rintro x (a | a | a | a)
 ·exact .inl a
 ·exact .inr a
 ·exact a.elim
 ·cases a
section
variable {k:Wk} {n:Nat} {j:Jb}
theorem afg (a:k.r.step≠0):k.go n=(k,none):=by
 cases n with
 | zero=>rfl
 | succ n =>
  unfold Wk.go
  rw [if_pos a]
theorem afh (c:k.r.step=0) (a:k.j=none) (d:k.aj=false) (b:k.said.length>=k.ops.length):k.go (n+1)=(k,some false):=by
 rw [Wk.go,if_neg (λh=>h c),a]
 simp only
 rw [if_neg (by rw [d];decide),if_pos b]
theorem abJ (b:k.r.step=0) (a:k.j=none) (d:k.aj=true) (c:(k.r.begin (Ca.of 2)).2=true):Wk.go n {k with aj:=false,r:=(k.r.begin (Ca.of 2)).1}=k.go (n+1):=by
 rw [Wk.go,if_neg (λh=>h b),a]
 simp only
 rw [if_pos d,if_neg (by rw [c];decide)]
theorem abK (b:k.r.step=0) (a:k.j=none) (e:k.aj=false) (f:k.said.length<k.ops.length) (d:(k.ops.getD k.said.length ⟨0,0,0,0⟩).bP) (c:(k.r.begin (Ca.of 1)).2=true) :
  Wk.go n {k with j:=some (Jb.new (k.ops.getD k.said.length ⟨0,0,0,0⟩)),aj:=true,r:=(k.r.begin (Ca.of 1)).1}=k.go (n+1):=by
 rw [Wk.go,if_neg (λh=>h b),a]
 simp only
 rw [if_neg (by rw [e];decide),iN,if_neg (λh=>h d),if_neg (by rw [c];decide)]
theorem aje (b:k.r.step=0) (a:k.j=none) (d:k.aj=false) (e:k.said.length<k.ops.length) (c:¬(k.ops.getD k.said.length ⟨0,0,0,0⟩).bP):Wk.go n {k with said:=k.said ++ [(0,0)]}=k.go (n+1):=by
 rw [Wk.go,if_neg (λh=>h b),a]
 simp only
 rw [if_neg (by rw [d];decide),iN,if_pos c]
theorem Y6 (b:k.r.step=0) (c:k.j=some j) (a:(j.next k.r.bS).2.kind=12):Wk.go n {k with said:=k.said ++ [((j.next k.r.bS).2.code,(j.next k.r.bS).2.val)],j:=none}=k.go (n+1):=by
 rw [Wk.go,if_neg (λh=>h b),c]
 simp only
 rw [if_pos a]
theorem afi (c:k.r.step=0) (b:k.j=some j) (a:(j.next k.r.bS).2.kind≠12) (d:(k.r.begin (j.next k.r.bS).2).2=true):Wk.go n {k with j:=some (j.next k.r.bS).1,r:=(k.r.begin (j.next k.r.bS).2).1}=k.go (n+1):=by
 rw [Wk.go,if_neg (λh=>h c),b]
 simp only
 rw [if_neg a,if_neg (by rw [d];decide)]
end
section
variable {w w' t u:World} {b base A:Nat} {k:Wk} {B F G:Nat->Prop}
theorem Nw.drewN {w w':World} (h:Nw w w') (n:Nat):Nw w (w'.drewN n):=⟨h.os,h.tape,h.output,h.size,h.block⟩
theorem Nw.drew {w w':World} (h:Nw w w'):Nw w w'.drew:=⟨h.os,h.tape,h.output,h.size,h.block⟩
theorem bV.nw (h:bV w b base A k B) (a:Nw w w'):bV w' b base A k λx=>B x/\x<w.heap.size :=
 h.frame (λx c _=>a.block x c id) (a.block _ h.self.2.2 id) a.size
theorem bV.We (h:bV w b base A k B) (d:k.j=none):w.cell? ⟨b,2,none⟩=some (.pointer none):=by
 obtain ⟨g,f,j,c,l,m,e,i,a,-⟩:=h.ex
 rw [d] at a
 obtain rfl:f=.pointer none:=a
 unfold World.cell?
 rw [e]
 rfl
theorem bV.said (h:bV w b base A k B):∃a c,w.cell? ⟨b,4,none⟩=some (.slice a k.said.length c):=by
 obtain ⟨s,p,i,c,m,q,f,l,r,n,⟨o,j⟩,-⟩:=h.ex
 have d:w.cell? ⟨b,4,none⟩=some i:=by
  unfold World.cell?
  rw [f]
  rfl
 rcases j with ⟨rfl,e⟩ | ⟨g,cap,cur,rfl,-⟩
 ·exact ⟨none,0,by rw [d,e]⟩
 ·exact ⟨_,_,d⟩
theorem bV.Wh (h:bV w b base A k B):∃c:Sl A k.ops.length,w.cell? ⟨b,1,none⟩=some (.slice c.1.1 k.ops.length c.1.2)/\pV w c.1.1 k.ops:=by
 obtain ⟨e,m,g,c,i,j,d,f,l,a,-⟩:=h.ex
 refine ⟨c,?_,a⟩
 unfold World.cell?
 rw [d]
 rfl
theorem bV.setW (h:bV w b base A k B) (i:Nat) (x:Value):cK w B (w.setCell ⟨b,i,none⟩ x) :=
 ⟨rfl,rfl,rfl,by simp [World.setCell],λy c a=>heap_setCell_other w ⟨b,i,none⟩ y _ λe=>a (e ▸ h.self.1)⟩
theorem Y7 (h:cK w F w') (c:Nw w' u):cK w F u:=qO h c λx a _=>a.elim
end
end Go.Proofs.YthomdlajobnmnaaGreatDoor.Sk
namespace Go.Proofs.YthomdlajobnmnaaGreatDoor
open Go.Rex
section
variable {a b:Lo->Rp->PS->Prop} {d:Nat} {l:Lo} {t:RT} {p p':PS} {x:Rp}
end
section
variable {p:PS} {l:Lo}
end
section
variable {J:PS->List Nt->Prop} {p:PS} {l:Lo}
end
structure Vk where
 l:Lo
 t:RT
 ops:List Op
 j:Option Jb
 aj:Bool
 said:List (Int × Int)
def Vk.with (v:Vk) (q:LR):Vk:={v with l:=q.1,t:=q.2}
def Vk.op (v:Vk):Op:=v.ops.getD v.said.length ⟨0,0,0,0⟩
def Vk.fQ (v:Vk) (x:Rp):Vk :=
 match v.j with
 | none=>if v.aj=true then ({v with aj:=false}:Vk).with (RT.begin v.l (Ca.of 2)) else ({v with j:=some (Jb.new v.op),aj:=true}:Vk).with (RT.begin v.l (Ca.of 1))
 | some j=>if (j.next x).2.kind=12 then {v with said:=v.said ++ [((j.next x).2.code,(j.next x).2.val)],j:=none} else ({v with j:=some (j.next x).1}:Vk).with (RT.begin v.l (j.next x).2)
def Vk.done (v:Vk):Prop:=v.t.aH=0/\v.j=none/\v.aj=false/\v.said.length>=v.ops.length
def Vk.may (v:Vk) (x:Rp):Prop :=
 match v.j with
 | none=>v.aj=true\/(v.aj=false/\v.said.length<v.ops.length/\v.op.bP)
 | some j=>((j.next x).2.kind=12->v.said.length<v.ops.length)/\((j.next x).2.kind≠12->(j.next x).2.OK)
def Fin (Q:Vk->PS->Prop):Nat->Nat->Vk->PS->Prop
 | _,0,v,p=>v.done/\Q v p
 | c,n+1,v,p=>(v.done/\Q v p)\/(∃x,v.t=.idle x/\v.may x/\∃b,c=b+1/\Fin Q b n (v.fQ x) p)\/(v.t.aH≠0/\∃a x,p.act (v.t.acc v.l)=(a,some x)/\Fin Q 150 n (v.with (RT.aB v.l v.t x)) a)
section
variable {Q:Vk->PS->Prop}
end
structure Nd where
 s:Int
 g:Int
 v:Int
section
variable {p:PS} {a n g m:Int} {st:List Nd} {N:List Nt}
end
section
variable {Q:Vk->PS->Prop} {c n:Nat} {l:Lo} {ops:List Op} {j j':Jb} {b:Bool} {said:List (Int × Int)} {p p':PS} {x d:Rp} {e:Ca} {a:Ac}
end
section
variable {Q:Vk->PS->Prop} {c n:Nat} {l:Lo} {ops:List Op} {said:List (Int × Int)} {p:PS} {y:Rp} {a m val:Int} {st:List Nd}
end
section
variable {Q:Vk->PS->Prop} {v:Vk} {w:Wk} {p:PS} {x:Rp}
end
end Go.Proofs.YthomdlajobnmnaaGreatDoor
namespace Go.Proofs.YthomdlajobnmnaaGreatDoor
open Go.RowKit Go.Rex
theorem Y8 {k:Int} {l:Lo} {t:RT} {p:PS} {r:RS} (h:uU k l t p) (c:jh l t r) (d:k<=900000):uL r:=by
 have b:=h.ok
 have a:=c.keeps
 have e:=h.nl
 exact ⟨⟨⟨by rw [a.me];exact b.me.1,by rw [a.me];have:=b.me;have:=b.threads;omega⟩,by rw [a.threads];exact b.threads.1,by rw [a.threads];exact b.threads.2⟩,by rw [a.notes];omega⟩
theorem adL {k:Int} {w:Wd} (h:Wb k w) (f:0<=k) (e:k<=900001):smW w:=by
 obtain ⟨a,b,c,d⟩:=h
 exact ⟨by omega,by omega⟩
theorem ajg {k:Int} {l:Lo} {t:RT} {p:PS} {r:RS} {x:Rp} (h:uU k l t p) (g:jh l t r) (z:k<=900000) (y:t.aH≠0) (A:Wb (k+1) x.word):uM r x:=by
 have m:=g.more
 have j:=g.step
 have C:=h.fr
 have f:=h.mE
 have n:=h.k0
 have o:r.step=13->∃u seen,t=.dQ u seen:=λe=>by
  rw [j] at e
  cases t with
  | dQ c s=>exact ⟨_,_,rfl⟩
  | _=>cases e
 refine ⟨Y8 h g z,λe=>?_,λe=>?_,adL A (by omega) (by omega),by rw [g.freed];omega,λe=>?_,by rw [j];exact y,λe=>?_,λe=>?_⟩
 ·obtain ⟨u,seen,rfl⟩:=o e
  obtain ⟨a,b,c⟩:=m
  have D:seen.length<=60:=f.2
  rw [b,c]
  refine ⟨by omega,by omega,λB=>?_⟩
  rw [a (by rw [<-g.af];exact B)]
  exact adL (show Wb k u from h.tw) n (by omega)
 ·rw [j] at e
  cases t with
  | gF=>rw [g.af];exact f
  | _=>cases e
 ·rw [j] at e
  cases t with
  | fE d q =>
   refine ⟨d,q,m,?_⟩
   rw [g.notes]
   exact List.Sublist.subset f (List.mem_cons_self ..)
  | _=>cases e
 ·rw [j] at e
  cases t with
  | eD i =>
   rw [show r.index=i from m]
   exact f
  | _=>cases e
 ·rw [j] at e
  cases t with
  | bX c=>rw [show r.call=c from m];exact f
  | gp c w=>rw [show r.call=c from m.1];exact f.2
  | fA c a=>rw [show r.call=c from m];exact f
  | _=>rcases e with e | e | e <;> cases e
where
 an9 {Q:Vk->PS->Prop} {c m:Nat} {v:Vk} {p:PS} {x:Rp} (hF:Fin Q c m v p) (ht:v.t=.idle x) (hd:¬v.done):∃c' m',v.may x/\Fin Q c' m' (v.fQ x) p:=by
  cases m with
  | zero=>exact absurd hF.1 hd
  | succ m =>
   rcases hF with h | ⟨y,hy,hm,c',rfl,h⟩ | ⟨h0,-⟩
   ·exact absurd h.1 hd
   ·rw [ht] at hy
    cases hy
    exact ⟨c',m,hm,h⟩
   ·rw [ht] at h0
    exact absurd rfl h0
end Go.Proofs.YthomdlajobnmnaaGreatDoor
namespace Go.Proofs.YthomdlajobnmnaaGreatDoor.Sk
open Go.RowKit Go.Rex Gd
section
variable {S S':St} {n m:Nat} {e K:Int} {i:Nat} {x:Rp} {j:Jb} {v:Vk} {V J:Nat->Vk} {p p':PS} {w:Wk} {W:Nat->Wk}
def In (n:Nat) (e:Int) (p:PS) (i:Nat) (m:Nat) (k:Wk):Prop:=∃S V K,S.p=p/\VW (V i) k/\Sz n e K S V/\K+m<=800000
theorem ajh (f:i<n):Ce (In n e p i) where
 rt:=λm k ⟨S,V,K,g,a,Z,u⟩=>Y8 (Z.av i f).mH a.rep (by omega)
 len:=λm k ⟨S,V,K,g,a,Z,u⟩=>by
  have:=(Z.av i f).ops
  rw [a.ops]
  omega
 leave:=λm k ⟨S,V,K,g,a,Z,u⟩ l s c=>by
  obtain ⟨x,d⟩:=RT.zO (a.rep.step.symm.trans l)
  have hd:¬(V i).done:=λhd=>by
   have:=hd.2.2.1
   rw [<-a.aj,c] at this
   cases this
  obtain ⟨y,-,S',b,h⟩:=Z.fQ f d hd
  obtain ⟨t,r⟩:=a.leave (Z.av i f).mH.ok d (a.j.symm.trans s) (a.aj.symm.trans c)
  exact ⟨t,S',_,K+1,b.trans g,by rw [Gd.aG];exact r,h,by omega⟩
 start:=λm k ⟨S,V,K,g,a,Z,u⟩ l s c C A=>by
  obtain ⟨x,d⟩:=RT.zO (a.rep.step.symm.trans l)
  have hd:¬(V i).done:=λhd=>by
   have:=hd.2.2.2
   rw [<-a.ops,<-a.said] at this
   omega
  obtain ⟨y,-,S',b,h⟩:=Z.fQ f d hd
  have o:(V i).op.bP:=by
   unfold Vk.op
   rw [<-a.ops,<-a.said]
   exact A
  obtain ⟨t,r⟩:=a.start (Z.av i f).mH.ok d (a.j.symm.trans s) (a.aj.symm.trans c) o
  exact ⟨t,S',_,K+1,b.trans g,by rw [Gd.aG];exact r,h,by omega⟩
 bad:=λm k ⟨S,V,K,g,a,Z,u⟩ l s c C A=>by
  obtain ⟨x,d⟩:=RT.zO (a.rep.step.symm.trans l)
  have hd:¬(V i).done:=λhd=>by
   have:=hd.2.2.2
   rw [<-a.ops,<-a.said] at this
   omega
  obtain ⟨y,-,S',b,h⟩:=Z.fQ f d hd
  have o:¬(V i).op.bP:=by
   unfold Vk.op
   rw [<-a.ops,<-a.said]
   exact A
  exact ⟨S',_,K+1,b.trans g,by rw [Gd.aG];exact a.bad (a.j.symm.trans s) (a.aj.symm.trans c) o,h,by omega⟩
 next:=λm k j ⟨S,V,K,g,a,Z,u⟩ l s=>by
  obtain ⟨x,d⟩:=RT.zO (a.rep.step.symm.trans l)
  have q:=a.j.symm.trans s
  have hd:¬(V i).done:=λhd=>by
   have:=hd.2.1
   rw [q] at this
   cases this
  obtain ⟨y,-,S',b,h⟩:=Z.fQ f d hd
  have D:k.r.bS=x:=(a.idle d).2.2
  refine ⟨⟨K,⟨(Z.av i f).mH.k0,by omega⟩,by rw [D];exact Z.okJ f d q⟩,?_⟩
  rcases a.next (Z.av i f).mH.ok d q y with ⟨z,B,r⟩ | ⟨z,B,t,r⟩
  ·exact .inl ⟨z,B,S',_,K+1,b.trans g,by rw [Gd.aG];exact r,h,by omega⟩
  ·exact .inr ⟨z,B,t,S',_,K+1,b.trans g,by rw [Gd.aG];exact r,h,by omega⟩
theorem Tw.acc (T:Tw n e K p W) (E:K<=799000) (a:i<n):∃I,Ce I/\I 200 (W i)/\p.OK/\p.steps<=1000000/\∀k',(W i).go 200=(k',none)->k'.r.step≠0/\∃p' x,p.act k'.r.acc=(p',some x)/\uM k'.r x/\(k'.r.aB x).2=true:=by
 obtain ⟨S,V,rfl,Z,k⟩:=T.ex
 have t:=(Z.av i a).mH.st
 refine ⟨_,ajh a,⟨S,V,K,rfl,k i a,Z,by omega⟩,(Z.av i a).mH.Tz,by omega,λC u=>?_⟩
 have G:=adF (Z.av i a).ops
 obtain ⟨B,h,b,D,H,g,f,g2,r,F,A⟩:=go0 a 200 (k i a) Z (by omega)
 rw [u] at g
 simp only [Prod.mk.injEq] at g
 obtain ⟨rfl,rfl⟩:=g
 rcases A with ⟨q,-⟩ | ⟨-,c⟩
 ·cases q
 ·have d:=r.av i a
  have o:Gd.bD V i h i=h:=Gd.aG _ _ _
  obtain ⟨y,x,l,s,z⟩:=r.acc a (by rw [o];exact c)
  rw [o] at l s d
  rw [f.rep.acc c]
  exact ⟨by rw [f.rep.step];exact c,y.p,x,by rw [<-g2];exact l,ajg d.mH f.rep (by omega) c z,(f.aB d.mH.ok d.mH.mE c x).1⟩
end
end Go.Proofs.YthomdlajobnmnaaGreatDoor.Sk
namespace Go.Proofs.YthomdlajobnmnaaGreatDoor.Sk
open Go.RowKit Go.Rex
structure EF (w:World) (A:Nat) (B BP:Nat->Prop) (dU:Nat->Addr):Prop where
 d:∀x,BP x->¬B x
 bl:∀x,B x->x<w.heap.size
 pl:∀x,BP x->x<w.heap.size
 a:¬BP A/\A<w.heap.size
 sn:oz w dU
 z:∀k,k<8->¬B (dU k).block/\¬BP (dU k).block/\(dU k).block<w.heap.size
structure bO (w w':World) (b base A:Nat) (aP:Addr) (B BP:Nat->Prop) (k':Wk) (p':PS):Prop where
 ex:∃B' uX:Nat->Prop,kr w' aP p' uX/\bV w' b base A k' B'/\(∀x,uX x->BP x\/w.heap.size<=x)/\(∀x,B' x->B x\/w.heap.size<=x)/\(∀x,uX x->¬B' x)/\cK w (λx=>BP x\/B x) w'
section
variable {w T wb:World} {b base A:Nat} {k k':Wk} {U:Addr} {p p':PS} {B V:Nat->Prop} {W:Nat->Addr} {rb:Nat}
theorem bO.of (a:bV w b base A k B) (c:kr w U p V) (hd:∀x,V x->¬B x):bO w w b base A U B V k p :=
 ⟨B,V,c,a,λ_ h=>.inl h,λ_ h=>.inl h,hd,cK.refl _ _⟩
theorem bO.wk (h:bO w T b base A U B V k p):∃c,bV T b base A k c/\(∀x,c x->x<T.heap.size)/\∀wb k' B',bV wb b base A k' B'->(∀x,B' x->c x\/T.heap.size<=x)->cK T c wb->bO w wb b base A U B V k' p:=by
 obtain ⟨s,e,n,m,r,f,i,j⟩:=h.ex
 refine ⟨λx=>s x/\x<T.heap.size,m.mono λx p q=>⟨p,q⟩,λx a=>a.2,λwb k' B' o g2 l=>⟨B',λx=>e x/\x<T.heap.size,?_,o,λx a=>r x a.1,λx a=>?_,λx a d=>?_,qO j l λx a _=>(f x a.1).imp .inr id⟩⟩
 ·exact (n.mono (B':=λx=>e x/\x<T.heap.size) λx p q=>⟨p,q⟩).frame λx a=>l.block x a.2 λd=>i x a.1 d.1
 ·rcases g2 x a with g | g
  ·exact f x g.1
  ·exact .inr (Nat.le_trans j.size g)
 ·rcases g2 x d with g | g
  ·exact i x a.1 g.1
  ·exact absurd a.2 (Nat.not_lt.2 g)
theorem bO.pl (h:bO w T b base A U B V k p) (m:EF w A B V W):∃e,kr T U p e/\(∀x,e x->V x\/w.heap.size<=x)/\∀wb p' f,kr wb U p' f->(∀x,f x->T.heap.size<=x\/e x)->cK T e wb->bO w wb b base A U B V k p':=by
 obtain ⟨y,r,t,l,d,s,n,o⟩:=h.ex
 refine ⟨λx=>r x/\x<T.heap.size,t.mono λx p q=>⟨p,q⟩,λx a=>d x a.1,λwb p' f u g2 i=>⟨λx=>y x/\x<T.heap.size,f,u,l.frame (λx a c=>i.block x a λj=>n x j.1 c) (i.block _ l.self.2.2 λj=>?_) i.size,λx a=>?_,λx a=>s x a.1,λx a c=>?_,qO o i λx a _=>(d x a.1).imp .inl id⟩⟩
 ·exact (d _ j.1).elim m.a.1 λq=>absurd m.a.2 (Nat.not_lt.2 q)
 ·rcases g2 x a with g | g
  ·exact .inr (Nat.le_trans o.size g)
  ·exact d x g.1
 ·rcases g2 x a with g | g
  ·exact absurd c.2 (Nat.not_lt.2 g)
  ·exact n x g.1 c.1
theorem bO.nw (h:bO w T b base A U B V k p) (a:Nw T wb):bO w wb b base A U B V k p:=by
 obtain ⟨g,d,f,e⟩:=h.wk
 exact e wb k _ (d.nw a) (λx c=>.inl c.1) ⟨a.os,a.tape,a.output,a.size,λx c _=>a.block x c id⟩
theorem bO.cells (h:bO w T b base A U B V k p):∃(a:Nat) (f d:Value) (c:Sl A k.ops.length),T.cell? ⟨b,0,none⟩=some (.pointer (some ⟨a,0,none⟩))/\T.cell? ⟨b,1,none⟩=some (.slice c.1.1 k.ops.length c.1.2)/\T.cell? ⟨b,2,none⟩=some f/\T.cell? ⟨b,3,none⟩=some (.bool k.aj)/\T.cell? ⟨b,4,none⟩=some d/\∀i,T.frozen? ⟨b,i,none⟩=false:=by
 obtain ⟨g,e,-⟩:=h.wk
 exact e.cells
theorem bO.We (h:bO w T b base A U B V k p) (c:k.j=none):T.cell? ⟨b,2,none⟩=some (.pointer none):=by
 obtain ⟨d,a,-⟩:=h.wk
 exact a.We c
theorem bO.said (h:bO w T b base A U B V k p):∃a c,T.cell? ⟨b,4,none⟩=some (.slice a k.said.length c):=by
 obtain ⟨e,d,-⟩:=h.wk
 exact d.said
theorem bO.Wh (h:bO w T b base A U B V k p):∃c:Sl A k.ops.length,T.cell? ⟨b,1,none⟩=some (.slice c.1.1 k.ops.length c.1.2)/\pV T c.1.1 k.ops:=by
 obtain ⟨d,a,-⟩:=h.wk
 exact a.Wh
theorem bO.ge (h:bO w T b base A U B V k p):w.heap.size<=T.heap.size:=by
 obtain ⟨d,c,-,-,-,-,-,a⟩:=h.ex
 exact a.size
theorem xu {w:World} {a:Addr} {x y:Nat} (h:w.cell? a=some (.pointer (some ⟨x,0,none⟩))) (h':w.cell? a=some (.pointer (some ⟨y,0,none⟩))):x=y:=by
 have:=h.symm.trans h'
 simpa using this
theorem bO.busy (h:bO w T b base A U B V k p) (g:T.cell? ⟨b,0,none⟩=some (.pointer (some ⟨rb,0,none⟩))) :
  Calls Tryz.prog 36 #[.pointer (some ⟨rb,0,none⟩)] T λe w'=>e=.returned (.bool (decide (k.r.step≠0)))/\w'=T:=by
 obtain ⟨i,d,-⟩:=h.wk
 obtain ⟨c,a,f⟩:=d.alu
 obtain rfl:=xu g a
 exact f
theorem bO.begin (h:bO w T b base A U B V k p) (t:T.cell? ⟨b,0,none⟩=some (.pointer (some ⟨rb,0,none⟩))) (i:uL k.r) (d:k.r.step=0) {c:Ca} (n:c.OK) :
  Calls Tryz.prog 37 #[.pointer (some ⟨rb,0,none⟩),oG c] T λe w'=>e=.returned .nilIface/\bO w w' b base A U B V {k with r:=(k.r.begin c).1} p:=by
 obtain ⟨y,l,u,o⟩:=h.wk
 obtain ⟨j,a,f⟩:=l.ajd i d n
 obtain rfl:=xu t a
 exact f.mono λe w' ⟨s,g,m⟩=>⟨s,o _ _ _ g (λx q=>q) m⟩
theorem bO.next (h:bO w T b base A U B V k p) (n:T.cell? ⟨b,0,none⟩=some (.pointer (some ⟨rb,0,none⟩))) (j:k.r.step≠0) :
  Calls Tryz.prog 39 #[.pointer (some ⟨rb,0,none⟩)] T λe w'=>e=.returned (.tuple #[rZ k.r.acc,.bool true])/\bO w w' b base A U B V k p:=by
 obtain ⟨r,i,q,l⟩:=h.wk
 obtain ⟨f,a,m⟩:=i.alq j
 obtain rfl:=xu n a
 exact m.mono λe w' ⟨g,d,c⟩=>⟨g,l _ _ _ d (λx o=>o) c⟩
theorem bO.aB (h:bO w T b base A U B V k p) (n:T.cell? ⟨b,0,none⟩=some (.pointer (some ⟨rb,0,none⟩))) {x:Rp} (f:uM k.r x) :
  Calls Tryz.prog 40 #[.pointer (some ⟨rb,0,none⟩),iy x] T λe w'=>e=.returned .nilIface/\bO w w' b base A U B V {k with r:=(k.r.aB x).1} p:=by
 obtain ⟨s,j,q,l⟩:=h.wk
 obtain ⟨g,a,m⟩:=j.alr f
 obtain rfl:=xu n a
 exact m.mono λe w' ⟨i,d,c⟩=>⟨i,l _ _ _ d (λx o=>o) c⟩
theorem bO.ED (h:bO w T b base A U B V k p) {j:Jb} (c:k.j=some j):∃a,T.cell? ⟨b,2,none⟩=some (.pointer (some a)):=by
 obtain ⟨g,d,-⟩:=h.wk
 obtain ⟨a,f,e,-⟩:=d.jb c
 exact ⟨a,e⟩
theorem bO.doA (h:bO w T b base A U B V k p) (c:EF w A B V W) (i:p.OK) (g:p.steps<=1000000) {a:Ac} {x:Rp} (s:p.act a=(p',some x)) :
  Calls Tryz.prog 32 #[.pointer (some U),rZ a] T λe w'=>e=.returned (.tuple #[iy x,.nilIface])/\bO w w' b base A U B V k p':=by
 obtain ⟨D,n,m,r⟩:=h.pl c
 obtain ⟨C,z,-,-,-,-,-,l⟩:=h.ex
 have f:oz T W:=c.sn.frame l.size λj d=>l.block _ (c.z j d).2.2 λq=>q.elim (c.z j d).2.1 (c.z j d).1
 refine (ac8 f n (λj d q=>(m _ q).elim (c.z j d).2.1 λq=>absurd (c.z j d).2.2 (Nat.not_lt.2 q)) i g s).mono ?_
 rintro e w' ⟨t,y,o,g2,u⟩
 exact ⟨t,r _ _ _ o g2 u⟩
theorem bO.put (h:bO w T b base A U B V k p) (i:Nat) (x:Value) (j:Option Jb) (aj:Bool) (f:i=2->j=none/\x=.pointer none) (l:i=3->x=.bool aj) (a:i≠2->j=k.j) (c:i≠3->aj=k.aj) (d:i=2\/i=3) :
  bO w (T.setCell ⟨b,i,none⟩ x) b base A U B V {k with j:=j,aj:=aj} p:=by
 obtain ⟨n,e,o,g⟩:=h.wk
 exact g _ _ _ (e.put i x j aj f l a c d).2 (λx m=>.inl m) (e.setW i x)
theorem bO.abI (h:bO w T b base A U B V k p) (a:Nw T wb) {e:Addr} {j:Jb} {g:Nat->Prop} (l:lC wb e j g) (i:∀x,g x->T.heap.size<=x) :
  bO w (wb.setCell ⟨b,2,none⟩ (.pointer (some e))) b base A U B V {k with j:=some j} p:=by
 obtain ⟨o,f,r,m⟩:=h.wk
 have c:=(f.nw a).setW 2 (.pointer (some e))
 refine m _ _ _ (f.abI a l i).2 (λx d=>d) ⟨c.os.trans a.os,c.tape.trans a.tape,c.output.trans a.output,Nat.le_trans a.size c.size,λx d n=>(c.block x (Nat.lt_of_lt_of_le d a.size) λq=>n q.1).trans (a.block x d id)⟩
theorem bO.J9 (h:bO w T b base A U B V k p):∃f:Value,T.cell? ⟨b,4,none⟩=some f/\T.ownsRow base 39 2 f k.said.length (qH k.said) /\
  ∀r d i (x:Int × Int),Nw T r->r.grownBy d f.ownBlock->d.ownsRow base 39 2 i (k.said.length+1) (qH k.said ++ [.int .i64 x.1,.int .i64 x.2])->(i.ownBlock=f.ownBlock\/i.ownBlock=some r.heap.size) ->
   d.frozen? ⟨b,4,none⟩=false/\d.cell? ⟨b,4,none⟩=some f/\bO w (d.setCell ⟨b,4,none⟩ i) b base A U B V {k with said:=k.said ++ [x]} p:=by
 obtain ⟨G,E,K,C,M,F,D,m⟩:=h.ex
 obtain ⟨S,Q,z,c,O,R,J,-,-,-,P,-,-,-,H⟩:=C.ex
 obtain ⟨f,s1,s2,s3⟩:=C.J9
 have s:f=z:=by
  have:T.cell? ⟨b,4,none⟩=some z:=by
   unfold World.cell?
   rw [J]
   rfl
  exact Option.some.inj (s1.symm.trans this)
 refine ⟨f,s1,s2,λr d i x g j L N=>?_⟩
 obtain ⟨a1,a2,a3⟩:=s3 r d i x g j L N
 refine ⟨a1,a2,λy=>G y\/T.heap.size<=y,λy=>E y/\y<T.heap.size,?_,a3,λy a=>M y a.1,λy a=>?_,λy a t=>?_,?_⟩
 ·refine (K.mono (B':=λx=>E x/\x<T.heap.size) λx p q=>⟨p,q⟩).frame λy a=>?_
  have l:y≠b:=λe=>D y a.1 (e ▸ C.self.1)
  have n:f.ownBlock≠some y:=λe=>D y a.1 (H y (.inr (.inr (.inr (s ▸ e)))))
  exact (heap_setCell_other d ⟨b,4,none⟩ y _ l).trans ((j.block y (Nat.lt_of_lt_of_le a.2 g.size) λe=>n e.symm).trans (g.block y a.2 id))
 ·rcases a with a | a
  ·exact F y a
  ·exact .inr (Nat.le_trans m.size a)
 ·rcases t with t | t
  ·exact D y a.1 t
  ·exact absurd a.2 (Nat.not_lt.2 t)
 ·have e:(d.setCell ⟨b,4,none⟩ i).heap.size=d.heap.size:=by simp [World.setCell]
  refine ⟨j.os.trans (g.os.trans m.os),j.tape.trans (g.tape.trans m.tape),j.output.trans (g.output.trans m.output),by rw [e];exact Nat.le_trans m.size (Nat.le_trans g.size j.size),λy a o=>?_⟩
  have u:y<T.heap.size:=Nat.lt_of_lt_of_le a m.size
  have I:¬G y:=λq=>(F y q).elim (λq=>o (.inr q)) λq=>absurd a (Nat.not_lt.2 q)
  have l:y≠b:=λe=>I (e ▸ C.self.1)
  have n:f.ownBlock≠some y:=λe=>I (H y (.inr (.inr (.inr (s ▸ e)))))
  exact (heap_setCell_other d ⟨b,4,none⟩ y _ l).trans ((j.block y (Nat.lt_of_lt_of_le u g.size) λe=>n e.symm).trans ((g.block y u id).trans (m.block y a o)))
end
structure Wx (wr wx:World) (X:Nat->Prop) (b base A:Nat) (Ba:Nat->Prop) (k:Wk):Prop where
 ex:∃B':Nat->Prop,bV wx b base A k B'/\∀x,B' x->(Ba x\/wr.heap.size<=x)/\¬X x/\x<wx.heap.size
 Ra:cK wr Ba wx
 nx:∀x,X x->wr.heap.size<=x/\x<wx.heap.size
 a:A<wr.heap.size
section
variable {w wr D w':World} {X:Nat->Prop} {b base A rb:Nat} {E B F:Nat->Prop} {k k':Wk} {G:Addr} {p:PS}
theorem Wx.of (h:bV wr b base A k E) (c:∀x,E x->x<wr.heap.size):Wx wr wr (λ_=>False) b base A E k :=
 ⟨⟨E,h,λx a=>⟨.inl a,id,c x a⟩⟩,cK.refl _ _,λ_ h=>h.elim,h.self.2.2⟩
theorem Wx.alloc (h:Wx wr D X b base A E k) (o:Obj):Wx wr (D.alloc o) (λx=>X x\/x=D.heap.size) b base A E k:=by
 obtain ⟨i,g,c⟩:=h.ex
 have f:Nw D (D.alloc o):=(cK.refl _ _).alloc o
 have d:(D.alloc o).heap.size=D.heap.size+1:=by simp
 refine ⟨⟨_,g.nw f,λx a=>⟨(c x a.1).1,λq=>q.elim (c x a.1).2.1 λe=>by have:=a.2;omega,by rw [d];have:=a.2;omega⟩⟩,Y7 h.Ra f,λx a=>?_,h.a⟩
 rw [d]
 rcases a with a | rfl
 ·have:=h.nx x a
  omega
 ·have:=h.Ra.size
  omega
theorem Wx.drew (h:Wx wr D X b base A E k):Wx wr D.drew X b base A E k:=by
 obtain ⟨f,d,c⟩:=h.ex
 have a:Nw D D.drew:=Nw.drew (cK.refl _ _)
 exact ⟨⟨_,d.nw a,λx e=>c x e.1⟩,Y7 h.Ra a,h.nx,h.a⟩
theorem Wx.wM {B':Nat->Prop} (h:Wx wr D X b base A E k) (c:∀x,B' x->(E x\/wr.heap.size<=x)/\¬X x/\x<D.heap.size) (e:bV w' b base A k' (λx=>B' x\/D.heap.size<=x)) (d:cK D B' w') :
  Wx wr w' X b base A E k'/\∀x,X x->w'.heap[x]?=D.heap[x]?:=by
 refine ⟨⟨⟨λx=>(B' x\/D.heap.size<=x)/\x<w'.heap.size,e.mono λx p q=>⟨p,q⟩,λx a=>?_⟩,qO h.Ra d λx a _=>(c x a).1,λx a=>⟨(h.nx x a).1,Nat.lt_of_lt_of_le (h.nx x a).2 d.size⟩,h.a⟩,λx a=>d.block x (h.nx x a).2 λq=>(c x q).2.1 a⟩
 rcases a.1 with g | g
 ·exact ⟨(c x g).1,(c x g).2.1,a.2⟩
 ·exact ⟨.inr (Nat.le_trans h.Ra.size g),λq=>absurd (h.nx x q).2 (Nat.not_lt.2 g),a.2⟩
theorem Wx.bS (h:Wx wr D X b base A E k) (q:D.cell? ⟨b,0,none⟩=some (.pointer (some ⟨rb,0,none⟩))) :
  Calls Tryz.prog 38 #[.pointer (some ⟨rb,0,none⟩)] D λe w'=>e=.returned (iy k.r.bS)/\Wx wr w' X b base A E k/\(∀x,X x->w'.heap[x]?=D.heap[x]?)/\∀i,w'.cell? ⟨b,i,none⟩=D.cell? ⟨b,i,none⟩:=by
 obtain ⟨r,n,l⟩:=h.ex
 obtain ⟨g,c,o⟩:=n.bS
 obtain rfl:=xu q c
 refine o.mono λe w' ⟨m,f,d,a⟩=>?_
 obtain ⟨j,g2⟩:=h.wM l f d
 exact ⟨m,j,g2,λi=>by unfold World.cell?;rw [a]⟩
theorem Wx.next (h:Wx wr D X b base A E k) {g:Addr} {j j':Jb} {c:Ca} {x:Rp} (z:D.cell? ⟨b,2,none⟩=some (.pointer (some g))) (y:k.j=some j) (o:OkT j x) (u:j.next x=(j',c)) :
  Calls Tryz.prog 56 #[.pointer (some g),iy x] D λe w'=>e=.returned (oG c)/\Wx wr w' X b base A E {k with j:=some j'}/\(∀x,X x->w'.heap[x]?=D.heap[x]?)/\∀i,w'.cell? ⟨b,i,none⟩=D.cell? ⟨b,i,none⟩:=by
 obtain ⟨C,s,n⟩:=h.ex
 obtain ⟨f,d,q⟩:=s.als (x:=x) y o
 obtain rfl:g=f:=by
  have:=z.symm.trans d
  simpa using this
 refine q.mono λe w' ⟨m,r,t,a⟩=>?_
 obtain ⟨l,g2⟩:=h.wM n r t
 rw [u] at m l
 exact ⟨m,l,g2,λi=>by unfold World.cell?;rw [a]⟩
theorem Wx.afj (h:Wx wr D X b base A E k) (c:cK D X w'):Wx wr w' X b base A E k:=by
 obtain ⟨g,e,d⟩:=h.ex
 refine ⟨⟨_,e.frame (λx a f=>c.block x a (d x f).2.1) (c.block _ e.self.2.2 λq=>?_) c.size,λx a=>⟨(d x a.1).1,(d x a.1).2.1,Nat.lt_of_lt_of_le a.2 c.size⟩⟩,qO h.Ra c λx a _=>.inr (h.nx x a).1,λx a=>⟨(h.nx x a).1,Nat.lt_of_lt_of_le (h.nx x a).2 c.size⟩,h.a⟩
 exact absurd h.a (Nat.not_lt.2 (h.nx _ q).1)
theorem Wx.out (h:Wx wr D X b base A E k') (a:∀wb k' B',bV wb b base A k' B'->(∀x,B' x->E x\/wr.heap.size<=x)->cK wr E wb->bO w wb b base A G B F k' p):bO w D b base A G B F k' p:=by
 obtain ⟨B',d,c⟩:=h.ex
 exact a _ _ _ d (λx e=>(c x e).1) h.Ra
end
theorem caV (k:Int):oG (Ca.of k)=.agg #[.int .i64 k,.int .i64 0,.int .i64 0,.int .i64 0,.int .i64 0,.int .i64 0,.int .i64 0,.int .i64 0,.bool false,.int .i64 0,.int .i64 0,.int .i64 0,.int .i64 0,.bool false,.int .i64 0,.int .i64 0,.int .i64 0,.int .i64 0]:=rfl
theorem Ie (w:World) (o:Obj):(w.alloc o).heap[w.heap.size]?=some o:=by
 show (w.heap.push o)[w.heap.size]?=some o
 simp
theorem Ua:(Tryz.prog.info? 39).map (λi=>(i.zero,i.size,i.bytes))=some (some (.agg #[.int .i64 0,.int .i64 0]),2,16):=by kernel_rfl
noncomputable def Za (f:Func) (p:List Nat):Code:=(Code.at (f.body.getD .skip) p).getD .skip
noncomputable def Kb:Code:=Za Tryz.f26 [1,0,1,0,0]
noncomputable def Zb:Code:=Za Tryz.f26 [1,1]
end Go.Proofs.YthomdlajobnmnaaGreatDoor.Sk
