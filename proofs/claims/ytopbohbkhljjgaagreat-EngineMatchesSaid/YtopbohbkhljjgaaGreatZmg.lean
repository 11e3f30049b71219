import Derived.Test.YtopbohbkhljjgaaGreatZmf
set_option linter.unusedVariables false
set_option linter.unusedSimpArgs false
set_option linter.unusedSectionVars false
set_option maxRecDepth 100000
set_option maxHeartbeats 8000000
namespace Go.Proofs.YtopbohbkhljjgaaGreat
section
def zk11:ZK:=⟨[0,1,2,4,5,6,7,9,17,38,42,46,47,48,49,66],[⟨4,[8],[],[(8,[9])],[0,1,2,3,4,5,6,7,9,8,10,11]⟩,⟨12,[2,5,6,10,12],[],[(2,[3,4]),(10,[11])],[0,1,3,4,2,5,6,7,8,9,11,10,12,13,14]⟩],[]⟩
def zk20:ZK:=⟨[0,1,4,5,10,12,13,14,24],[⟨6,[],[],[],[0,1,2,3,4,5,6,7,8]⟩],[]⟩
def zk28:ZK:=⟨[0,1,2,3,6],[⟨3,[2,7,10,13,14,15,18,21,24,27,29],[],[(2,[4,5,6,8,9,11,12,16,17,19,20,22,23,25,26]),(7,[4,8,9,11,12,16,17,19,20,22,23,25,26,3]),(10,[4,11,12,16,17,19,20,22,23,25,26,3]),(13,[4,16,17,19,20,22,23,25,26,3]),(14,[4,16,17,19,20,22,23,25,26,3]),(15,[4,16,17,19,20,22,23,25,26,3]),(18,[4,19,20,22,23,25,26,3]),(21,[4,22,23,25,26,3]),(24,[4,25,26,3]),(27,[4,3])],[0,1,4,5,6,8,9,11,12,16,17,19,20,22,23,25,26,2,3,7,10,13,14,15,18,21,24,27,28,29,30,31]⟩],[]⟩
def zk29:ZK:=⟨[0,1,2,4,37],[],[]⟩
def zk30:ZK:=⟨[0,1,2,3,4,5,16,36,37,38,44],[],[]⟩
def zk31:ZK:=⟨[0,1,3,4,5,6,7,9,14,38,44],[⟨11,[7,12,13,14],[],[(7,[0,1,2,8,9,10,11]),(12,[0,1,2])],[0,1,2,3,4,5,6,8,9,10,11,7,12,13,14]⟩,⟨12,[9,14,15,16],[],[(9,[0,1,2,3,4,10,11,12,13]),(14,[0,1,2,3,4])],[0,1,2,3,4,5,6,7,8,10,11,12,13,9,14,15,16]⟩],[]⟩
def zk33:ZK:=⟨[0,2,3,5],[⟨4,[4,9,15,27,32,37,42,47,52,57,62,67,69],[],[(4,[5,6,7,8,10,11,12,13,14,16,17,18,19,20,21,22,23,24,25,26,28,29,30,31,33,34,35,36,38,39,40,41,43,44,45,46,48,49,50,51,53,54,55,56,58,59,60,61,63,64,65,66]),(9,[10,11,12,13,14,16,17,18,19,20,21,22,23,24,25,26,28,29,30,31,33,34,35,36,38,39,40,41,43,44,45,46,48,49,50,51,53,54,55,56,58,59,60,61,63,64,65,66]),(15,[16,17,18,19,20,21,22,23,24,25,26,28,29,30,31,33,34,35,36,38,39,40,41,43,44,45,46,48,49,50,51,53,54,55,56,58,59,60,61,63,64,65,66]),(27,[16,17,18,19,20,21,28,29,30,31,33,34,35,36,38,39,40,41,43,44,45,46,48,49,50,51,53,54,55,56,58,59,60,61,63,64,65,66]),(32,[16,17,18,19,20,21,33,34,35,36,38,39,40,41,43,44,45,46,48,49,50,51,53,54,55,56,58,59,60,61,63,64,65,66]),(37,[16,17,18,19,20,21,38,39,40,41,43,44,45,46,48,49,50,51,53,54,55,56,58,59,60,61,63,64,65,66]),(42,[16,17,18,19,20,21,43,44,45,46,48,49,50,51,53,54,55,56,58,59,60,61,63,64,65,66]),(47,[16,17,18,19,20,21,48,49,50,51,53,54,55,56,58,59,60,61,63,64,65,66]),(52,[16,17,18,19,20,21,53,54,55,56,58,59,60,61,63,64,65,66]),(57,[16,17,18,19,20,21,58,59,60,61,63,64,65,66]),(62,[16,17,18,19,20,21,63,64,65,66]),(67,[16,17,18,19,20,21])],[0,1,2,3,5,6,7,8,10,11,12,13,14,16,17,18,19,20,21,22,23,24,25,26,28,29,30,31,33,34,35,36,38,39,40,41,43,44,45,46,48,49,50,51,53,54,55,56,58,59,60,61,63,64,65,66,4,9,15,27,32,37,42,47,52,57,62,67,68,69]⟩],[]⟩
def zk35:ZK:=⟨[0,1,4,5,7,8,9,10,11],[],[]⟩
def zk39:ZK:=⟨[0,2,3,4,5,11],[],[]⟩
def zk41:ZK:=⟨[0,2,3,4,8,16],[],[]⟩
def zk42:ZK:=⟨[0,2,4],[],[]⟩
def zk43:ZK:=⟨[0,1,2],[],[]⟩
def zk44:ZK:=⟨[0,1,2,3,4,5,6,71,76,89,94,107],[⟨6,[],[],[],[0,1,2,3,4,5,6,7,8,9,10]⟩,⟨11,[],[],[],[0,1,2,3,4,5,6,7,8,9,10]⟩],[]⟩
def zk45:ZK:=⟨[0,1,3,4,6,7,12,17,22,27,33],[],[]⟩
def zk46:ZK:=⟨[0,1,2,4,5,84,132,158],[⟨1,[6],[],[],[0,1,2,3,4,5,6,7]⟩,⟨2,[23,69],[],[(69,[63,64])],[0,1,2,3,4,5,6,7,8,9,10,11,12,13,14,15,16,17,18,19,20,21,22,23,24,25,26,27,28,29,30,31,32,33,34,35,36,37,38,39,40,41,42,43,44,45,46,47,48,49,50,51,52,53,54,55,56,57,58,59,60,61,62,63,64,65,66,67,68,69,70,71]⟩,⟨4,[6,18,31,41],[],[],[0,1,2,3,4,5,6,7,8,9,10,11,12,13,14,15,16,17,18,19,20,21,22,23,24,25,26,27,28,29,30,31,32,33,34,35,36,37,38,39,40,41,42,43,44,45,46,47]⟩,⟨6,[23],[],[(23,[20,21])],[0,1,2,3,4,5,6,7,8,9,10,11,12,13,14,15,16,17,18,19,20,21,22,23,24,25]⟩],[]⟩
def zk52:ZK:=⟨[0,1,2],[],[]⟩
def zk53:ZK:=⟨[0,2,8],[],[]⟩
def zk54:ZK:=⟨[0,2,4],[],[]⟩
def zk55:ZK:=⟨[0,2],[],[]⟩
def zk56:ZK:=⟨[0,2,8],[],[]⟩
def zk57:ZK:=⟨[0],[],[]⟩
def zk58:ZK:=⟨[0],[],[]⟩
def zk59:ZK:=⟨[0,2,3,4,10,13,14],[⟨7,[3,8],[],[(3,[0,1,4,5,6])],[0,1,2,4,5,6,3,7,8]⟩],[]⟩
def zk60:ZK:=⟨[0,2,8],[],[]⟩
def zk61:ZK:=⟨[0,2,8],[],[]⟩
def zk62:ZK:=⟨[0,2,8],[],[]⟩
def zk63:ZK:=⟨[0,1,4,5,10,12,13,14,24],[⟨6,[],[],[],[0,1,2,3,4,5,6,7,8]⟩],[]⟩
def zk64:ZK:=⟨[0,1,2,3,4,8],[],[]⟩
def zk65:ZK:=⟨[0,1,3,4,5,6,7,8,13],[⟨5,[5,10,11,13],[12],[(5,[0,6,7,8,9]),(10,[0])],[0,1,2,3,4,6,7,8,9,5,10,11,12,13]⟩],[]⟩
def zk66:ZK:=⟨[0,1,3,4,5,6,8,28,42,58],[⟨1,[],[],[],[0,1,2,3,4,5,6,7,8,9,10,11,12,13,14,15,16,17,18]⟩,⟨3,[5],[],[(5,[6,7,8,9,10])],[0,1,2,3,4,6,7,8,9,10,5,11,12]⟩,⟨7,[6],[],[],[0,1,2,3,4,5,6,7]⟩,⟨10,[8],[],[],[0,1,2,3,4,5,6,7,8,9,10,11,12,13]⟩],[]⟩
def zk67:ZK:=⟨[0,1,3,4],[],[]⟩
def zk68:ZK:=⟨[0,1,3,4],[],[]⟩
def zk69:ZK:=⟨[0,1,3,4,5,6,7,8,9,22,44,57,60,78,79,88],[⟨1,[7,12],[11],[(12,[10])],[0,1,2,3,4,5,6,7,8,9,10,11,12,13]⟩,⟨4,[5,10,16],[15],[(5,[0,6,7,8,9]),(16,[13,14])],[0,1,2,3,4,6,7,8,9,5,10,11,12,13,14,15,16,17,18]⟩,⟨11,[7],[],[],[0,1,2,3,4,5,6,7]⟩,⟨15,[6],[],[],[0,1,2,3,4,5,6]⟩,⟨17,[8],[],[],[0,1,2,3,4,5,6,7,8]⟩],[]⟩
def zk70:ZK:=⟨[0,1,3,4,5,22,36],[⟨1,[5,14],[],[(5,[6,7,8,9,10,11,12,13])],[0,1,2,3,4,6,7,8,9,10,11,12,13,5,14,15]⟩,⟨4,[9,10],[],[(9,[0,1,2,3])],[0,1,2,3,4,5,6,7,8,9,10,11]⟩],[]⟩
def zk71:ZK:=⟨[0,1,3,4,5,6,21,31],[⟨2,[5,7],[],[(5,[6])],[0,1,2,3,4,6,5,7,8]⟩,⟨5,[5,6],[],[(5,[0,1,2,3])],[0,1,2,3,4,5,6,7]⟩],[]⟩
def zk72:ZK:=⟨[0,2],[],[]⟩
def zk73:ZK:=⟨[0,2,4],[],[]⟩
def zk74:ZK:=⟨[0,2,4],[⟨3,[3,8],[],[(3,[4,5,6,7])],[0,1,2,4,5,6,7,3,8,9]⟩],[]⟩
def zk75:ZK:=⟨[0,1,2,3,4,5,10],[],[]⟩
def zk76:ZK:=⟨[0,1,4,5,13],[],[]⟩
def zk77:ZK:=⟨[0,2,4],[],[]⟩
def zk78:ZK:=⟨[0,2,4],[],[]⟩
def zk79:ZK:=⟨[0,2,4],[],[]⟩
def zk80:ZK:=⟨[0,2,3,4,5,8,9,10],[],[]⟩
def zk81:ZK:=⟨[0,1,4],[],[]⟩
def zk82:ZK:=⟨[0,2,3,4,5,8,9,10],[],[]⟩
def zk83:ZK:=⟨[0,2,3,4,5,8,9,10],[],[]⟩
def zk84:ZK:=⟨[0,2,4],[],[]⟩
def zk85:ZK:=⟨[0,2,4],[],[]⟩
def zk86:ZK:=⟨[0,2,4],[],[]⟩
def zk87:ZK:=⟨[0,1,4,5,10,12,13,14,24],[⟨6,[],[],[],[0,1,2,3,4,5,6,7,8]⟩],[]⟩
def zk89:ZK:=⟨[0,2,3,4,5,9,19],[⟨5,[4],[],[(4,[0,1,2,3,5])],[0,1,2,3,5,4,6,7]⟩],[]⟩
def zk90:ZK:=⟨[0,2,3,4,8],[],[]⟩
def zk91:ZK:=⟨[0,2,3,4,6,7,8,9,10,17],[],[]⟩
def zk92:ZK:=⟨[0,2],[],[]⟩
def zk93:ZK:=⟨[0,1,3,4,5,23,38,53,66],[⟨1,[],[],[],[0,1,2,3,4,5,6,7,8,9,10,11,12,13,14,15,16,17]⟩,⟨3,[],[],[],[0,1,2,3,4,5,6,7,8,9,10]⟩,⟨5,[],[],[],[0,1,2,3,4,5,6,7,8,9,10]⟩,⟨7,[6],[],[],[0,1,2,3,4,5,6,7]⟩,⟨12,[9,10],[],[],[0,1,2,3,4,5,6,7,8,9,10]⟩],[⟨10,[1,6,10,11,14],[],(.cons 0 [] (.cons 2 [] (.cons 3 [] (.cons 4 [] (.cons 5 [] (.cons 7 [] (.cons 8 [] (.cons 9 [] (.alt (.cons 1 [0,2,3,4,5,7,8,9] (.alt (.cons 6 [0,7,8,9] (.cons 10 [0,2,3,4,5] (.cons 11 [0] (.cons 12 [] (.cons 13 [] (.cons 14 [] .nil)))))) (.cons 10 [0,2,3,4,5] (.cons 6 [0,7,8,9] (.cons 11 [0] (.cons 12 [] (.cons 13 [] (.cons 14 [] .nil)))))))) (.cons 10 [0,2,3,4,5] (.cons 1 [0,2,3,4,5,7,8,9] (.cons 6 [0,7,8,9] (.cons 11 [0] (.cons 12 [] (.cons 13 [] (.cons 14 [] .nil))))))))))))))))⟩,⟨11,[1,6,13,14,17],[],(.cons 0 [] (.cons 2 [] (.cons 3 [] (.cons 4 [] (.cons 5 [] (.cons 7 [] (.cons 8 [] (.cons 9 [] (.cons 10 [] (.cons 11 [] (.cons 12 [] (.alt (.cons 1 [0,2,3,4,5,7,8,9,10,11,12] (.alt (.cons 6 [0,7,8,9,10,11,12] (.cons 13 [0,2,3,4,5] (.cons 14 [0] (.cons 15 [] (.cons 16 [] (.cons 17 [] .nil)))))) (.cons 13 [0,2,3,4,5] (.cons 6 [0,7,8,9,10,11,12] (.cons 14 [0] (.cons 15 [] (.cons 16 [] (.cons 17 [] .nil)))))))) (.cons 13 [0,2,3,4,5] (.cons 1 [0,2,3,4,5,7,8,9,10,11,12] (.cons 6 [0,7,8,9,10,11,12] (.cons 14 [0] (.cons 15 [] (.cons 16 [] (.cons 17 [] .nil)))))))))))))))))))⟩]⟩
def zk94:ZK:=⟨[0,1,2,4,6,7,8,9,10,23,45,63,77],[⟨1,[],[],[],[0,1,2,3,4,5,6,7,8,9,10,11,12]⟩,⟨3,[12,17],[16],[(17,[15])],[0,1,2,3,4,5,6,7,8,9,10,11,12,13,14,15,16,17,18]⟩,⟨6,[5],[],[(5,[7,8,9,10,11])],[0,1,2,3,4,7,8,9,10,11,5,6,12]⟩,⟨12,[8,11],[],[(8,[0])],[0,1,2,3,4,5,6,7,8,9,10,11]⟩,⟨13,[7],[],[],[0,1,2,3,4,5,6,7]⟩],[]⟩
def zk95:ZK:=⟨[0,1,3,4,5,6,7,8,21,70,72,97],[⟨1,[],[],[],[0,1,2,3,4,5,6,7,8,9,10,11,12]⟩,⟨3,[8,9],[],[(8,[0,1,2,3,4,5,6,7])],[0,1,2,3,4,5,6,7,8,9]⟩,⟨4,[9,15],[14],[(15,[12,13])],[0,1,2,3,4,5,6,7,8,9,10,11,12,13,14,15,16,17]⟩,⟨5,[],[],[],[0,1,2,3,4,5,6,7,8,9,10,11,12,13,14,15,16,17,18,19,20,21,22]⟩,⟨9,[8,11],[],[(8,[0])],[0,1,2,3,4,5,6,7,8,9,10,11]⟩,⟨12,[6],[],[],[0,1,2,3,4,5,6]⟩],[]⟩
def zk96:ZK:=⟨[0,1,3,4,5,6,7,26,55,57,65],[⟨2,[5],[],[],[0,1,2,3,4,5,6]⟩,⟨5,[12],[],[],[0,1,2,3,4,5,6,7,8,9,10,11,12,13]⟩],[⟨12,[1,6,12,13,16],[],(.cons 0 [] (.cons 2 [] (.cons 3 [] (.cons 4 [] (.cons 5 [] (.cons 7 [] (.cons 8 [] (.cons 9 [] (.cons 10 [] (.cons 11 [] (.alt (.cons 1 [0,2,3,4,5,7,8,9,10,11] (.alt (.cons 6 [0,7,8,9,10,11] (.cons 12 [0,2,3,4,5] (.cons 13 [0] (.cons 14 [] (.cons 15 [] (.cons 16 [] .nil)))))) (.cons 12 [0,2,3,4,5] (.cons 6 [0,7,8,9,10,11] (.cons 13 [0] (.cons 14 [] (.cons 15 [] (.cons 16 [] .nil)))))))) (.cons 12 [0,2,3,4,5] (.cons 1 [0,2,3,4,5,7,8,9,10,11] (.cons 6 [0,7,8,9,10,11] (.cons 13 [0] (.cons 14 [] (.cons 15 [] (.cons 16 [] .nil))))))))))))))))))⟩,⟨13,[1,6,8,9,12],[],(.cons 0 [] (.cons 2 [] (.cons 3 [] (.cons 4 [] (.cons 5 [] (.cons 7 [] (.alt (.cons 1 [0,2,3,4,5,7] (.alt (.cons 6 [0,7] (.cons 8 [0,2,3,4,5] (.cons 9 [0] (.cons 10 [] (.cons 11 [] (.cons 12 [] .nil)))))) (.cons 8 [0,2,3,4,5] (.cons 6 [0,7] (.cons 9 [0] (.cons 10 [] (.cons 11 [] (.cons 12 [] .nil)))))))) (.cons 8 [0,2,3,4,5] (.cons 1 [0,2,3,4,5,7] (.cons 6 [0,7] (.cons 9 [0] (.cons 10 [] (.cons 11 [] (.cons 12 [] .nil))))))))))))))⟩]⟩
def zk97:ZK:=⟨[0,2,3,4,5,6,7,8,9,11,30,104,154],[⟨3,[],[],[],[0,1,2,3,4,5,6,7,8,9,10]⟩,⟨7,[13,20,22],[],[(13,[0]),(20,[16,17]),(22,[17])],[0,1,2,3,4,5,6,7,8,9,10,11,12,13,14,15,16,17,18,19,20,21,22,23]⟩,⟨11,[6,23,32],[],[(6,[0,1,2,3,4,7,8,9,10,11,12,13,14,15,16,17,18,19,20,21,22]),(23,[0])],[0,1,2,3,4,5,7,8,9,10,11,12,13,14,15,16,17,18,19,20,21,22,6,23,24,25,26,27,28,29,30,31,32]⟩,⟨15,[14,20],[19],[(20,[17,18])],[0,1,2,3,4,5,6,7,8,9,10,11,12,13,14,15,16,17,18,19,20,21,22]⟩,⟨16,[10,13],[],[(10,[0])],[0,1,2,3,4,5,6,7,8,9,10,11,12,13]⟩,⟨17,[8,9,11],[],[(8,[0,1])],[0,1,2,3,4,5,6,7,8,9,10,11]⟩,⟨21,[10],[],[],[0,1,2,3,4,5,6,7,8,9,10]⟩],[]⟩
def zk98:ZK:=⟨[0,1,2,6],[⟨1,[11],[],[],[0,1,2,3,4,5,6,7,8,9,10,11]⟩],[]⟩
def zk99:ZK:=⟨[0,1,2,6,7,8,9,14,15,16,17,18,30],[],[]⟩
def zk100:ZK:=⟨[0,1,2,3,4],[],[]⟩
def zk101:ZK:=⟨[0,1,4,5,10,14,25],[⟨6,[],[],[],[0,1,2,3,4,5,6,7,8]⟩],[]⟩
def zk102:ZK:=⟨[0,2,3,4,5,12,34],[],[]⟩
def zk111:ZK:=⟨[0,2],[],[]⟩
def zk136:ZK:=⟨[0,1,2,3,4,5,6,7,14],[],[]⟩
def zk137:ZK:=⟨[0,2,4],[⟨4,[3],[],[(3,[4,5,6,7])],[0,1,2,4,5,6,7,3,8,9,10]⟩],[]⟩
def zk138:ZK:=⟨[0,2,3,5,6,7,9,10,20,21,22,23,70,71,72,73],[⟨9,[5,16],[],[(5,[6,7,8,9,10,11,12,13,14,15])],[0,1,2,3,4,6,7,8,9,10,11,12,13,14,15,5,16,17]⟩,⟨11,[9,10],[],[(9,[0,1,2,3,4,12]),(10,[12])],[0,1,2,3,4,5,6,7,8,12,9,10,11]⟩,⟨16,[5,15,20],[],[(5,[6,7,8,9,10,11,12,13,14,16,17,18,19]),(15,[16,17,18,19])],[0,1,2,3,4,6,7,8,9,10,11,12,13,14,16,17,18,19,5,15,20,21,22,23,24,25]⟩],[]⟩
def zk139:ZK:=⟨[0,2,3,4,5,6,7,8,9,10,11,13,14,15,18,50,51,52,53,88,89,90,91,122,123,124,125],[⟨1,[5,15,20],[],[(5,[6,7,8,9,10,11,12,13,14,16,17,18,19]),(15,[16,17,18,19])],[0,1,2,3,4,6,7,8,9,10,11,12,13,14,16,17,18,19,5,15,20,21,22,23,24,25,26,27]⟩,⟨9,[20],[],[],[0,1,2,3,4,5,6,7,8,9,10,11,12,13,14,15,16,17,18,19,20,21,22,23,24,25]⟩,⟨13,[8,9,15],[14],[(8,[0,1,2,3]),(15,[12,13])],[0,1,2,3,4,5,6,7,8,9,10,11,12,13,14,15,16,17]⟩,⟨14,[6],[],[],[0,1,2,3,4,5,6]⟩,⟨20,[6],[],[],[0,1,2,3,4,5,6]⟩],[]⟩
def zk140:ZK:=⟨[0,2,4],[],[]⟩
def zk141:ZK:=⟨[0,2,4],[⟨3,[],[],[],[0,1,2,3,4,5,6,7,8,9]⟩],[]⟩
def zk142:ZK:=⟨[0,1,4,5,6,8,19,33],[⟨3,[8],[],[(8,[0,1,2,3,4])],[0,1,2,3,4,5,6,7,8,9,10]⟩],[]⟩
def zk143:ZK:=⟨[0,1,3,4,5,7,9,19,32],[⟨3,[],[],[],[0,1,2,3,4,5,6,7,8,9]⟩,⟨5,[6,7],[],[],[0,1,2,3,4,5,6,7,8,9,10,11,12]⟩,⟨9,[6,7,10],[],[(6,[0,1,2,3,4]),(7,[0])],[0,1,2,3,4,5,6,7,8,9,10]⟩],[]⟩
def zk144:ZK:=⟨[0,1,4,5,7,15,16,17,18],[⟨6,[21],[],[],[0,1,2,3,4,5,6,7,8,9,10,11,12,13,14,15,16,17,18,19,20,21]⟩],[]⟩
def zk145:ZK:=⟨[0,1,4],[],[]⟩
def zk146:ZK:=⟨[0,1,2,6,7,8,9,10,11,12,13,14,26,39,48,86],[⟨4,[5,6,11],[10],[(5,[0]),(11,[9])],[0,1,2,3,4,5,6,7,8,9,10,11,12]⟩,⟨9,[4,10,11],[],[(4,[5,6,7,8,9])],[0,1,2,3,5,6,7,8,9,4,10,11,12,13,14,15,16]⟩,⟨10,[4,12],[],[(4,[5,6,7,8,9,10,11])],[0,1,2,3,5,6,7,8,9,10,11,4,12,13,14,15,16,17]⟩,⟨14,[6],[],[],[0,1,2,3,4,5,6]⟩],[]⟩
def zk148:ZK:=⟨[0,1,4],[],[]⟩
def zk149:ZK:=⟨[0,1,2,3,5],[],[]⟩
def zk150:ZK:=⟨[0,1,4,6],[⟨3,[9,10],[],[(9,[0,1,2,3,4,5,6,7])],[0,1,2,3,4,5,6,7,8,9,10,11]⟩],[]⟩
def zk151:ZK:=⟨[0,1,2,6,7,9,13,16],[],[]⟩
def zk152:ZK:=⟨[0,1,2,6,7,11],[],[]⟩
def zk153:ZK:=⟨[0,1,2,3,7,8,10,13,14,15,24,28],[⟨9,[9],[],[],[0,1,2,3,4,5,6,7,8,9,10]⟩],[]⟩
def zk154:ZK:=⟨[0,1,4,5,7,15,16,17,18],[⟨6,[21],[],[],[0,1,2,3,4,5,6,7,8,9,10,11,12,13,14,15,16,17,18,19,20,21]⟩],[]⟩
def zk155:ZK:=⟨[0,1,3,4,5,16,22],[],[]⟩
def zk156:ZK:=⟨[0,1,4,5,7,15,16,17,18],[⟨6,[21],[],[],[0,1,2,3,4,5,6,7,8,9,10,11,12,13,14,15,16,17,18,19,20,21]⟩],[]⟩
def zk157:ZK:=⟨[0,2],[],[]⟩
def zk158:ZK:=⟨[0,1,4,10],[],[]⟩
def zk159:ZK:=⟨[0,2,4],[],[]⟩
def zk160:ZK:=⟨[0,1,4,5,6,14],[⟨4,[],[],[],[0,1,2,3,4,5,6,7,8,9,10,11,12,13,14,15,16,17,18,19]⟩],[]⟩
def zk161:ZK:=⟨[0,1,4,6],[],[]⟩
def zk162:ZK:=⟨[0,2,4],[],[]⟩
def zk163:ZK:=⟨[0,1,4,5,6,14],[⟨4,[18],[],[],[0,1,2,3,4,5,6,7,8,9,10,11,12,13,14,15,16,17,18,19]⟩],[]⟩
def zk164:ZK:=⟨[0,2,4],[],[]⟩
def zk165:ZK:=⟨[0,1,4,5,6,14],[⟨4,[18],[],[],[0,1,2,3,4,5,6,7,8,9,10,11,12,13,14,15,16,17,18,19]⟩],[]⟩
def zk166:ZK:=⟨[0,2],[⟨1,[],[],[],[0,1,2,3,4,5,6,7,8,9,10,11,12,13,14,15,16,17]⟩],[]⟩
def zk167:ZK:=⟨[0],[],[]⟩
def zk168:ZK:=⟨[0,1,4,5,6,7,8,26,38],[],[]⟩
def zk169:ZK:=⟨[0,1,2,3,8],[⟨1,[12],[],[],[0,1,2,3,4,5,6,7,8,9,10,11,12]⟩],[]⟩
def zk171:ZK:=⟨[0,1,4,6,12],[],[]⟩
def zk172:ZK:=⟨[0,1,2,6,7,8,9,26],[⟨1,[4,10,11],[],[(4,[5,6,7,8,9])],[0,1,2,3,5,6,7,8,9,4,10,11,12,13,14,15,16]⟩,⟨4,[17],[],[],[0,1,2,3,4,5,6,7,8,9,10,11,12,13,14,15,16,17,18,19,20,21]⟩],[]⟩
def zk173:ZK:=⟨[0,1,2,5,6,7],[],[]⟩
def zk174:ZK:=⟨[0,1,2,6,12,21,23],[⟨3,[2],[],[(2,[4,5,6,7])],[0,1,4,5,6,7,2,3,8]⟩],[]⟩
def zk176:ZK:=⟨[0,1,4,8],[],[]⟩
def zk177:ZK:=⟨[0,1,3,4,14,17,24],[],[]⟩
def zk178:ZK:=⟨[0,1,2,3,7,8,26,29],[⟨5,[9],[],[],[0,1,2,3,4,5,6,7,8,9,10]⟩],[]⟩
def zk179:ZK:=⟨[0,2,3,4,5,6,7,8,9,10,11,13,14,21,42,52,73,115,188],[⟨5,[],[],[],[0,1,2,3,4,5,6,7,8,9,10,11]⟩,⟨11,[],[],[],[0,1,2,3,4,5,6,7,8,9,10,11]⟩,⟨13,[4,15],[],[(4,[5,6,7,8,9,10,11,12,13,14])],[0,1,2,3,5,6,7,8,9,10,11,12,13,14,4,15,16]⟩,⟨15,[17,18],[],[(17,[0,1,2,3,4,5,6,7,8,9,10,11,12])],[0,1,2,3,4,5,6,7,8,9,10,11,12,13,14,15,16,17,18,19]⟩,⟨19,[20,25],[24],[(25,[23])],[0,1,2,3,4,5,6,7,8,9,10,11,12,13,14,15,16,17,18,19,20,21,22,23,24,25,26]⟩,⟨20,[11,14],[],[(11,[0])],[0,1,2,3,4,5,6,7,8,9,10,11,12,13,14]⟩,⟨22,[9,10],[],[(9,[0,1,2,3,4])],[0,1,2,3,4,5,6,7,8,9,10,11]⟩,⟨28,[13,19],[],[(13,[0]),(19,[16])],[0,1,2,3,4,5,6,7,8,9,10,11,12,13,14,15,16,17,18,19]⟩,⟨29,[19],[],[],[0,1,2,3,4,5,6,7,8,9,10,11,12,13,14,15,16,17,18,19]⟩],[]⟩
def zk180:ZK:=⟨[0,1,2,5,6,7,8,9,10,11,12,13,14,15,28,46,69],[⟨11,[4],[],[(4,[0,1])],[0,1,2,3,4,5,6]⟩],[]⟩
def zk181:ZK:=⟨[0,1,2,3,8,9,10,11,12,13,25,43,47],[],[]⟩
def zk182:ZK:=⟨[0,2,3,4,11],[],[]⟩
def zk184:ZK:=⟨[0,1,4,8],[],[]⟩
def zk191:ZK:=⟨[0],[],[]⟩
def zk192:ZK:=⟨[0],[],[]⟩
def zk193:ZK:=⟨[0,1,2,3,6,7,8,9,10,30],[],[]⟩
def zk194:ZK:=⟨[0,1,5,6,13,14,15,16,32],[⟨5,[7],[],[],[0,1,2,3,4,5,6,7]⟩],[]⟩
def zk195:ZK:=⟨[0,1,2,6,8],[],[]⟩
def zk196:ZK:=⟨[0,1,2,6,7,9,10,28,29,30,31],[⟨1,[14,15],[],[(14,[0,1,2,3,4,5,6,7,8,9])],[0,1,2,3,4,5,6,7,8,9,10,11,12,13,14,15,16]⟩,⟨5,[7,12],[11],[(12,[10])],[0,1,2,3,4,5,6,7,8,9,10,11,12,13]⟩,⟨6,[7,11],[],[(11,[10])],[0,1,2,3,4,5,6,7,8,9,10,11]⟩,⟨7,[7],[],[],[0,1,2,3,4,5,6,7]⟩,⟨8,[8],[],[],[0,1,2,3,4,5,6,7,8]⟩,⟨9,[7,8,11],[],[(7,[0,1,2,3,4]),(8,[0])],[0,1,2,3,4,5,6,7,8,9,10,11]⟩],[]⟩
def zk197:ZK:=⟨[0,1,2,6,7,8,12,19,20,21],[],[]⟩
def zk198:ZK:=⟨[0,1,2,3,5,8,9,10,11],[],[]⟩
def zk199:ZK:=⟨[0,1,2,5,6,7,8,9,11,12,21,22,23,24,35],[⟨8,[17,23,25],[],[(17,[0,1,2,3,4,5]),(23,[3,4,5,20,21]),(25,[21])],[0,1,2,3,4,5,6,7,8,9,10,11,12,13,14,15,16,17,18,19,20,21,22,23,24,25]⟩],[]⟩
def zk200:ZK:=⟨[0,1,4,5,15,16,17],[],[]⟩
def zk201:ZK:=⟨[0,1,5,6,7,8,10,11,12,14,15,16,17,37],[⟨8,[6],[],[],[0,1,2,3,4,5,6]⟩],[]⟩
def zk202:ZK:=⟨[0,1,2,5,6,7,8,9,10,11,12,14,25,26,27,28],[⟨10,[2],[],[(2,[0,3])],[0,1,3,2,4,5,6]⟩],[]⟩
def zk203:ZK:=⟨[0,1,4,5,15,16,17],[],[]⟩
def zk204:ZK:=⟨[0,1,2,3,8,9,10,11,12,13,14,26,34,40,46],[],[]⟩
def zk206:ZK:=⟨[0,1,4,6],[⟨3,[9,10],[],[(9,[0,1,2,3,4,5,6,7])],[0,1,2,3,4,5,6,7,8,9,10,11]⟩],[]⟩
def zk207:ZK:=⟨[0,2],[⟨1,[],[],[],[0,1,2,3,4,5,6,7,8,9,10,11,12,13,14,15,16,17]⟩],[]⟩
def zk208:ZK:=⟨[0,1,2,4,6,7,11,24],[⟨7,[9],[],[],[0,1,2,3,4,5,6,7,8,9]⟩],[]⟩
def zk209:ZK:=⟨[0,2,3,13],[⟨0,[],[],[],[0,1,2,3,4,5,6,7,8,9]⟩,⟨1,[12],[],[],[0,1,2,3,4,5,6,7,8,9,10,11,12,13]⟩,⟨2,[10],[],[],[0,1,2,3,4,5,6,7,8,9,10,11]⟩,⟨3,[12],[],[],[0,1,2,3,4,5,6,7,8,9,10,11,12]⟩],[]⟩
def zk211:ZK:=⟨[0,1,4,5,6,8,9,10,11,12],[],[]⟩
def zk212:ZK:=⟨[0,1,4,5,6,10,13],[],[]⟩
def zk213:ZK:=⟨[0,1,2,3,7,8,9],[⟨1,[4,8,9,10],[],[(4,[5,6,7]),(8,[5,6])],[0,1,2,3,5,6,7,4,8,9,10,11,12,13,14]⟩],[]⟩
def zk220:ZK:=⟨[0,1,2,5,6,7,8,10,18,29,32],[⟨6,[],[],[],[0,1,2,3,4,5,6,7,8,9,10]⟩,⟨12,[7],[],[],[0,1,2,3,4,5,6,7]⟩],[]⟩
def zk221:ZK:=⟨[0,1,2,6,7,8,21],[],[]⟩
def zk222:ZK:=⟨[0,1,4],[],[]⟩
def zk223:ZK:=⟨[0,1,4],[⟨1,[],[],[],[0,1,2,3,4,5,6,7,8,9,10,11,12]⟩],[]⟩
def zk224:ZK:=⟨[0,1,2,3,4,5,6,8,9,10,11,12,21],[],[]⟩
def zk225:ZK:=⟨[0,2,4],[⟨3,[],[],[],[0,1,2,3,4,5,6,7,8,9]⟩],[]⟩
def zk226:ZK:=⟨[0,2,3,13],[⟨0,[],[],[],[0,1,2,3,4,5,6,7,8,9]⟩,⟨1,[12],[],[],[0,1,2,3,4,5,6,7,8,9,10,11,12,13]⟩,⟨2,[10],[],[],[0,1,2,3,4,5,6,7,8,9,10,11]⟩,⟨3,[12],[],[],[0,1,2,3,4,5,6,7,8,9,10,11,12]⟩],[]⟩
def zk227:ZK:=⟨[0,2,4],[⟨3,[],[],[],[0,1,2,3,4,5,6,7,8,9]⟩],[]⟩
def zk228:ZK:=⟨[0,2,3,13],[⟨0,[],[],[],[0,1,2,3,4,5,6,7,8,9]⟩,⟨1,[12],[],[],[0,1,2,3,4,5,6,7,8,9,10,11,12,13]⟩,⟨2,[10],[],[],[0,1,2,3,4,5,6,7,8,9,10,11]⟩,⟨3,[12],[],[],[0,1,2,3,4,5,6,7,8,9,10,11,12]⟩],[]⟩
def zk229:ZK:=⟨[0,1,4,14],[],[]⟩
def zk230:ZK:=⟨[0,2],[⟨1,[],[],[],[0,1,2,3,4,5,6,7,8,9,10,11,12,13,14]⟩],[]⟩
def zk233:ZK:=⟨[0,1,4,5,6,7,11],[],[]⟩
def zk234:ZK:=⟨[0,1,4,5,13,16],[],[]⟩
def zk235:ZK:=⟨[0,1,2,3,7,8,9],[⟨1,[7,9],[],[(7,[0,1,2,3,4,5])],[0,1,2,3,4,5,6,7,8,9,10,11,12,13]⟩],[]⟩
def zk238:ZK:=⟨[0,1,2,3,4,5,6,7,8,16,22,39],[],[]⟩
def zk239:ZK:=⟨[0,1,2,6],[⟨2,[7,10],[],[(7,[0])],[0,1,2,3,4,5,6,7,8,9,10]⟩],[]⟩
def zk240:ZK:=⟨[0,1,2,6,8],[],[]⟩
def zk241:ZK:=⟨[0,1,2,3,4,10,11,12,13,14,25,34],[],[]⟩
def zk243:ZK:=⟨[0,1,2,6,7,8,9,13,33],[],[]⟩
def zk244:ZK:=⟨[0,1,2,5,6,7,8,9,10,11,24,41],[⟨6,[12],[],[],[0,1,2,3,4,5,6,7,8,9,10,11,12,13,14]⟩],[]⟩
def zk245:ZK:=⟨[0,1,2,3,4,18],[],[]⟩
def zk249:ZK:=⟨[0,1,2],[],[]⟩
def zk250:ZK:=⟨[0,1,2,6],[],[]⟩
def zk251:ZK:=⟨[0,1,2],[],[]⟩
def zk252:ZK:=⟨[0,1,2],[],[]⟩
def zk253:ZK:=⟨[0,1,2],[],[]⟩
def zk254:ZK:=⟨[0,1,2],[],[]⟩
def zk255:ZK:=⟨[0,1,2,6],[],[]⟩
def zk256:ZK:=⟨[0,1,2],[],[]⟩
def zk257:ZK:=⟨[0,1,2],[],[]⟩
def zk258:ZK:=⟨[0,1,2],[],[]⟩
def zk259:ZK:=⟨[0,1,2],[],[]⟩
def zk260:ZK:=⟨[0,1,2],[],[]⟩
def zk261:ZK:=⟨[0,1,2],[],[]⟩
def zk262:ZK:=⟨[0,1,2],[],[]⟩
def zk263:ZK:=⟨[0,1,2],[],[]⟩
def zk264:ZK:=⟨[0,1,2],[],[]⟩
def zk265:ZK:=⟨[0,1,2],[],[]⟩
def zk266:ZK:=⟨[0,1,2],[],[]⟩
def zk267:ZK:=⟨[0,1,2],[],[]⟩
def zk268:ZK:=⟨[0,1,2],[],[]⟩
def zk269:ZK:=⟨[0,1,2],[],[]⟩
def zk270:ZK:=⟨[0,1,2],[],[]⟩
def zk272:ZK:=⟨[0,1,3,4,5,6,10],[⟨6,[9],[],[],[0,1,2,3,4,5,6,7,8,9]⟩],[]⟩
def zk273:ZK:=⟨[0,1,2,3,4,10,11,12,13,14,15,21,40,58],[],[]⟩
def zk275:ZK:=⟨[0,1,2,3,4,5,6,7,8],[],[]⟩
def zk276:ZK:=⟨[0,2,3,4,5,6,12],[⟨4,[10],[],[],[0,1,2,3,4,5,6,7,8,9,10]⟩,⟨5,[14],[],[],[0,1,2,3,4,5,6,7,8,9,10,11,12,13,14]⟩],[]⟩
def zk277:ZK:=⟨[0,1,2,3,4,5,6,7,8,9,15],[⟨7,[2,3],[],[(2,[1])],[0,1,2,3,4]⟩],[]⟩
def zk278:ZK:=⟨[0,2,3,4,5,6,12],[⟨4,[10],[],[],[0,1,2,3,4,5,6,7,8,9,10]⟩,⟨5,[14],[],[],[0,1,2,3,4,5,6,7,8,9,10,11,12,13,14]⟩],[]⟩
def zk279:ZK:=⟨[0,1,2,3,4,5,6,16],[⟨2,[8,13],[12],[(13,[11])],[0,1,2,3,4,5,6,7,8,9,10,11,12,13,14]⟩],[]⟩
def zk280:ZK:=⟨[0,1,2,3,5,6,7,8],[],[]⟩
def zk281:ZK:=⟨[0,2],[],[]⟩
def zk282:ZK:=⟨[0,2,3,4,5,6,12],[⟨4,[10],[],[],[0,1,2,3,4,5,6,7,8,9,10]⟩,⟨5,[14],[],[],[0,1,2,3,4,5,6,7,8,9,10,11,12,13,14]⟩],[]⟩
def zk283:ZK:=⟨[0,1,2,3,4],[],[]⟩
def zk287:ZK:=⟨[0,1,4,12],[],[]⟩
def zk288:ZK:=⟨[0,1,2,3,4,5,6,7,8],[],[]⟩
def zk289:ZK:=⟨[0,1,2],[⟨1,[1],[],[(1,[3,4])],[0,3,4,1,2,5,6]⟩],[]⟩
def zk294:ZK:=⟨[0],[],[]⟩
def zk296:ZK:=⟨[0,1,4,12],[],[]⟩
def zk297:ZK:=⟨[0,1,2,3,4,8,10,11,12,13,22],[],[]⟩
def zk298:ZK:=⟨[0,1,2],[⟨1,[1],[],[(1,[3,4])],[0,3,4,1,2,5,6]⟩],[]⟩
def zk300:ZK:=⟨[0,1],[],[]⟩
def zk301:ZK:=⟨[0,2,3,4,10,22],[],[]⟩
def zk302:ZK:=⟨[0,2,3],[],[]⟩
def zk303:ZK:=⟨[0,1,4,10],[],[]⟩
def zk304:ZK:=⟨[0,2,3,4,5,6,7,18,31],[],[]⟩
def zk305:ZK:=⟨[0,1,2,6,7,8],[⟨6,[3,6],[],[(3,[4,5])],[0,1,2,4,5,3,6,7]⟩],[]⟩
def zk306:ZK:=⟨[0,1,4,5,6,7,12,19,29],[],[]⟩
def zk307:ZK:=⟨[0,1,2,3,4,8],[],[]⟩
def zk308:ZK:=⟨[0,1,4,6],[⟨3,[10,17],[],[(10,[0,1,2,3,4,5,6])],[0,1,2,3,4,5,6,7,8,9,10,11,12,13,14,15,16,17]⟩],[]⟩
def zk309:ZK:=⟨[0,1,4,6,8,19],[],[]⟩
def zk310:ZK:=⟨[0,2,3,4,5,6,7],[],[]⟩
def zk311:ZK:=⟨[0,2,3,4,5,6,7],[],[]⟩
def zk312:ZK:=⟨[0,2,3,5],[],[]⟩
def zk314:ZK:=⟨[0,1,2,3,4,6,7,8,35],[],[]⟩
def zk315:ZK:=⟨[0,1,2,3,4],[],[]⟩
def zk316:ZK:=⟨[0,1,2,3,4,5,13],[],[]⟩
def zk317:ZK:=⟨[0,1,4,5,6,7,12,19,29],[],[]⟩
def zk318:ZK:=⟨[0,1,2],[],[]⟩
def zk319:ZK:=⟨[0,1,2,3],[⟨1,[],[],[],[0,1,2,3,4,5,6]⟩,⟨2,[7],[],[],[0,1,2,3,4,5,6,7]⟩],[]⟩
def zk320:ZK:=⟨[0,1,2,3,4,6,7,8,9,18],[⟨4,[2,4,5],[],[(2,[0,3]),(4,[0])],[0,1,3,2,4,5,6,7,8,9]⟩],[]⟩
def zk321:ZK:=⟨[0,1,2,5,6,7,8,9,10,21,30],[],[]⟩
def zk322:ZK:=⟨[0,1,2,3],[⟨1,[1,3],[],[(1,[2])],[0,2,1,3,4,5]⟩],[]⟩
def zk326:ZK:=⟨[0,1,2,3,4,6],[],[]⟩
def zk327:ZK:=⟨[0,1,2,3,4,6],[],[]⟩
def zk328:ZK:=⟨[0,1,2,3,4,5,6,7,8],[],[]⟩
def zk329:ZK:=⟨[0,1,2,5,6,7,8,9,10,11,22,31],[],[]⟩
def zk330:ZK:=⟨[0,1,2,3],[],[]⟩
def zk332:ZK:=⟨[0,1,4,5,7,8,9,16],[],[]⟩
def zk333:ZK:=⟨[0,2],[],[]⟩
def zk334:ZK:=⟨[0,1,4,5,8],[],[]⟩
def zk335:ZK:=⟨[0,2,3,4,5,6,12],[],[]⟩
def zk336:ZK:=⟨[0,1,2,3,4,7,8,9,31],[],[]⟩
def zk337:ZK:=⟨[0,1,4,5,7,8,9,16],[],[]⟩
def zk338:ZK:=⟨[0,1,4,5,6,7,19],[],[]⟩
def zk339:ZK:=⟨[0,1,2],[],[]⟩
def zk340:ZK:=⟨[0,1,2],[],[]⟩
def zk343:ZK:=⟨[0,1,4,5,6,7,19],[],[]⟩
def zk344:ZK:=⟨[0,1,4,5,6,9],[],[]⟩
def zk346:ZK:=⟨[0,1,4,5,6,8,15],[],[]⟩
end
section
open Go.RowKit
structure ZW (n:Nat) (l:List (Nat × Value)) (L:List Asn) (p:Act→World→Prop):Prop where
 h:∀ a w,Fr a n l→Mem w L→p a w
def ZA (K:ZK) (q p:Prop):Prop:=q→p
section
variable {ops:Array Oper} {Q:Exit→Act→World→Prop} {X:Act→World→Prop} {rest:List Oper} {o:Oper} {a:Act} {w:World} {n:Nat} {l l':List (Nat × Value)} {L L':List Asn} {K:ZK} {p q:Prop}
theorem zI {p:Act→World→Prop} (F:Fr a n l) (M:Mem w L) (h:ZW n l L p):p a w:=h.h a w F M
theorem za0:ZA K q q:=id
theorem zaN (hf:filtO K.s l=some l') (h:ZA K q (ZW n l' L (Q .normal))):ZA K q (ZW n l L (wpList Tryz.prog ops Q [])):=fun hq=>⟨fun a w F M=>(h hq).h a w (F.filt K.s hf) M⟩
theorem zaM (h:ZA K q (ZW n l L (Q .normal))):ZA K q (ZW n l L (wpList Tryz.prog ops Q [])):=fun hq=>⟨(h hq).h⟩
theorem za1 (s:ZOn ops o n l L l' L') (h:ZA K q (ZW n l' L' (wpList Tryz.prog ops Q rest))):ZA K q (ZW n l L (wpList Tryz.prog ops Q (o::rest))):=fun hq=>⟨fun a w F M=>s Q rest a w F M (h hq).h⟩
theorem zaP {r s:List Oper} (h:ZA K q (ZW n l L (wpList Tryz.prog ops Q (o::List.append r s)))):ZA K q (ZW n l L (wpList Tryz.prog ops Q (List.append (o::r) s))):=h
theorem zaP0 {s:List Oper} (h:ZA K q (ZW n l L (wpList Tryz.prog ops Q s))):ZA K q (ZW n l L (wpList Tryz.prog ops Q (List.append [] s))):=h
def ZOb (ops:Array Oper) (o:Oper) (n:Nat) (l:List (Nat × Value)) (L:List Asn) (fl:Nat→List (Nat × Value)) (fL:Nat→List Asn):Prop:=∀ (Q:Exit→Act→World→Prop) (rest:List Oper) (a:Act) (w:World),Fr a n l→Mem w L→(∀ b a w,Fr a n (fl b)→Mem w (fL b)→wpList Tryz.prog ops Q rest a w)→wpList Tryz.prog ops Q (o::rest) a w
theorem zob {d:Nat} {fv:Nat→Value} {fL:Nat→List Asn} (hw:Wanted o ops l=some true:=by exact rfl) (hd:o.dst=some d:=by exact rfl) (hn:Nat.ble (d+1) n=true:=by exact rfl) (s:∀ C:Value→List Asn→Prop,(∀ b,C (fv b) (fL b))→AC o l L n C:=by(intro C h;exact acA h)):ZOb ops o n l L (fun b=>(d,fv b)::l) fL:=fun _ _ _ _ F M h=>sv_act F M hw hd hn (s _ h)
theorem zaB {fl:Nat→List (Nat × Value)} {fL:Nat→List Asn} {q:Nat→Prop} (s:ZOb ops o n l L fl fL) (h:∀ b,ZA K (q b) (ZW n (fl b) (fL b) (wpList Tryz.prog ops Q rest))):ZA K (∀ b,q b) (ZW n l L (wpList Tryz.prog ops Q (o::rest))):=fun hq=>⟨fun a w F M=>s Q rest a w F M fun b=>(h b (hq b)).h⟩
theorem zcR {id:Nat} {os:List Oper} (h:ZA K q (ZW n l L (wpList Tryz.prog os.toArray Q os))):ZA K q (ZW n l L ((Code.region id os.toArray false).wp Tryz.prog Q)):=fun hq=>⟨fun a w F M=>sx_region ((h hq).h a w F M)⟩
theorem zcQ {x y:Code} (h:ZA K q (ZW n l L (x.wp Tryz.prog (Exit.then (y.wp Tryz.prog Q) Q)))):ZA K q (ZW n l L ((Code.seq x y).wp Tryz.prog Q)):=fun hq=>⟨fun a w F M=>wp_seq ((h hq).h a w F M)⟩
theorem zcB {id:Nat} {x:Code} (h:ZA K q (ZW n l L (x.wp Tryz.prog (Exit.inBlock id Q)))):ZA K q (ZW n l L ((Code.block id x).wp Tryz.prog Q)):=fun hq=>⟨fun a w F M=>wp_block ((h hq).h a w F M)⟩
theorem zcS {x:Code} (h:ZA K q (ZW n l L (x.wp Tryz.prog (Exit.noGoto Q)))):ZA K q (ZW n l L ((Code.scope x).wp Tryz.prog Q)):=fun hq=>⟨fun a w F M=>wp_scope_straight ((h hq).h a w F M)⟩
theorem zcL {i:Nat} (h:ZA K q (ZW n l L (Q .normal))):ZA K q (ZW n l L ((Code.label i).wp Tryz.prog Q)):=fun hq=>⟨fun a w F M=>wp_label ((h hq).h a w F M)⟩
theorem zcK (h:ZA K q (ZW n l L (Q .normal))):ZA K q (ZW n l L (Code.skip.wp Tryz.prog Q)):=fun hq=>⟨fun a w F M=>wp_skip ((h hq).h a w F M)⟩
theorem zcE {i:Nat} (h:ZA K q (ZW n l L (Q (.exit i)))):ZA K q (ZW n l L ((Code.exit i).wp Tryz.prog Q)):=fun hq=>⟨fun a w F M=>wp_exit ((h hq).h a w F M)⟩
theorem zcX (h:ZA K q (ZW n l L (Q .ret))):ZA K q (ZW n l L (Code.ret.wp Tryz.prog Q)):=fun hq=>⟨fun a w F M=>wp_ret ((h hq).h a w F M)⟩
theorem zcT {c:Operand} {x y:Code} (hc:evl l c=some (.bool true)) (h:ZA K q (ZW n l L (x.wp Tryz.prog Q))):ZA K q (ZW n l L ((Code.cond c x y).wp Tryz.prog Q)):=fun hq=>⟨fun a w F M=>sx_cond_t F hc ((h hq).h a w F M)⟩
theorem zcF {c:Operand} {x y:Code} (hc:evl l c=some (.bool false)) (h:ZA K q (ZW n l L (y.wp Tryz.prog Q))):ZA K q (ZW n l L ((Code.cond c x y).wp Tryz.prog Q)):=fun hq=>⟨fun a w F M=>sx_cond_f F hc ((h hq).h a w F M)⟩
theorem zeN (h:ZA K q (ZW n l L X)):ZA K q (ZW n l L (Exit.then X Q .normal)):=h
theorem zeR (h:ZA K q (ZW n l L (Q .ret))):ZA K q (ZW n l L (Exit.then X Q .ret)):=h
theorem zeX {i:Nat} (h:ZA K q (ZW n l L (Q (.exit i)))):ZA K q (ZW n l L (Exit.then X Q (.exit i))):=h
theorem zbN {j:Nat} (h:ZA K q (ZW n l L (Q .normal))):ZA K q (ZW n l L (Exit.inBlock j Q .normal)):=h
theorem zbR {j:Nat} (h:ZA K q (ZW n l L (Q .ret))):ZA K q (ZW n l L (Exit.inBlock j Q .ret)):=h
theorem zbX {i j:Nat} (he:Nat.beq i j=true) (h:ZA K q (ZW n l L (Q .normal))):ZA K q (ZW n l L (Exit.inBlock j Q (.exit i))):=fun hq=>⟨fun a w F M=>by
 have e:i=j:=Nat.eq_of_beq_eq_true he
 simp only[Exit.inBlock,e,if_true]
 exact(h hq).h a w F M⟩
theorem zbY {i j:Nat} (he:Nat.beq i j=false) (h:ZA K q (ZW n l L (Q (.exit i)))):ZA K q (ZW n l L (Exit.inBlock j Q (.exit i))):=fun hq=>⟨fun a w F M=>by
 have e:i≠j:=fun e=>by rw[e,Nat.beq_refl] at he;cases he
 simp only[Exit.inBlock,e,if_false]
 exact(h hq).h a w F M⟩
theorem zgN (h:ZA K q (ZW n l L (Q .normal))):ZA K q (ZW n l L (Exit.noGoto Q .normal)):=h
theorem zgR (h:ZA K q (ZW n l L (Q .ret))):ZA K q (ZW n l L (Exit.noGoto Q .ret)):=h
theorem zgX {i:Nat} (h:ZA K q (ZW n l L (Q (.exit i)))):ZA K q (ZW n l L (Exit.noGoto Q (.exit i))):=h
section
variable {E Fl:List Nat} {S:List (Nat × List Nat)} {σ done:List Nat} {i:Nat}
theorem zpA (s:ZPo ops n E Fl S i done l L l' L') (h:ZA K q (PW Tryz.prog ops n Q E Fl S σ (i::done) l' L')):ZA K q (PW Tryz.prog ops n Q E Fl S (i::σ) done l L):=fun hq=>s Q σ (h hq)
theorem zpB {fl:Nat→List (Nat × Value)} {fL:Nat→List Asn} {q:Nat→Prop} (s:ZPb ops n E Fl S i done l L fl fL) (h:∀ b,ZA K (q b) (PW Tryz.prog ops n Q E Fl S σ (i::done) (fl b) (fL b))):ZA K (∀ b,q b) (PW Tryz.prog ops n Q E Fl S (i::σ) done l L):=fun hq=>s Q σ fun b=>h b (hq b)
theorem zpN (hf:filtO K.s l=some l') (h:ZA K q (ZW n l' L (Q .normal))):ZA K q (PW Tryz.prog ops n Q E Fl S [] done l L):=fun hq=>pv_nil fun a w F M=>(h hq).h a w (F.filt K.s hf) M
theorem zpM (h:ZA K q (ZW n l L (Q .normal))):ZA K q (PW Tryz.prog ops n Q E Fl S [] done l L):=fun hq=>pv_nil (h hq).h
theorem zpV {js:List Nat} (hr:Rvs Tryz.prog ops n js l L) (h:ZA K q p):ZA K q (Rvs Tryz.prog ops n js l L∧p):=fun hq=>⟨hr,h hq⟩
end
section
variable {E Fl js:List Nat} {r:Tr} {i:Nat}
def ZTo (ops:Array Oper) (n:Nat) (E Fl:List Nat) (i:Nat) (js:List Nat) (l:List (Nat × Value)) (L:List Asn) (l':List (Nat × Value)) (L':List Asn):Prop:=∀ (Q:Exit→Act→World→Prop) (r:Tr),PV Tryz.prog ops n Q E Fl r l' L'→PV Tryz.prog ops n Q E Fl (.cons i js r) l L
theorem zt1 (s:ZTo ops n E Fl i js l L l' L') (h:ZA K q (PV Tryz.prog ops n Q E Fl r l' L')):ZA K q (PV Tryz.prog ops n Q E Fl (.cons i js r) l L):=fun hq=>s Q r (h hq)
theorem ztN (hf:filtO K.s l=some l') (h:ZA K q (ZW n l' L (Q .normal))):ZA K q (PV Tryz.prog ops n Q E Fl .nil l L):=fun hq=>tv_nil fun a w F M=>(h hq).h a w (F.filt K.s hf) M
theorem ztM (h:ZA K q (ZW n l L (Q .normal))):ZA K q (PV Tryz.prog ops n Q E Fl .nil l L):=fun hq=>tv_nil (h hq).h
theorem zts1 {d:Nat} {v:Value} (hi:ops[i]? = some o:=by exact rfl) (hf:Fl.contains i=false:=by exact rfl) (he:E.contains i=false:=by exact rfl) (hw:Wanted o ops l=some true:=by exact rfl) (hd:o.dst=some d:=by exact rfl) (hr:RT o l L n v:=by exact rtA):ZTo ops n E Fl i js l L ((d,v)::l) L:=fun _ _ h=>tv1 h hi hf he hw hd hr
theorem zts3 {v:Value} (hi:ops[i]? = some o:=by exact rfl) (hf:Fl.contains i=false:=by exact rfl) (he:E.contains i=true:=by exact rfl) (hw:Wanted o ops l=some true:=by exact rfl) (hd:o.dst=none:=by exact rfl) (s:∀ C:Value→List Asn→Prop,C v L'→AC o l L n C:=by(intro C h;exact acB h)) (hr:Rvs Tryz.prog ops n js l L':=by exact rvsA):ZTo ops n E Fl i js l L l L':=fun _ _ h=>tv3 h hi hf he hw hd s hr
theorem ztsK {d:Nat} (hi:ops[i]? = some o:=by exact rfl) (hf:Fl.contains i=false:=by exact rfl) (hw:Wanted o ops l=some false:=by exact rfl) (hd:o.dst=some d:=by exact rfl):ZTo ops n E Fl i js l L ((d,undef)::l) L:=fun _ _ h=>tvK h hi hf hw hd
theorem ztsK0 (hi:ops[i]? = some o:=by exact rfl) (hf:Fl.contains i=false:=by exact rfl) (he:E.contains i=true:=by exact rfl) (hw:Wanted o ops l=some false:=by exact rfl) (hd:o.dst=none:=by exact rfl):ZTo ops n E Fl i js l L l L:=fun _ _ h=>tvK0 h hi hf he hw hd
def ZTb (ops:Array Oper) (n:Nat) (E Fl:List Nat) (i:Nat) (js:List Nat) (l:List (Nat × Value)) (L:List Asn) (fl:Nat→List (Nat × Value)) (fL:Nat→List Asn):Prop:=∀ (Q:Exit→Act→World→Prop) (r:Tr),(∀ b,PV Tryz.prog ops n Q E Fl r (fl b) (fL b))→PV Tryz.prog ops n Q E Fl (.cons i js r) l L
theorem ztb2 {d:Nat} {fv:Nat→Value} {fL:Nat→List Asn} (hi:ops[i]? = some o:=by exact rfl) (hf:Fl.contains i=false:=by exact rfl) (he:E.contains i=true:=by exact rfl) (hw:Wanted o ops l=some true:=by exact rfl) (hd:o.dst=some d:=by exact rfl) (s:∀ C:Value→List Asn→Prop,(∀ b,C (fv b) (fL b))→AC o l L n C:=by(intro C h;exact acA h)) (hr:∀ b,Rvs Tryz.prog ops n js ((d,fv b)::l) (fL b):=by(intro b;exact rvsA)):ZTb ops n E Fl i js l L (fun b=>(d,fv b)::l) fL:=fun _ _ h=>tv2 h hi hf he hw hd s hr
theorem ztbF {t:TypeId} {cs:List Value} {d:Nat} (hi:ops[i]? = some o:=by exact rfl) (hf:Fl.contains i=true:=by exact rfl) (ho:o.op=.alloc t:=by exact rfl) (hz:ZT t cs:=by exact inferInstance) (hd:o.dst=some d:=by exact rfl):ZTb ops n E Fl i js l L (fun b=>(d,.pointer (some ⟨b,0,none⟩))::l) (fun b=>pt b cs t::L):=fun _ _ h=>tvF h hi hf ho hz hd
theorem ztB {fl:Nat→List (Nat × Value)} {fL:Nat→List Asn} {q:Nat→Prop} (s:ZTb ops n E Fl i js l L fl fL) (h:∀ b,ZA K (q b) (PV Tryz.prog ops n Q E Fl r (fl b) (fL b))):ZA K (∀ b,q b) (PV Tryz.prog ops n Q E Fl (.cons i js r) l L):=fun hq=>s Q r fun b=>h b (hq b)
end
theorem zdP {id:Nat} {E Fl:List Nat} {S:List (Nat × List Nat)} {σ:List Nat} {i:Nat} (hf:zfind K.d id=some ⟨i,E,Fl,S,σ⟩) (hok:drawOK ops E Fl S σ n=true) (hFl:FlOK Tryz.prog ops Fl) (h:ZA K q (PW Tryz.prog ops n Q E Fl S σ [] l L)):ZA K q (ZW n l L ((Code.region id ops true).wp Tryz.prog Q)):=fun hq=>⟨fun a w F M=>sv_draw E Fl S σ F M hok hFl (h hq)⟩
theorem zdT {id:Nat} {E Fl:List Nat} {t:Tr} {i:Nat} (hf:zfindT K.t id=some ⟨i,E,Fl,t⟩) (hok:drawT ops E Fl t n=true) (hFl:FlOK Tryz.prog ops Fl) (h:ZA K q (PV Tryz.prog ops n Q E Fl t l L)):ZA K q (ZW n l L ((Code.region id ops true).wp Tryz.prog Q)):=fun hq=>⟨fun a w F M=>svTree E Fl t F M (h hq) hok hFl⟩
theorem ztA {E Fl:List Nat} {t1 t2:Tr} {q1 q2:Prop} (h1:ZA K q1 (PV Tryz.prog ops n Q E Fl t1 l L)) (h2:ZA K q2 (PV Tryz.prog ops n Q E Fl t2 l L)):ZA K (q1∧q2) (PV Tryz.prog ops n Q E Fl (.alt t1 t2) l L):=fun hq=>tvA (h1 hq.1) (h2 hq.2)
theorem zA (K:ZK) (hq:q) (h:ZA K q p:=by((first|((with_reducible apply za1);(first|exact zo1|exact zo3|exact zoK|exact zoK0))|((with_reducible apply zaB);(exact zob);intro nb)|with_reducible apply zaP|with_reducible apply zaP0|((with_reducible apply zaN);(exact rfl))|with_reducible apply zaM|((with_reducible apply zcT);(exact rfl))|((with_reducible apply zcF);(exact rfl))|with_reducible apply zcR|with_reducible apply zcQ|with_reducible apply zeN|with_reducible apply zcB|with_reducible apply zcE|with_reducible apply zcX|with_reducible apply zcK|with_reducible apply zcL|with_reducible apply zcS|with_reducible apply zbN|((with_reducible apply zbX);(exact rfl))|((with_reducible apply zbY);(exact rfl))|with_reducible apply zeR|with_reducible apply zbR|with_reducible apply zeX|with_reducible apply zgN|with_reducible apply zgR|with_reducible apply zgX|((with_reducible apply zpA);(first|exact zq1|exact zq3|exact zqK|exact zqK0))|((with_reducible apply zpB);(first|exact zb2|exact zbF);intro nb)|((with_reducible apply zpN);(exact rfl))|with_reducible apply zpM|((with_reducible apply zpV);(exact rvsA))|((with_reducible apply zt1);(first|exact zts1|exact zts3|exact ztsK|exact ztsK0))|((with_reducible apply ztB);(first|exact ztb2|exact ztbF);intro nb)|((with_reducible apply ztN);(exact rfl))|with_reducible apply ztM|((with_reducible apply zdP);(exact rfl);(kernel_rfl);((first|(focus ((repeat (first|exact flok_nil|(apply flok_cons;(exact rfl);(exact rfl);(exact inferInstance);(exact rfl);(exact rfl))));done))|fail)))|((with_reducible apply zdT);(exact rfl);(kernel_rfl);((first|(focus ((repeat (first|exact flok_nil|(apply flok_cons;(exact rfl);(exact rfl);(exact inferInstance);(exact rfl);(exact rfl))));done))|fail)))|with_reducible apply ztA);(repeat'(first|((with_reducible apply za1);(first|exact zo1|exact zo3|exact zoK|exact zoK0))|((with_reducible apply zaB);(exact zob);intro nb)|with_reducible apply zaP|with_reducible apply zaP0|((with_reducible apply zaN);(exact rfl))|with_reducible apply zaM|((with_reducible apply zcT);(exact rfl))|((with_reducible apply zcF);(exact rfl))|with_reducible apply zcR|with_reducible apply zcQ|with_reducible apply zeN|with_reducible apply zcB|with_reducible apply zcE|with_reducible apply zcX|with_reducible apply zcK|with_reducible apply zcL|with_reducible apply zcS|with_reducible apply zbN|((with_reducible apply zbX);(exact rfl))|((with_reducible apply zbY);(exact rfl))|with_reducible apply zeR|with_reducible apply zbR|with_reducible apply zeX|with_reducible apply zgN|with_reducible apply zgR|with_reducible apply zgX|((with_reducible apply zpA);(first|exact zq1|exact zq3|exact zqK|exact zqK0))|((with_reducible apply zpB);(first|exact zb2|exact zbF);intro nb)|((with_reducible apply zpN);(exact rfl))|with_reducible apply zpM|((with_reducible apply zpV);(exact rvsA))|((with_reducible apply zt1);(first|exact zts1|exact zts3|exact ztsK|exact ztsK0))|((with_reducible apply ztB);(first|exact ztb2|exact ztbF);intro nb)|((with_reducible apply ztN);(exact rfl))|with_reducible apply ztM|((with_reducible apply zdP);(exact rfl);(kernel_rfl);((first|(focus ((repeat (first|exact flok_nil|(apply flok_cons;(exact rfl);(exact rfl);(exact inferInstance);(exact rfl);(exact rfl))));done))|fail)))|((with_reducible apply zdT);(exact rfl);(kernel_rfl);((first|(focus ((repeat (first|exact flok_nil|(apply flok_cons;(exact rfl);(exact rfl);(exact inferInstance);(exact rfl);(exact rfl))));done))|fail)))|with_reducible apply ztA));(all_goals exact za0))):p:=h hq
theorem zA1 (K:ZK) (hq:q) (h:ZA K q p:=by((first|((with_reducible apply za1);(first|exact zo1|exact zo3|exact zoK|exact zoK0))|((with_reducible apply zaB);(exact zob);intro nb)|with_reducible apply zaP|with_reducible apply zaP0|((with_reducible apply zaN);(exact rfl))|with_reducible apply zaM|((with_reducible apply zcT);(exact rfl))|((with_reducible apply zcF);(exact rfl))|with_reducible apply zcR|with_reducible apply zcQ|with_reducible apply zeN|with_reducible apply zcB|with_reducible apply zcE|with_reducible apply zcX|with_reducible apply zcK|with_reducible apply zcL|with_reducible apply zcS|with_reducible apply zbN|((with_reducible apply zbX);(exact rfl))|((with_reducible apply zbY);(exact rfl))|with_reducible apply zeR|with_reducible apply zbR|with_reducible apply zeX|with_reducible apply zgN|with_reducible apply zgR|with_reducible apply zgX|((with_reducible apply zpA);(first|exact zq1|exact zq3|exact zqK|exact zqK0))|((with_reducible apply zpB);(first|exact zb2|exact zbF);intro nb)|((with_reducible apply zpN);(exact rfl))|with_reducible apply zpM|((with_reducible apply zpV);(exact rvsA))|((with_reducible apply zt1);(first|exact zts1|exact zts3|exact ztsK|exact ztsK0))|((with_reducible apply ztB);(first|exact ztb2|exact ztbF);intro nb)|((with_reducible apply ztN);(exact rfl))|with_reducible apply ztM|((with_reducible apply zdP);(exact rfl);(kernel_rfl);((first|(focus ((repeat (first|exact flok_nil|(apply flok_cons;(exact rfl);(exact rfl);(exact inferInstance);(exact rfl);(exact rfl))));done))|fail)))|((with_reducible apply zdT);(exact rfl);(kernel_rfl);((first|(focus ((repeat (first|exact flok_nil|(apply flok_cons;(exact rfl);(exact rfl);(exact inferInstance);(exact rfl);(exact rfl))));done))|fail)))|with_reducible apply ztA);(all_goals exact za0))):p:=h hq
theorem zst {c:Operand} {v x y z:Code} (h:ZA K q (ZW n l L ((Code.seq (Code.seq v (Code.cond c x y)) z).wp Tryz.prog Q))):ZA K q (ZW n l L ((Code.seq (Code.seq v (Code.cond c x y)) z).wp Tryz.prog Q)):=h
theorem zJ1 (K:ZK) (hq:q) (h:ZA K q p:=by((fail_if_success(with_reducible apply zst));(first|((with_reducible apply za1);(first|exact zo1|exact zo3|exact zoK|exact zoK0))|((with_reducible apply zaB);(exact zob);intro nb)|with_reducible apply zaP|with_reducible apply zaP0|((with_reducible apply zaN);(exact rfl))|with_reducible apply zaM|((with_reducible apply zcT);(exact rfl))|((with_reducible apply zcF);(exact rfl))|with_reducible apply zcR|with_reducible apply zcQ|with_reducible apply zeN|with_reducible apply zcB|with_reducible apply zcE|with_reducible apply zcX|with_reducible apply zcK|with_reducible apply zcL|with_reducible apply zcS|with_reducible apply zbN|((with_reducible apply zbX);(exact rfl))|((with_reducible apply zbY);(exact rfl))|with_reducible apply zeR|with_reducible apply zbR|with_reducible apply zeX|with_reducible apply zgN|with_reducible apply zgR|with_reducible apply zgX|((with_reducible apply zpA);(first|exact zq1|exact zq3|exact zqK|exact zqK0))|((with_reducible apply zpB);(first|exact zb2|exact zbF);intro nb)|((with_reducible apply zpN);(exact rfl))|with_reducible apply zpM|((with_reducible apply zpV);(exact rvsA))|((with_reducible apply zt1);(first|exact zts1|exact zts3|exact ztsK|exact ztsK0))|((with_reducible apply ztB);(first|exact ztb2|exact ztbF);intro nb)|((with_reducible apply ztN);(exact rfl))|with_reducible apply ztM|((with_reducible apply zdP);(exact rfl);(kernel_rfl);((first|(focus ((repeat (first|exact flok_nil|(apply flok_cons;(exact rfl);(exact rfl);(exact inferInstance);(exact rfl);(exact rfl))));done))|fail)))|((with_reducible apply zdT);(exact rfl);(kernel_rfl);((first|(focus ((repeat (first|exact flok_nil|(apply flok_cons;(exact rfl);(exact rfl);(exact inferInstance);(exact rfl);(exact rfl))));done))|fail)))|with_reducible apply ztA);(all_goals exact za0))):p:=h hq
theorem zGo {f:FuncId} {fn:Func} {c:Code} {us:List Value} {L:List Asn} {L2:List Asn→List Asn} {C:Value→List Asn→Prop} {n k:Nat} (hf:Tryz.prog.funcs[f]? = some fn)
  (h:∀ G w,Mem w (L2 G)→∀ a,Fr a n (initL 0 us)→c.wp Tryz.prog (bodyPost Tryz.prog fn fun e w'=>∃ v L',e=.returned v∧C v L'∧Mem w' (L'++G)) a w)
  (hb:fn.body=some c:=by exact rfl) (hn:fn.ntmps=n:=by exact rfl) (hle:Nat.ble us.length n=true:=by exact rfl) (hk:n - us.length=k:=by exact rfl) (hL:∀ G,L++G=L2 G:=by(intro G;(try simp only[List.cons_append,List.nil_append]);exact rfl)):Spec f us L C:=fun G w M=>sx_enter hf hb hn hle hk fun a F=>h G w (hL G ▸ M) a F
theorem zGz {f:FuncId} {fn:Func} {c:Code} {us:List Value} {L:List Asn} {L2:List Asn→List Asn} {C:Value→List Asn→Prop} {n k:Nat} (hf:Tryz.prog.funcs[f]? = some fn)
  (h:∀ G,ZW n (initL 0 us) (L2 G) (c.wp Tryz.prog (bodyPost Tryz.prog fn fun e w'=>∃ v L',e=.returned v∧C v L'∧Mem w' (L'++G))))
  (hb:fn.body=some c:=by exact rfl) (hn:fn.ntmps=n:=by exact rfl) (hle:Nat.ble us.length n=true:=by exact rfl) (hk:n - us.length=k:=by exact rfl) (hL:∀ G,L++G=L2 G:=by(intro G;(try simp only[List.cons_append,List.nil_append]);exact rfl)):Spec f us L C:=fun G w M=>sx_enter hf hb hn hle hk fun a F=>(h G).h a w F (hL G ▸ M)
theorem zXw {fn:Func} {R:Ending→World→Prop} {e:Exit} (h:∀ a w,Fr a n l→Mem w L→bodyPost Tryz.prog fn R e a w):ZW n l L (bodyPost Tryz.prog fn R e):=⟨h⟩
theorem zGe {f:FuncId} {fn:Func} {c:Code} {us:List Value} {w:World} {R:Ending→World→Prop} {n k:Nat} (hf:Tryz.prog.funcs[f]? = some fn) (h:∀ a,Fr a n (initL 0 us)→c.wp Tryz.prog (bodyPost Tryz.prog fn R) a w)
  (hb:fn.body=some c:=by exact rfl) (hn:fn.ntmps=n:=by exact rfl) (hle:Nat.ble us.length n=true:=by exact rfl) (hk:n - us.length=k:=by exact rfl):Calls Tryz.prog f us.toArray w R:=sx_enter hf hb hn hle hk h
theorem zXz {e:Exit} {fn:Func} {R:Ending→World→Prop} {rs:List ResultVar} {vs:List Value} {v:Value} (he:e=.normal∨e=.ret:=by(first|exact .inl rfl|exact .inr rfl)) (hf:fn.results=rs.toArray:=by exact rfl) (hr:Ress L l rs vs:=by(first|(focus ((repeat (first|exact Ress.nil|(apply Ress.cons)|(apply Res.tmp;exact rfl)|(apply Res.agg;(exact rfl);(exact inferInstance);((focus ((repeat (first|exact Pull.here|apply Pull.there));done)));(exact rfl))|(apply Res.one;(exact rfl);(exact inferInstance);((focus ((repeat (first|exact Pull.here|apply Pull.there));done)));(exact rfl))));done))|fail)) (hv:tupOf vs=v:=by exact rfl) (hR:∀ w,Mem w L→R (.returned v) w:=by(intro w M;exact⟨_,_,rfl,⟨rfl,rfl⟩,M.perms permsA⟩)):ZW n l L (bodyPost Tryz.prog fn R e):=⟨fun a w F M=>zE F M (hR w M) he hf hr hv⟩
theorem kp {f:Operand} {xs:Array Operand} {ats:Array TypeId} {k:FuncId} {caps:Array Value} {vs us:List Value} {L1 L2:List Asn} {v:Value} {C:Value→List Asn→Prop} (hs:Spec k us L1 fun u L'=>u=v∧L'=L2) (h:C v L2)
  (ho:o.op=.call {callee:=.value f,args:=xs,argTypes:=ats}:=by exact rfl) (hf:evl l f=some (.func (.func k) #[] caps):=by exact rfl) (hfk:FK k:=by exact inferInstance) (hx:evls l xs.toList=some vs:=by exact rfl) (hu:vs++caps.toList=us:=by exact rfl) (hp:Perms L L1:=by exact permsA):AC o l L n C:=acK hs (fun _ _ ⟨e1,e2⟩=>by rw[e1,e2];exact h) ho hf hfk hx hu hp
theorem kpW {f:Operand} {xs:Array Operand} {ats:Array TypeId} {k:FuncId} {caps:Array Value} {vs us:List Value} {L2:List Asn} {v:Value} {C:Value→List Asn→Prop} (hs:Spec k us L fun u L'=>u=v∧L'=L2) (h:C v L2)
  (ho:o.op=.call {callee:=.value f,args:=xs,argTypes:=ats}:=by exact rfl) (hf:evl l f=some (.func (.func k) #[] caps):=by exact rfl) (hfk:FK k:=by exact inferInstance) (hx:evls l xs.toList=some vs:=by exact rfl) (hu:vs++caps.toList=us:=by exact rfl):AC o l L n C:=acW hs (fun _ _ ⟨e1,e2⟩=>by rw[e1,e2];exact h) ho hf hfk hx hu
def ZC (ops:Array Oper) (p:Prop) (o:Oper) (l:List (Nat × Value)) (L:List Asn) (n:Nat) (C:Value→List Asn→Prop):Prop:=AC o l L n C→p
theorem zcm {C D:Value→List Asn→Prop} (h:AC o l L n C) (hi:∀ v L',C v L'→D v L'):AC o l L n D:=fun F a w hF hM=>(h F a w hF hM).mono fun _ _ ⟨L',h1,h2⟩=>⟨L',hi _ _ h1,h2⟩
theorem zc1 {d:Nat} (hw:Wanted o ops l=some true) (hd:o.dst=some d) (hn:Nat.ble (d+1) n=true):ZC ops (ZW n l L (wpList Tryz.prog ops Q (o::rest))) o l L n (fun v L'=>ZW n ((d,v)::l) L' (wpList Tryz.prog ops Q rest)):=fun h=>⟨fun a w F M=>sv_act F M hw hd hn (zcm h fun _ _ h=>h.h)⟩
theorem zc0 (hw:Wanted o ops l=some true) (hd:o.dst=none):ZC ops (ZW n l L (wpList Tryz.prog ops Q (o::rest))) o l L n (fun v L'=>ZW n l L' (wpList Tryz.prog ops Q rest)):=fun h=>⟨fun a w F M=>sv_act0 F M hw hd (zcm h fun _ _ h w M=>h.h a w F M)⟩
section
variable {E Fl js:List Nat} {S:List (Nat × List Nat)} {σ done:List Nat} {i:Nat} {r:Tr}
theorem zcp {d:Nat} (hi:ops[i]? = some o) (hf:Fl.contains i=false) (he:E.contains i=true) (hw:Wanted o ops l=some true) (hd:o.dst=some d) (hj:lookS S i=js):ZC ops (PW Tryz.prog ops n Q E Fl S (i::σ) done l L) o l L n (fun v L'=>Rvs Tryz.prog ops n js ((d,v)::l) L'∧PW Tryz.prog ops n Q E Fl S σ (i::done) ((d,v)::l) L'):=fun h=>pvC h hi hf he hw hd hj
theorem zcp0 (hi:ops[i]? = some o) (hf:Fl.contains i=false) (he:E.contains i=true) (hw:Wanted o ops l=some true) (hd:o.dst=none) (hj:lookS S i=js):ZC ops (PW Tryz.prog ops n Q E Fl S (i::σ) done l L) o l L n (fun v L'=>Rvs Tryz.prog ops n js l L'∧PW Tryz.prog ops n Q E Fl S σ (i::done) l L'):=fun h=>pvC0 h hi hf he hw hd hj
theorem zct {d:Nat} (hi:ops[i]? = some o) (hf:Fl.contains i=false) (he:E.contains i=true) (hw:Wanted o ops l=some true) (hd:o.dst=some d):ZC ops (PV Tryz.prog ops n Q E Fl (.cons i js r) l L) o l L n (fun v L'=>Rvs Tryz.prog ops n js ((d,v)::l) L'∧PV Tryz.prog ops n Q E Fl r ((d,v)::l) L'):=fun h=>tvC h hi hf he hw hd
theorem zct0 (hi:ops[i]? = some o) (hf:Fl.contains i=false) (he:E.contains i=true) (hw:Wanted o ops l=some true) (hd:o.dst=none):ZC ops (PV Tryz.prog ops n Q E Fl (.cons i js r) l L) o l L n (fun v L'=>Rvs Tryz.prog ops n js l L'∧PV Tryz.prog ops n Q E Fl r l L'):=fun h=>tvC0 h hi hf he hw hd
end
theorem zC {C:Value→List Asn→Prop} (h:AC o l L n C) (s:ZC ops p o l L n C:=by(first|((with_reducible apply zc1);(exact rfl);(exact rfl);(exact rfl))|((with_reducible apply zc0);(exact rfl);(exact rfl))|((with_reducible apply zcp)<;>exact rfl)|((with_reducible apply zcp0)<;>exact rfl)|((with_reducible apply zct)<;>exact rfl)|((with_reducible apply zct0)<;>exact rfl))):p:=s h
def ZRv (ops:Array Oper) (p:Prop) (P:Value→Prop) (o:Oper) (l:List (Nat × Value)) (L:List Asn) (n:Nat):Prop:=∀ v,RT o l L n v→P v→p
theorem zv1 {d:Nat} (hw:Wanted o ops l=some true) (hd:o.dst=some d) (hn:Nat.ble (d+1) n=true):ZRv ops (ZW n l L (wpList Tryz.prog ops Q (o::rest))) (fun v=>ZW n ((d,v)::l) L (wpList Tryz.prog ops Q rest)) o l L n:=fun v hr h=>⟨fun a w F M=>sv_run F M hw hd hn hr fun a' F'=>h.h a' w F' M⟩
section
variable {E Fl js:List Nat} {S:List (Nat × List Nat)} {σ done:List Nat} {i:Nat} {r:Tr}
theorem zvp {d:Nat} (hi:ops[i]? = some o) (hf:Fl.contains i=false) (he:E.contains i=false) (hw:Wanted o ops l=some true) (hd:o.dst=some d):ZRv ops (PW Tryz.prog ops n Q E Fl S (i::σ) done l L) (fun v=>PW Tryz.prog ops n Q E Fl S σ (i::done) ((d,v)::l) L) o l L n:=fun v hr h=>pv1 h hi hf he hw hd hr
theorem zvt {d:Nat} (hi:ops[i]? = some o) (hf:Fl.contains i=false) (he:E.contains i=false) (hw:Wanted o ops l=some true) (hd:o.dst=some d):ZRv ops (PV Tryz.prog ops n Q E Fl (.cons i js r) l L) (fun v=>PV Tryz.prog ops n Q E Fl r ((d,v)::l) L) o l L n:=fun v hr h=>tv1 h hi hf he hw hd hr
end
theorem zV {P:Value→Prop} (s:ZRv ops p P o l L n:=by(first|((with_reducible apply zv1)<;>exact rfl)|((with_reducible apply zvp)<;>exact rfl)|((with_reducible apply zvt)<;>exact rfl))) (h:∃ v,RT o l L n v∧P v):p:=h.elim fun v h=>s v h.1 h.2
def ZQ (p p1 p2 x y:Prop):Prop:=(p1→x)→(p2→y)→p
theorem zq {c:Operand} {x y:Code} {b:Bool} {p1 p2:Prop} (hc:evl l c=some (.bool b)) (ht:(b=true→p1)∧(b=false→p2)):ZQ (ZW n l L ((Code.cond c x y).wp Tryz.prog Q)) p1 p2 (ZW n l L (x.wp Tryz.prog Q)) (ZW n l L (y.wp Tryz.prog Q)):=fun h1 h2=>⟨fun a w F M=>svB F (fun h=>(h1 h).h a w F M) (fun h=>(h2 h).h a w F M) hc ht⟩
theorem zB {p1 p2 x y:Prop} (h1:p1→x) (h2:p2→y) (s:ZQ p p1 p2 x y:=by((with_reducible apply zq);(exact rfl);(exact tidyA))):p:=s h1 h2
theorem zg {b:Bool} (hg:guardOf o ops l=some (.bool b)):ZQ (ZW n l L (wpList Tryz.prog ops Q (o::rest))) (b=true) (b=false) (ZW n l L (wpList Tryz.prog ops Q (o::rest))) (ZW n l L (wpList Tryz.prog ops Q (o::rest))):=fun h1 h2=>⟨fun a w F M=>sx_guardb F hg (fun h=>(h1 h).h a w F M) (fun h=>(h2 h).h a w F M)⟩
theorem zgw {p1 p2 x y:Prop} (hw:Wanted o ops l=some true) (h:ZQ (ZW n l L (wpList Tryz.prog ops Q (o::rest))) p1 p2 x y):ZQ (ZW n l L (wpList Tryz.prog ops Q (o::rest))) p1 p2 x y:=h
theorem zH {p1 p2 x y:Prop} (h1:p1→x) (h2:p2→y) (s:ZQ p p1 p2 x y:=by((fail_if_success((with_reducible apply zgw);(exact rfl)));(with_reducible apply zg);(exact rfl))):p:=s h1 h2
end
end
section
open Go.RowKit Go.Maps
open Go.ChangeMaps (setBlock)
def updF (k:Int) (v:Value) (p:Value × Value):Value × Value:=match p.1 with
 | .int .i64 x=>if x=k then (.int .i64 k,v) else p
 | _=>p
theorem updF_hit (k:Int) (v u:Value):updF k v (.int .i64 k,u)=(.int .i64 k,v):=by simp[updF]
theorem updF_miss {k:Int} {v:Value} {p:Value × Value} (h:p.1≠.int .i64 k):updF k v p=p:=by
 unfold updF
 split
 ·rename_i x hx
  rw[if_neg]
  intro e
  exact h (by rw[hx,e])
 ·rfl
theorem updF_key (k:Int) (v:Value) (p:Value × Value):(updF k v p).1=p.1:=by
 unfold updF
 split
 ·rename_i x hx
  split
  ·rename_i e;rw[hx,e]
  ·rfl
 ·rfl
def updP (k:Int) (v:Value) (L:List (Value × Value)):List (Value × Value):=L.map (updF k v)
theorem updP_keys (k:Int) (v:Value) (L:List (Value × Value)):(updP k v L).map (·.1)=L.map (·.1):=by
 unfold updP
 rw[List.map_map]
 apply List.map_congr_left
 intro p _
 exact updF_key k v p
theorem nodup_at {α:Type} {l:List α} (h:l.Nodup) {i j:Nat} {x:α} (hi:l[i]? = some x) (hj:l[j]? = some x):i=j:=by
 rw[List.nodup_iff_pairwise_ne,List.pairwise_iff_getElem] at h
 obtain ⟨h1,h2⟩:=List.getElem?_eq_some_iff.1 hi
 obtain ⟨h3,h4⟩:=List.getElem?_eq_some_iff.1 hj
 rcases Nat.lt_trichotomy i j with hlt|rfl|hlt
 ·exact absurd (h2.trans h4.symm) (h i j h1 h3 hlt)
 ·rfl
 ·exact absurd (h4.trans h2.symm) (h j i h3 h1 hlt)
section
variable {P:Program} {w:World} {b:Nat} {L:List (Value × Value)} {T K E:TypeId}
theorem run_mapUpdate_hit (hT:P.underlying T=some (.map K E)) (hK:Keyed P K) {k:Int} {v0 v:Value} {l:Lit} (hk:keyOf P K (.int .i64 k)=some l) (hm:MapIs P K w b L) (hin:(.int .i64 k,v0)∈L) :
  ∃ w',(Instr.mapUpdate T (.map (some b)) (.int .i64 k) v).run P w=.ok () w'∧MapIs P K w' b (updP k v L)∧Touch b w w':=by
 obtain ⟨es,clk,hb,hp,hl,hn⟩:=hm
 have hkeys:∀ e∈es.toList,∃ l,keyOf P K e.key=some l:=fun e he=>hl (e.key,e.val) (hp.mem_iff.1 (List.mem_map.2 ⟨e,he,rfl⟩))
 rcases hK.find w hk es.toList hkeys with⟨_,h1⟩|⟨j,e,h1,h2,h3⟩
 ·exfalso
  obtain ⟨e,he,hkv⟩:=List.mem_map.1 (hp.mem_iff.2 hin)
  exact h1 e he (congrArg Prod.fst hkv)
 ·have hj:es[j]? = some e:=by simpa using h2
  have hnd:(es.toList.map (·.key)).Nodup:=by
   have:=(hp.map (·.1)).nodup_iff.2 hn.1
   simpa[pairs,Function.comp_def] using this
  have hpairs:pairs (es.modify j fun e=>{e with key:=.int .i64 k,val:=v})=updP k v (pairs es):=by
   simp only[pairs,updP,Array.toList_modify,List.map_map]
   apply List.ext_getElem?
   intro i
   simp only[List.getElem?_map,List.getElem?_modify,Function.comp_def]
   by_cases hij:j=i
   ·subst hij
    rw[h2]
    simp only[if_true,Option.map_some,h3,updF_hit]
    rfl
   ·cases he:es.toList[i]? with
    | none=>simp
    | some e' =>
     have hne:e'.key≠.int .i64 k:=fun hh=>by
      rw[← h3] at hh
      have i1:=(List.getElem?_eq_some_iff.1 he).1
      have i2:=(List.getElem?_eq_some_iff.1 h2).1
      exact hij (nodup_at hnd (by rw[List.getElem?_map,h2];rfl) (by rw[List.getElem?_map,he];simp[hh]))
     simp only[hij,if_false,Option.map_some]
     show some (e'.key,e'.val)=_
     rw[updF_miss (p:=(e'.key,e'.val)) hne]
  refine⟨setBlock w b (.map (es.modify j fun e=>{e with key:=.int .i64 k,val:=v}) clk),?_,⟨es.modify j fun e=>{e with key:=.int .i64 k,val:=v},clk,?_,?_,?_,?_,?_⟩,touch_setBlock w b _⟩
  ·have hkt:(Instr.keyThatStays (.int .i64 k) (.int .i64 k)).run P w=.ok (.int .i64 k) w:=by simp[Instr.keyThatStays,Instr.sameBits]
   simp[Instr.mapUpdate,run_underlying hT,MapKept.run_getObj_map hb,hK.check w false hk,h1,hj,h3,hkt,MapKept.run_setObj_map _ hb,Result.andThen,setBlock]
  ·have:=(Array.getElem?_eq_some_iff.1 hb).1
   simp[setBlock,this]
  ·rw[hpairs];exact hp.map _
  ·intro p hp'
   obtain ⟨q,hq,rfl⟩:=List.mem_map.1 hp'
   rw[updF_key]
   exact hl q hq
  ·rw[updP_keys];exact hn.1
  ·have hb1:(es.modify j fun e=>{e with key:=.int .i64 k,val:=v}).toList.map (·.born)=es.toList.map (·.born):=by
    apply List.ext_getElem?
    intro i
    simp only[Array.toList_modify,List.getElem?_map,List.getElem?_modify]
    by_cases hij:j=i
    ·subst hij;rw[h2];simp
    ·simp[hij]
   refine⟨by rw[hb1];exact hn.2.1,fun e' he'=>?_⟩
   have:e'.born∈es.toList.map (·.born):=by rw[← hb1];exact List.mem_map.2 ⟨e',he',rfl⟩
   obtain ⟨e2,he2,hbe⟩:=List.mem_map.1 this
   rw[← hbe];exact hn.2.2 e2 he2
end
section
variable {o:Oper} {n:Nat} {l:List (Nat × Value)} {L:List Asn} {C:Value→List Asn→Prop}
theorem ac_mapHit {t:TypeId} {x y z:Operand} (ho:o.op=.mapUpdate t x y z) {b:Nat} (hx:evl l x=some (.map (some b))) {k:Int} {v0 v:Value} (hy:evl l y=some (.int .i64 k)) (hz:evl l z=some v) {K E:TypeId} (ht:MT t K E) {q:Lit} (hk:keyOf Tryz.prog K (.int .i64 k)=some q) {P:List (Value × Value)} {L2:List Asn} (hp:Rep L (mp b K P) (mp b K (updP k v P)) L2) (hin:(.int .i64 k,v0)∈P) (h:C undef L2):AC o l L n C:=fun G a w F M=>by
 obtain ⟨L',h1,h2⟩:=hp.both
 obtain ⟨w',e,hm,ht'⟩:=run_mapUpdate_hit (v:=v) ht.k ht.h hk (gives_mp (h1.app G) w M) hin
 have:(execOp a.eval o).run Tryz.prog w=.ok .skip w':=by
  unfold execOp
  rw[ho]
  simp[F.eval hx,F.eval hy,F.eval hz,e]
 rw[this]
 refine⟨L2,h,M.rep (hp.app G) fun s hs=>?_⟩
 obtain ⟨rfl,_⟩:=hs.now
 exact⟨ht'.chg,[b],ok_mp hm,fun x hx=>.inl hx⟩
end
end
section
open Go.RowKit
def sh (D:List Deferred) (a:Act):Act:={a with defers:=a.defers++D}
theorem sh_put (D:List Deferred) (a:Act) (d:Option Tmp) (v:Value):(sh D a).put d v=sh D (a.put d v):=by cases d<;>rfl
section
variable {P:Program} {ops:Array Oper} {Q:Exit→Act→World→Prop} {D:List Deferred}
theorem upon_sh {o:Oper} {a:Act} {next:Act→World→Prop} {r:Result Next} (h:o.upon P a (fun a w=>next (sh D a) w) (fun e a w=>Q e (sh D a) w) r):o.upon P (sh D a) next Q r:=by
 cases r with
 | ok x w =>
  cases x<;>simp only[Oper.upon,sh_put] at h ⊢<;>first|exact h|skip
  ·exact h.mono fun e w' he=>by cases e<;>first|exact he|(obtain ⟨a',w'',h'⟩:=he;exact⟨_,_,h'⟩)
  ·rename_i d
   have e:({sh D a with defers:=d::(sh D a).defers}:Act)=sh D {a with defers:=d::a.defers}:=rfl
   rw[e,sh_put];exact h
 | halt x w=>cases x<;>simp only[Oper.upon] at h ⊢<;>exact h
theorem wp_sh {o:Oper} {a:Act} {w:World} {next:Act→World→Prop} (h:o.wp P a w (fun a w=>next (sh D a) w) (fun e a w=>Q e (sh D a) w)):o.wp P (sh D a) w next Q:=upon_sh h
theorem outs_sh (h:LetsOut fun e a w=>Q e (sh D a) w):LetsOut Q:=by obtain ⟨a,w,h⟩:=h;exact⟨_,w,h⟩
theorem wpList_sh:∀ (rest:List Oper) (a:Act) (w:World),wpList P ops (fun e a w=>Q e (sh D a) w) rest a w→wpList P ops Q rest (sh D a) w
 | [],a,w,h=>h
 | o::rest,a,w,h=>by
  simp only[wpList] at h ⊢
  have e:yielded ops (sh D a).tmps=yielded ops a.tmps:=rfl
  rw[e]
  split at h
  ·rename_i hw
   rw[if_pos hw]
   rcases h with h|⟨h1,h2⟩
   ·exact .inl (wp_sh (Oper.wp_mono (fun a w h=>wpList_sh rest a w h) h))
   ·exact .inr ⟨h1,outs_sh h2⟩
  ·rename_i hw
   rw[if_neg hw,sh_put]
   exact wpList_sh rest _ w h
theorem wpAny_sh:∀ (fuel:Nat) (listed:Array Bool) (a:Act) (w:World),wpAny P .any ops (fun e a w=>Q e (sh D a) w) fuel listed a w→wpAny P .any ops Q fuel listed (sh D a) w
 | 0,listed,a,w,h=>h
 | fuel+1,listed,a,w,h=>by
  refine⟨h.1,fun i hi=>?_⟩
  have h2:=h.2 i hi
  unfold wpOp at h2 ⊢
  cases ho:ops[i]? with
  | none=>rw[ho] at h2;exact wpAny_sh fuel _ a w h2
  | some o =>
   rw[ho] at h2
   have e:yielded ops (sh D a).tmps=yielded ops a.tmps:=rfl
   simp only[e] at h2 ⊢
   split at h2
   ·rename_i hw
    rw[if_pos hw]
    rcases h2 with h2|⟨h1,h3⟩
    ·exact .inl (wp_sh (Oper.wp_mono (fun a w h=>wpAny_sh fuel _ a w h) h2))
    ·exact .inr ⟨h1,outs_sh h3⟩
   ·rename_i hw
    rw[if_neg hw,sh_put]
    exact wpAny_sh fuel _ _ w h2
theorem regL_sh {id:Nat} {os:List Oper} {a:Act} {w:World} (h:wpList P os.toArray (fun e a w=>Q e (sh D a) w) os a w):(Code.region id os.toArray false).wp P Q (sh D a) w:=wp_region_lit (wpList_sh os a w h)
end
section
variable {ops:Array Oper} {Q:Exit→Act→World→Prop} {D:List Deferred} {a:Act} {w:World} {n:Nat} {l:List (Nat × Value)} {L:List Asn}
theorem regD_sh {id:Nat} (E Fl:List Nat) (S:List (Nat × List Nat)) (σ:List Nat) (F:Fr a n l) (M:Mem w L) (h:PW Tryz.prog ops n (fun e a w=>Q e (sh D a) w) E Fl S σ [] l L) (hok:drawOK ops E Fl S σ n=true:=by kernel_rfl) (hFl:FlOK Tryz.prog ops Fl:=by(first|(focus ((repeat (first|exact flok_nil|(apply flok_cons;(exact rfl);(exact rfl);(exact inferInstance);(exact rfl);(exact rfl))));done))|fail)):(Code.region id ops true).wp Tryz.prog Q (sh D a) w:=by
 simp only[drawOK,Bool.and_eq_true] at hok
 obtain ⟨⟨⟨⟨⟨hB,ho⟩,hlen⟩,hall⟩,hfl⟩,hds⟩:=hok
 have hn:∀ (i:Nat) (o:Oper) (d:Nat),ops[i]? = some o→o.dst=some d→d<n:=fun i o d hi hd=>by
  have:=Array.all_eq_true_iff_forall_mem.1 hds o (Array.mem_of_getElem? hi)
  rw[hd] at this
  exact Nat.le_of_ble_eq_true this
 have hEF:∀ i,Fl.contains i=true→E.contains i=false:=fun i hi=>by
  have:=List.all_eq_true.1 hfl i (by simpa using hi)
  simp only[Bool.and_eq_true,Bool.not_eq_true'] at this
  exact this.1
 have hrep:∀ j,(Array.replicate ops.size false).getD j true=true→ops.size≤j:=fun j hj=>by
  by_cases hlt:j<ops.size
  ·simp[hlt] at hj
  ·omega
 obtain ⟨done',rest',l',L',ear',hp,hh⟩:=norm hB hn (listed:=Array.replicate ops.size false) (a:=a) (w:={w with drawn:=w.drawn+1}) σ [] l L [] ⟨h,ho,fun i hi=>.inr (by simpa using List.all_eq_true.1 hall i (List.mem_range.2 hi)),by rw[List.map_nil,List.append_nil];exact M.drew _,by simp,by simp,fun j hj hjl=>by have:=hrep j hjl;omega,by simp,by simp,
  fun j o hj hjl=>by have:=hrep j hjl;have:=(Array.getElem?_eq_some_iff.1 hj).1;omega,F.ds,F.size,fun t v ht=>(F.val t v ht).1,fun t v ht=>.inl (F.val t v ht).2,by simp⟩
 exact wp_region_any mixed (wpAny_sh _ _ _ _ (pw_any hB hn hFl hEF ops.size _ a _ (by simp) (by simp[unlisted]) ⟨done',rest',l',L',ear',hp,hh⟩))
theorem sx_enterD {f:FuncId} {fn:Func} {c:Code} {vs:List Value} {w:World} {R:Ending→World→Prop} (hf:Tryz.prog.funcs[f]? = some fn) (hb:fn.body=some c) {n k:Nat} (hn:fn.ntmps=n) (hle:Nat.ble vs.length n=true) (hk0:n - vs.length=k)
  (h:∀ a,Fr a n (initL 0 vs)→c.wp Tryz.prog (bodyPostD Tryz.prog fn R) a w):Calls Tryz.prog f vs.toArray w R:=by
 have hk:vs.length+k=n:=by have:=Nat.le_of_ble_eq_true hle;omega
 subst hn
 refine calls_of_wp_defers hf hb (h _ ?_)
 have:=Fr.init vs k
 rw[hk] at this
 rw[show fn.ntmps - vs.toArray.size=k by simp;omega]
 exact this
def SpecD (k:FuncId) (us:List Value) (L:List Asn) (C:List Asn→Prop):Prop:=∀ G u w,Mem w (L++G)→CallsD Tryz.prog k us.toArray u w fun e u' w'=>u'=u∧∃ v L',e=.returned v∧C L'∧Mem w' (L'++G)
theorem sx_enterC {f:FuncId} {fn:Func} {c:Code} {vs:List Value} {u:FrameMode} {w:World} {R:Ending→World→Prop} (hf:Tryz.prog.funcs[f]? = some fn) (hb:fn.body=some c) {n k:Nat} (hn:fn.ntmps=n) (hle:Nat.ble vs.length n=true) (hk0:n - vs.length=k)
  (h:∀ a,Fr a n (initL 0 vs)→c.wp Tryz.prog (bodyPost Tryz.prog fn R) a w):CallsD Tryz.prog f vs.toArray u w fun e u' w'=>u'=u∧R e w':=by
 have hk:vs.length+k=n:=by have:=Nat.le_of_ble_eq_true hle;omega
 subst hn
 refine callsD_of_wp hf hb (h _ ?_)
 have:=Fr.init vs k
 rw[hk] at this
 rw[show fn.ntmps - vs.toArray.size=k by simp;omega]
 exact this
theorem sh_of (F:Fr a n l) (d:Deferred):({a with defers:=d::a.defers}:Act)=sh [d] a:=by
 have:=F.ds
 obtain ⟨t,ds⟩:=a
 simp only at this
 subst this;rfl
theorem svDefer {rest:List Oper} {o:Oper} (F:Fr a n l) {k:FuncId} {us:List Value} {fo:Operand} {xs:Array Operand} {ats:Array TypeId} (h:wpList Tryz.prog ops Q rest (sh [{target:=.fn (.func k) #[],args:=us.toArray}] a) w)
  (hw:Wanted o ops l=some true:=by exact rfl) (hd:o.dst=none:=by exact rfl) (ho:o.op=.defer {callee:=.value fo,args:=xs,argTypes:=ats}:=by exact rfl) (hf:evl l fo=some (.func (.func k) #[] #[]):=by exact rfl) (hx:evls l xs.toList=some us:=by exact rfl):wpList Tryz.prog ops Q (o::rest) a w:=by
 unfold wpList
 rw[if_pos (F.wanted hw)]
 refine .inl ?_
 unfold Oper.wp
 have e1:xs.map a.eval=us.toArray:=by have:=F.evals hx;apply Array.toList_inj.1;simpa using this
 have hr:(execOp a.eval o).run Tryz.prog w=.ok (.defer {target:=.fn (.func k) #[],args:=us.toArray}) w:=by
  unfold execOp
  rw[ho]
  simp[resolve,F.eval hf,Deferred.ofValue,e1]
 rw[hr]
 unfold Oper.upon
 rw[hd]
 show wpList Tryz.prog ops Q rest ({a with defers:=({target:=.fn (.func k) #[],args:=us.toArray}:Deferred)::a.defers}:Act) w
 rw[sh_of F]
 exact h
theorem svRetD {fn:Func} {R:Ending→World→Prop} {rs:List ResultVar} {vs:List Value} {v:Value} (F:Fr a n l) (M:Mem w L) (hR:R (.returned v) w) (hf:fn.results=rs.toArray:=by exact rfl) (hr:Ress L l rs vs:=by(first|(focus ((repeat (first|exact Ress.nil|(apply Ress.cons)|(apply Res.tmp;exact rfl)|(apply Res.agg;(exact rfl);(exact inferInstance);(exact pullA);(exact rfl))|(apply Res.one;(exact rfl);(exact inferInstance);(exact pullA);(exact rfl))));done))|fail)) (hv:tupOf vs=v:=by exact rfl):bodyPostD Tryz.prog fn R .ret a w:=by
 subst hv
 show Leaves _ _ _ _ _ _ _
 rw[F.ds]
 exact⟨_,hr.run F M hf,hR⟩
theorem end_sh {fn:Func} {R:Ending→World→Prop} {f:FuncId} [hfk:FK f] {us:List Value} {L1:List Asn} {C:List Asn→Prop} {rs:List ResultVar} {vs:List Value} (F:Fr a n l) (M:Mem w L) (hs:SpecD f us L1 C) {G:List Asn} (hp:Perms L (L1++G))
  (hf:fn.results=rs.toArray) (hr:∀ L',Ress (L'++G) l rs vs) (hR:∀ w' L',C L'→Mem w' (L'++G)→R (.returned (tupOf vs)) w'):bodyPostD Tryz.prog fn R .ret (sh [{target:=.fn (.func f) #[],args:=us.toArray}] a) w:=by
 have e:(sh [({target:=.fn (.func f) #[],args:=us.toArray}:Deferred)] a).defers=[{target:=.fn (.func f) #[],args:=us.toArray}]:=by simp[sh,F.ds]
 show Leaves _ _ _ _ _ _ _
 rw[e]
 refine leaves_cons (f:=f) (args:=us.toArray) (by simp) ?_ ?_
 ·have:=run_callFunc f us.toArray w
  simpa[invoke] using this
 ·refine(hs G .returning w (M.perms hp)).mono ?_
  rintro e u' w' ⟨rfl,v,L',rfl,hC,hM⟩
  exact⟨_,(show(results fn a.tmps).run Tryz.prog w'=_ from (hr L').run F hM hf),hR w' L' hC hM⟩
end
end
end Go.Proofs.YtopbohbkhljjgaaGreat
